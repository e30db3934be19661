import Derived.Test.YtcbimnmpdpkefaaDoorAx30
import Derived.Test.YtcbimnmpdpkefaaDoorAx32
import Derived.Test.YtcbimnmpdpkefaaDoorAx0
import Derived.Test.YtcbimnmpdpkefaaDoorAx42
import Derived.Test.YtcbimnmpdpkefaaDoorAx43
import Derived.Test.YtcbimnmpdpkefaaDoorPureShown
import Derived.Test.YtcbimnmpdpkefaaDoorWWords
import Derived.Deep.Slices
import Derived.ChangeArms
import GoSem.ClaimJoined
import Derived.Test.YtcbimnmpdpkefaaDoorCards
import Derived.Test.YtcbimnmpdpkefaaDoorTie
import Derived.WalkKit
import Derived.ProofKit
import Derived.OpenShut
import Derived.ShutString
import Derived.ChangeOld
import Derived.Below
import Derived.SizedLaws
import Derived.PinnedBridge
import Derived.Lay
import Derived.Lib.LaidTab
import Derived.Deep.DeepHandedRow
import Derived.SevenTiedAt
/- What is written over; words for diagnostics. -/
set_option linter.unusedVariables false
set_option linter.unusedSimpArgs false
namespace Go.Proofs.YtcbimnmpdpkefaaDoor.A
open Go.RowKit Go.Proofs.YtcbimnmpdpkefaaDoorW.PrintWords Go.Proofs.YtcbimnmpdpkefaaDoorW.PrintLast Go.Proofs.YtcbimnmpdpkefaaDoorW.PrintMore
abbrev Ds := S36
theorem wrap_inD {i : Int} {n : Nat} (h0 : 0 ≤ i) (h : i < (n : Int)) (hn : n ≤ 9223372036854775807) : wrap64 (i + 1) = i + 1 := by unfold wrap64; omega
theorem marked_l : ∀ (n k : Nat) (x0 : List Ds) (i : Int), 0 ≤ i → i + n = x0.length → n < k → x0.length < 5864062014803 → scholiastlaw20_marked.l0 k x0 x0.length i = some ()
  | 0, k, x0, i, h0, h1, h2, h3 => by
    obtain ⟨k, rfl⟩ : ∃ m, k = m + 1 := ⟨k - 1, by omega⟩
    simp only [scholiastlaw20_marked.l0]
    rw [if_neg (by omega)]
    simp only [Option.bind_some, List.length_cons, List.length_nil]
    rw [if_pos (by omega), if_pos (by simp; omega)]
  | n + 1, k, x0, i, h0, h1, h2, h3 => by
    obtain ⟨k, rfl⟩ : ∃ m, k = m + 1 := ⟨k - 1, by omega⟩
    simp only [scholiastlaw20_marked.l0]
    rw [if_pos (by omega), if_pos h0, if_pos (by omega), wrap_inD (n := x0.length) h0 (by omega) (by omega)]
    have := marked_l n k (x0.set i.toNat ⟨-7, 0, 0⟩) (i + 1) (by omega) (by simp; omega) (by omega) (by simpa using h3)
    simpa using this
theorem marked_ok (l : List Ds) (hl : l.length < 5864062014803) : ∃ k, scholiastlaw20_marked.f k l = some () :=
  ⟨l.length + 1, marked_l l.length (l.length + 1) l 0 (by omega) (by omega) (by omega) hl⟩
end Go.Proofs.YtcbimnmpdpkefaaDoor.A

/- diag.has: whether a tree has a piece. -/
set_option linter.unusedVariables false
set_option linter.unusedSimpArgs false
namespace Go.Proofs.YtcbimnmpdpkefaaDoor.A
open Go.RowKit Go.Proofs.YtcbimnmpdpkefaaDoorW.PrintWords Go.Proofs.YtcbimnmpdpkefaaDoorW.PrintLast Go.Proofs.YtcbimnmpdpkefaaDoorW.PrintMore
abbrev Nd := S50
abbrev kN := k50
mutual
def hasN (a b : Int) : Nd → Bool
  | ⟨_, f, t, ks⟩ => (f == a && t == b) || hasL a b ks
def hasL (a b : Int) : List Nd → Bool
  | [] => false
  | x :: xs => hasN a b x || hasL a b xs
end
/-- No list in it is too long. -/
inductive OkN : Nd → Prop
  | mk (x : Nd) (hl : x.f3.length < 9223372036854775807) (h : ∀ y ∈ x.f3, OkN y) : OkN x
theorem hasL_any (a b : Int) : ∀ l, hasL a b l = l.any (hasN a b)
  | [] => by simp [hasL]
  | x :: xs => by simp [hasL, hasL_any a b xs]
theorem hasN_eq (a b : Int) (x : Nd) : hasN a b x = ((x.f1 == a && x.f2 == b) || x.f3.any (hasN a b)) := by
  cases x; rw [hasN, hasL_any]
theorem rdN_mem (l : List Nd) (i : Int) (h0 : 0 ≤ i) (h1 : i < l.length) : rd_T50 l i ∈ l := by
  unfold rd_T50
  rw [List.getD_eq_getElem?_getD, List.getElem?_eq_getElem (by omega)]
  exact List.getElem_mem _
theorem rdN_drop (l : List Nd) (i : Int) (h0 : 0 ≤ i) (h1 : i < l.length) : l.drop i.toNat = rd_T50 l i :: l.drop (i + 1).toNat := by
  unfold rd_T50
  rw [List.drop_eq_getElem_cons (by omega), show (i + 1).toNat = i.toNat + 1 by omega, List.getD_eq_getElem?_getD, List.getElem?_eq_getElem (by omega)]
  rfl
theorem has_closure (y : Nd) (a b : Int) (t4 t5 : Addr) (A : Option Addr) (c : Nat) (w : World) (h4 : w.cell? t4 = some (.int .i64 a)) (h5 : w.cell? t5 = some (.int .i64 b)) (hc : y.f3.length ≤ c) (hC : Kd.C kN w A y.f3.length y.f3)
    (hH : ∀ (W : World) (A' : Option Addr) (c' : Nat), y.f3.length ≤ c' → Kd.C kN W A' y.f3.length y.f3 → Calls Tryd.prog 53 #[.agg #[.int .i64 y.f0, .int .i64 y.f1, .int .i64 y.f2, .slice A' y.f3.length c'], .int .i64 a, .int .i64 b] W fun e w' => e = .returned (.bool (hasN a b y)) ∧ Below W.heap.size W w') :
    Calls Tryd.prog 69 #[.agg #[.int .i64 y.f0, .int .i64 y.f1, .int .i64 y.f2, .slice A y.f3.length c], .pointer (some t4), .pointer (some t5)] w fun e w' => e = .returned (.bool (hasN a b y)) ∧ Below w.heap.size w w' := by
  have hba := below_alloc (Below.refl w.heap.size w) (.cells #[.int .i64 y.f0, .int .i64 y.f1, .int .i64 y.f2, .slice A y.f3.length c] 50)
  have h4' := pw_cell_below hba h4
  have h5' := pw_cell_below hba h5
  have HH := Aside0.mk (hH _ A c hc (Kd.C_below hC hba))
  have HA := Aside0.mk hba
  clear hH hba hC hc
  go_enter Tryd.func69, Tryd.ntmps69
  go_wp2_with (go_at_call 53; refine HH.out.mono ?_; rintro e w1 ⟨rfl, hB⟩; have HB := Aside0.mk (below_then HA.out HA.out.size hB); clear hB)
  go_ret
  exact ⟨rfl, HB.out⟩
set_option maxHeartbeats 4000000 in
set_option maxRecDepth 100000 in
theorem has_index (a b : Int) (l : List Nd) (hl : l.length < 9223372036854775807) (A : Option Addr) (c : Nat) (t4 t5 : Addr) (w : World) (hC : Kd.C kN w A l.length l) (hc : l.length ≤ c) (h4 : w.cell? t4 = some (.int .i64 a)) (h5 : w.cell? t5 = some (.int .i64 b))
    (hH : ∀ y ∈ l, ∀ (W : World) (A' : Option Addr) (c' : Nat), y.f3.length ≤ c' → Kd.C kN W A' y.f3.length y.f3 → Calls Tryd.prog 53 #[.agg #[.int .i64 y.f0, .int .i64 y.f1, .int .i64 y.f2, .slice A' y.f3.length c'], .int .i64 a, .int .i64 b] W fun e w' => e = .returned (.bool (hasN a b y)) ∧ Below W.heap.size W w') :
    Calls Tryd.prog 88 #[.slice A l.length c, .func (.func 69) #[] #[.pointer (some t4), .pointer (some t5)]] w fun e w' => ∃ i : Int, e = .returned (.int .i64 i) ∧ (decide (i ≥ 0)) = l.any (hasN a b) ∧ Below w.heap.size w w' := by
  have HH := Aside0.mk hH
  have HC := Aside0.mk hC
  have H4 := Aside0.mk h4
  have H5 := Aside0.mk h5
  clear hH hC h4 h5
  go_enter Tryd.func88, Tryd.ntmps88
  go_wp2
  go_loopg [8] (l.length + 1) (fun kq v8 w' => ∃ (i : Int), v8 = .int .i64 i ∧ Aside0 (0 ≤ i ∧ i ≤ (l.length : Int) ∧ (l.length : Int) - i < kq) ∧ Aside0 ((l.drop i.toNat).any (hasN a b) = l.any (hasN a b)) ∧ Aside0 (Below w.heap.size w w'))
  case atStart => exact ⟨0, rfl, ⟨by omega⟩, ⟨by simp⟩, ⟨Below.refl _ _⟩⟩
  case round =>
    obtain ⟨i, rfl, HI, HD, HB⟩ := hrel
    obtain ⟨k1, rfl⟩ : ∃ k1, gk = k1 + 1 := ⟨gk - 1, by have := HI.out; omega⟩
    by_cases c1 : i < (l.length : Int)
    · have c1b := decide_eq_true c1
      obtain ⟨i0, i1, i2⟩ := HI.out
      obtain ⟨ad, A3, c3, ead, hx0, hx1, hx2, hx3, l3, g3⟩ := at_T50 (Kd.C_below HC.out HB.out) i i0 c1
      subst ead
      have hd := rdN_drop l i i0 c1
      have HR := Aside0.mk (has_closure _ a b t4 t5 A3 c3 wr ((HB.out.cell (World.block_lt_of_cell? w _ H4.out)).trans H4.out) ((HB.out.cell (World.block_lt_of_cell? w _ H5.out)).trans H5.out) l3 g3 (HH.out _ (rdN_mem l i i0 c1)))
      generalize rd_T50 l i = x at *
      have p1 := eq_true i0
      have q1 := eq_true c1
      have hdd := HD.out
      rw [hd, List.any_cons] at hdd
      by_cases c2 : hasN a b x = true
      · rw [c2] at HR
        rw [c2] at hdd
        go_wp2_with (go_at_call 69; refine HR.out.mono ?_; rintro e w1 ⟨rfl, hB⟩; have HB1 := Aside0.mk (below_then HB.out HB.out.size hB); clear hB)
        go_ret
        exact ⟨i, rfl, by rw [← hdd, decide_eq_true i0]; rfl, HB1.out⟩
      · rw [Bool.not_eq_true] at c2
        rw [c2] at HR
        rw [c2, Bool.false_or] at hdd
        go_wp2_with (go_at_call 69; refine HR.out.mono ?_; rintro e w1 ⟨rfl, hB⟩; have HB1 := Aside0.mk (below_then HB.out HB.out.size hB); clear hB)
        go_roundg k1
        case measure => omega
        case rel => exact ⟨i + 1, by first | rfl | (congr 1; unfold wrap64; omega), ⟨by omega⟩, ⟨hdd⟩, ⟨HB1.out⟩⟩
    · have c1b := decide_eq_false c1
      have hdd := HD.out
      rw [List.drop_eq_nil_of_le (by have := HI.out; omega)] at hdd
      go_wp2
      go_ret
      exact ⟨-1, rfl, hdd, HB.out⟩
theorem has_contains (a b : Int) (l : List Nd) (hl : l.length < 9223372036854775807) (A : Option Addr) (c : Nat) (t4 t5 : Addr) (w : World) (hC : Kd.C kN w A l.length l) (hc : l.length ≤ c) (h4 : w.cell? t4 = some (.int .i64 a)) (h5 : w.cell? t5 = some (.int .i64 b))
    (hH : ∀ y ∈ l, ∀ (W : World) (A' : Option Addr) (c' : Nat), y.f3.length ≤ c' → Kd.C kN W A' y.f3.length y.f3 → Calls Tryd.prog 53 #[.agg #[.int .i64 y.f0, .int .i64 y.f1, .int .i64 y.f2, .slice A' y.f3.length c'], .int .i64 a, .int .i64 b] W fun e w' => e = .returned (.bool (hasN a b y)) ∧ Below W.heap.size W w') :
    Calls Tryd.prog 68 #[.slice A l.length c, .func (.func 69) #[] #[.pointer (some t4), .pointer (some t5)]] w fun e w' => e = .returned (.bool (l.any (hasN a b))) ∧ Below w.heap.size w w' := by
  have HI := Aside0.mk (has_index a b l hl A c t4 t5 w hC hc h4 h5 hH)
  clear hH hC h4 h5
  go_enter Tryd.func68, Tryd.ntmps68
  go_wp2_with (go_at_call 88; refine HI.out.mono ?_; rintro e w1 ⟨i, rfl, he, hB⟩; have HB := Aside0.mk hB; have HE := Aside0.mk he; clear hB he)
  go_ret
  exact ⟨by rw [← HE.out]; rfl, HB.out⟩
set_option maxHeartbeats 4000000 in
set_option maxRecDepth 100000 in
theorem has_ok (a b : Int) (x : Nd) (hx : OkN x) : ∀ (w : World) (A : Option Addr) (c : Nat), x.f3.length ≤ c → Kd.C kN w A x.f3.length x.f3 →
    Calls Tryd.prog 53 #[.agg #[.int .i64 x.f0, .int .i64 x.f1, .int .i64 x.f2, .slice A x.f3.length c], .int .i64 a, .int .i64 b] w fun e w' => e = .returned (.bool (hasN a b x)) ∧ Below w.heap.size w w' := by
  induction hx with
  | mk x hl h ih =>
    intro w A c hc hC
    rw [hasN_eq]
    have HH := Aside0.mk ih
    have HC := Aside0.mk hC
    have HCC := Aside0.mk hc
    have HL := Aside0.mk hl
    have HB0 := Aside0.mk (below_alloc (below_alloc (below_alloc (Below.refl w.heap.size w) (.cells #[.int .i64 x.f0, .int .i64 x.f1, .int .i64 x.f2, .slice A x.f3.length c] 50)) (.cells #[.int .i64 a] 3)) (.cells #[.int .i64 b] 3))
    clear ih h hC hc hl
    have HB0' := HB0
    have hk4 : (((w.alloc (.cells #[.int .i64 x.f0, .int .i64 x.f1, .int .i64 x.f2, .slice A x.f3.length c] 50)).alloc (.cells #[.int .i64 a] 3)).alloc (.cells #[.int .i64 b] 3)).heap[w.heap.size + 1]? = some (.cells #[.int .i64 a] 3) := by
      show (((w.heap.push _).push _).push _)[_]? = _
      rw [Array.getElem?_push, if_neg (by rw [Array.size_push, Array.size_push]; omega), Array.getElem?_push, if_pos (by rw [Array.size_push])]
    have hk5 : (((w.alloc (.cells #[.int .i64 x.f0, .int .i64 x.f1, .int .i64 x.f2, .slice A x.f3.length c] 50)).alloc (.cells #[.int .i64 a] 3)).alloc (.cells #[.int .i64 b] 3)).heap[w.heap.size + 1 + 1]? = some (.cells #[.int .i64 b] 3) := by
      show (((w.heap.push _).push _).push _)[_]? = _
      rw [Array.getElem?_push, if_pos (by rw [Array.size_push, Array.size_push])]
    have HCON := Aside0.mk (has_contains a b x.f3 HL.out A c ⟨w.heap.size + 1, 0, none⟩ ⟨w.heap.size + 1 + 1, 0, none⟩ _ (Kd.C_below HC.out HB0.out) HCC.out ((blk_cell hk4 0).trans rfl) ((blk_cell hk5 0).trans rfl) HH.out)
    clear hk4 hk5 HH HC HCC HL
    by_cases c1 : x.f1 = a
    · have c1b : (x.f1 == a) = true := beq_iff_eq.mpr c1
      have C1 := Aside0.mk c1b
      subst c1
      by_cases c2 : x.f2 = b
      · have c2b : (x.f2 == b) = true := beq_iff_eq.mpr c2
        subst c2
        clear c1b c2b C1
        go_enter Tryd.func53, Tryd.ntmps53
        go_wp2
        go_ret
        exact ⟨by simp, HB0.out⟩
      · have c2b : (x.f2 == b) = false := beq_eq_false_iff_ne.mpr c2
        clear c2 c1b
        go_enter Tryd.func53, Tryd.ntmps53
        go_wp2_with (go_at_call 68; refine HCON.out.mono ?_; rintro e w1 ⟨rfl, hB⟩; have HB := Aside0.mk (below_then HB0.out HB0.out.size hB); clear hB)
        go_ret
        exact ⟨by rw [C1.out, c2b]; simp, HB.out⟩
    · have c1b : (x.f1 == a) = false := beq_eq_false_iff_ne.mpr c1
      clear c1
      go_enter Tryd.func53, Tryd.ntmps53
      go_wp2_with (go_at_call 68; refine HCON.out.mono ?_; rintro e w1 ⟨rfl, hB⟩; have HB := Aside0.mk (below_then HB0.out HB0.out.size hB); clear hB)
      go_ret
      exact ⟨by rw [c1b]; simp, HB.out⟩
end Go.Proofs.YtcbimnmpdpkefaaDoor.A

/- What is lent, with something behind its end; is it as it was? -/
set_option linter.unusedVariables false
set_option linter.unusedSimpArgs false
namespace Go.Proofs.YtcbimnmpdpkefaaDoor.A
open Go.RowKit Go.Proofs.YtcbimnmpdpkefaaDoorW.PrintWords Go.Proofs.YtcbimnmpdpkefaaDoorW.PrintLast Go.Proofs.YtcbimnmpdpkefaaDoorW.PrintMore

abbrev kD := k36
def m9 : Ds := ⟨-9, 0, 0⟩
/-- The head of a row. -/
theorem C_headD {α : Type} {d : Kd α} {w : World} {A : Option Addr} {l m : List α} (h : d.C w A (l ++ m).length (l ++ m)) : d.C w A l.length l := by
  obtain ⟨_, h2, h3⟩ := h
  refine ⟨rfl, by rw [List.length_append] at h2; omega, fun h0 => ?_⟩
  obtain ⟨ad, e, hc⟩ := h3 (by rw [List.length_append]; omega)
  exact ⟨ad, e, fun j p hj => hc j p (by rw [List.getElem?_append_left (List.getElem?_eq_some_iff.1 hj).1]; exact hj)⟩
set_option maxHeartbeats 4000000 in
set_option maxRecDepth 100000 in
theorem lentD (A0 : Option Addr) (c0 : Nat) (l0 : List Ds) (w : World) (hr0 : Kd.C kD w A0 l0.length l0) (hc0 : l0.length ≤ c0) (hl : l0.length < 5864062014803) :
    Calls Tryd.prog 20 #[.slice A0 l0.length c0] w fun e w' => ∃ g cap, e = .returned (.slice (some ⟨g, 0, none⟩) l0.length cap) ∧ Kd.R kD 36 w' w.heap.size (fun _ => True) (.slice (some ⟨g, 0, none⟩) (l0 ++ [m9]).length cap) (l0 ++ [m9]) ∧ (l0 ++ [m9]).length ≤ cap ∧ Below w.heap.size w w' := by
  have HR0 := Aside0.mk hr0
  have HB := Aside0.mk (Below.refl w.heap.size w)
  clear hr0
  go_enter Tryd.func20, Tryd.ntmps20
  go_wp2_with (first
    | ((with_reducible refine gate_builtin (b := .append) (xs := #[.const (.slice none 0 0), .tmp 3]) rfl ?_); at_builtin; refine Kd.R_append_rows kD (w0 := w) w.heap.size rfl (.const (.slice none 0 0)) (.tmp 3) 23 36 (.agg #[(.int .i64 0), (.int .i64 0), (.int .i64 0)]) 24 rfl Tryd.underlying23 info36 rfl (by decide) (by omega) (.slice none 0 0) ([] : List Ds) l0 _ _ _ (fun _ => True) (fun _ => False) rfl rfl ?aO ?aR (fun _ _ h => h) (fun _ h => h.elim) ?aF ?aB ?aS ?aL ?_; (case aR => exact HR0.out); (case aB => exact HB.out); (case aF => exact (fun _ _ => trivial)); (case aO => exact ((Kd.R_nil _ _ _ _ (fun _ => True)))); (case aS => exact (below_size HB.out)); (case aL => simp only [List.length_nil]; omega); intro v6 w6 ho hb hg hat; rw [List.nil_append] at ho; have HB6 := Aside0.mk hb; have HO6 := Aside0.mk ho; clear ho hb hg hat)
    | ((with_reducible refine gate_builtin (b := .append) (xs := #[.tmp 4, .tmp 6]) rfl ?_); at_builtin; refine Kd.R_append kD (w0 := w) w.heap.size rfl (.tmp 4) (.tmp 6) 23 36 (.agg #[(.int .i64 0), (.int .i64 0), (.int .i64 0)]) 24 rfl Tryd.underlying23 info36 rfl (by decide) (by omega) v6 l0 m9 [.int .i64 (-9), .int .i64 0, .int .i64 0] (fun _ => True) (fun _ => False) rfl rfl ?aP (fun _ hk => hk.elim) ?aF ?aO ?aB ?aS ?aL ?_; (case aP => exact k36_mkM _ _ _ m9); (case aB => exact (by repeat (first | (with_reducible first | exact HB6.out | apply below_alloc | apply pw_below_drewN | apply below_drew1) | exact HB6.out))); (case aF => exact (fun _ _ => trivial)); (case aO => exact (by (with_reducible repeat (first | apply Kd.R_alloc | apply Kd.R_drewN | apply Kd.R_drew)); exact HO6.out)); (case aS => exact (below_size (by repeat (first | (with_reducible first | exact HB6.out | apply below_alloc | apply pw_below_drewN | apply below_drew1) | exact HB6.out)))); (case aL => omega); intro v7 w7 ho hb hg hat; have HB7 := Aside0.mk hb; have HO7 := Aside0.mk ho; clear ho hb hg hat; obtain ⟨gx, cx, rfl, _, _, _⟩ := Kd.R_form HO7.out (by simp); have hcx : (l0 ++ [m9]).length ≤ cx := (by obtain ⟨_, _, e, h, _⟩ := Kd.R_reads HO7.out; cases e; exact h); have HCX := Aside0.mk hcx; have p6 := eq_true (show l0.length ≤ cx by rw [List.length_append] at hcx; omega); have p7 := eq_true (show (l0.length : Int) ≤ (cx : Int) by rw [List.length_append] at hcx; omega); clear hcx))
  go_ret
  exact ⟨gx, cx, rfl, HO7.out, HCX.out, HB7.out⟩
set_option maxHeartbeats 4000000 in
set_option maxRecDepth 100000 in
theorem keptD (k : Nat) (g cap : Nat) (A1 : Option Addr) (c1 : Nat) (l0 : List Ds) (w : World) (hr0 : Kd.C kD w (some ⟨g, 0, none⟩) (l0 ++ [m9]).length (l0 ++ [m9])) (hc : (l0 ++ [m9]).length ≤ cap) (hr1 : Kd.C kD w A1 l0.length l0) (hc1 : l0.length ≤ c1) (hl : l0.length < 5864062014803) (hs : scholiastlaw20_same.f k l0 l0 = some true) :
    Calls Tryd.prog 24 #[.slice (some ⟨g, 0, none⟩) l0.length cap, .slice A1 l0.length c1] w fun e w' => e = .returned (.bool true) ∧ Below w.heap.size w w' := by
  have hsame := scholiastlaw20_same.calls k (some ⟨g, 0, none⟩) cap l0 A1 c1 l0 true w (C_headD hr0) (by rw [List.length_append] at hc; omega) hr1 hc1 hs
  have HSAME := Aside0.mk hsame
  have HR0 := Aside0.mk hr0
  have hcap : l0.length + 1 ≤ cap := by rw [List.length_append] at hc; exact hc
  clear hsame hr0 hr1 hs
  go_enter Tryd.func24, Tryd.ntmps24
  have hw1 : wrap64 ((l0.length : Int) + 1) = (l0.length : Int) + 1 := by unfold wrap64; omega
  have p5 := eq_true (show (0 : Int) ≤ (l0.length : Int) + 1 by omega)
  have p6 := eq_true hcap
  have p7 := eq_true (show (l0.length : Int) + 1 ≤ (cap : Int) by omega)
  have p8 := eq_true (show (l0.length : Int) < (l0.length : Int) + 1 by omega)
  go_wp2_with (go_at_call 23; refine HSAME.out.mono ?_; rintro e w1 ⟨rfl, ⟨n_, rfl⟩⟩; obtain ⟨ad, ead, hx, _⟩ := at_T36 (Kd.C_drewN HR0.out n_) (l0.length : Int) (by omega) (by simp; omega); obtain rfl := Option.some.inj ead; rw [show (rd_T36 (l0 ++ [m9]) (l0.length : Int)).f0 = -9 by unfold rd_T36; rw [List.getD_eq_getElem?_getD, Int.toNat_natCast, List.getElem?_append_right (Nat.le_refl _), Nat.sub_self]; rfl, Int.toNat_natCast, add_plain] at hx)
  go_ret
  exact ⟨rfl, pw_below_drewN (Below.refl _ _) _⟩
theorem same_lS (l : List Ds) (hl : l.length ≤ 5864062014805) : ∀ (n : Nat) (i : Int), 0 ≤ i → i + n = l.length → ∃ k, scholiastlaw20_same.l0 k l l l.length i = some true
  | 0, i, h0, h1 => ⟨1, by simp only [scholiastlaw20_same.l0]; rw [if_neg (by omega)]⟩
  | n + 1, i, h0, h1 => by
    obtain ⟨k, hk⟩ := same_lS l hl n (i + 1) (by omega) (by omega)
    refine ⟨k + 1, ?_⟩
    simp only [scholiastlaw20_same.l0]
    rw [if_pos (by omega), if_pos h0, if_pos (by omega), if_pos (by omega), wrap_inD (n := l.length) h0 (by omega) (by omega), hk]
    simp
theorem same_reflS (l : List Ds) (hl : l.length ≤ 5864062014805) : ∃ k, scholiastlaw20_same.f k l l = some true := by
  obtain ⟨k, hk⟩ := same_lS l hl l.length 0 (by omega) (by omega)
  exact ⟨k, by unfold scholiastlaw20_same.f; rw [if_pos rfl, hk]⟩
theorem drawn_below {w w' : World} (h : Drawn0 w w') : Below w.heap.size w w' := by
  obtain ⟨n, rfl⟩ := h
  exact pw_below_drewN (Below.refl _ _) _
theorem R_C {w : World} {base : Nat} {ok : Nat → Prop} {A : Option Addr} {n c : Nat} {xs : List Ds} (h : Kd.R kD 36 w base ok (.slice A n c) xs) (e : xs.length = n) : Kd.C kD w A xs.length xs ∧ xs.length ≤ c := by
  subst e
  obtain ⟨_, _, e, h1, h2⟩ := Kd.R_reads h
  cases e
  exact ⟨h2, h1⟩
end Go.Proofs.YtcbimnmpdpkefaaDoor.A

/- The document's Within in plain words. -/
set_option linter.unusedVariables false
set_option linter.unusedSimpArgs false
namespace Go.Proofs.YtcbimnmpdpkefaaDoor.A
open Go.RowKit Go.Proofs.YtcbimnmpdpkefaaDoorW.PrintWords Go.Proofs.YtcbimnmpdpkefaaDoorW.PrintLast Go.Proofs.YtcbimnmpdpkefaaDoorW.PrintMore
theorem rhas_l (a b : Int) (l : List Nd) (hl : l.length < 9223372036854775807) (h : ∀ y ∈ l, ∃ k, ∀ k', k ≤ k' → scholiastref20_has.f k' y.f0 y.f1 y.f2 y.f3 a b = some (hasN a b y)) :
    ∀ (n : Nat) (i : Int), 0 ≤ i → i + n = l.length → ∃ k, ∀ k', k ≤ k' → scholiastref20_has.l0 k' a b l (l.length : Int) i = some ((l.drop i.toNat).any (hasN a b))
  | 0, i, h0, h1 => ⟨1, fun k' hk => by
      obtain ⟨j, rfl⟩ : ∃ j, k' = j + 1 := ⟨k' - 1, by omega⟩
      simp only [scholiastref20_has.l0]
      rw [if_neg (by omega), List.drop_eq_nil_of_le (by omega)]
      rfl⟩
  | n + 1, i, h0, h1 => by
      obtain ⟨k1, g1⟩ := rhas_l a b l hl h n (i + 1) (by omega) (by omega)
      obtain ⟨k2, g2⟩ := h _ (rdN_mem l i h0 (by omega))
      refine ⟨k1 + k2 + 1, fun k' hk => ?_⟩
      obtain ⟨j, rfl⟩ : ∃ j, k' = j + 1 := ⟨k' - 1, by omega⟩
      simp only [scholiastref20_has.l0]
      rw [if_pos (by omega), if_pos h0, if_pos (by omega), g2 j (by omega), Option.bind_some, rdN_drop l i h0 (by omega), List.any_cons]
      by_cases hb : hasN a b (rd_T50 l i) = true
      · rw [if_pos hb, hb]; rfl
      · rw [if_neg hb, wrap_inD (n := l.length) h0 (by omega) (by omega), g1 j (by omega)]
        rw [Bool.not_eq_true] at hb
        rw [hb]; rfl
theorem rhas_ok (a b : Int) (x : Nd) (hx : OkN x) : ∃ k, ∀ k', k ≤ k' → scholiastref20_has.f k' x.f0 x.f1 x.f2 x.f3 a b = some (hasN a b x) := by
  induction hx with
  | mk x hl h ih =>
    obtain ⟨k, hk⟩ := rhas_l a b x.f3 hl ih x.f3.length 0 (by omega) (by omega)
    refine ⟨k + 2, fun k' hk' => ?_⟩
    obtain ⟨j, rfl⟩ : ∃ j, k' = j + 2 := ⟨k' - 2, by omega⟩
    have h1 := hk j (by omega)
    simp only [scholiastref20_has.f, scholiastref20_has.j0]
    rw [hasN_eq, h1]
    by_cases c1 : x.f1 = a <;> by_cases c2 : x.f2 = b <;> simp [c1, c2]
/-- Within, in plain words. -/
def wit (x : Nd) (d : Ds) : Bool := hasN d.f1 d.f2 x || (d.f1 == d.f2 && (decide (x.f1 ≤ d.f1) && decide (d.f2 ≤ x.f2)))
theorem rdD_drop (l : List Ds) (i : Int) (h0 : 0 ≤ i) (h1 : i < l.length) : l.drop i.toNat = rd_T36 l i :: l.drop (i + 1).toNat := by
  unfold rd_T36
  rw [List.drop_eq_getElem_cons (by omega), show (i + 1).toNat = i.toNat + 1 by omega, List.getD_eq_getElem?_getD, List.getElem?_eq_getElem (by omega)]
  rfl
theorem rwithin_l (x : Nd) (hx : OkN x) (l : List Ds) (hl : l.length < 9223372036854775807) :
    ∀ (n : Nat) (i : Int), 0 ≤ i → i + n = l.length → ∃ k, ∀ k', k ≤ k' → scholiastref20_Within.l0 k' l (l.length : Int) i x.f0 x.f1 x.f2 x.f3 = some ((l.drop i.toNat).all (wit x))
  | 0, i, h0, h1 => ⟨1, fun k' hk => by
      obtain ⟨j, rfl⟩ : ∃ j, k' = j + 1 := ⟨k' - 1, by omega⟩
      simp only [scholiastref20_Within.l0]
      rw [if_neg (by omega), List.drop_eq_nil_of_le (by omega)]
      rfl⟩
  | n + 1, i, h0, h1 => by
      obtain ⟨k1, g1⟩ := rwithin_l x hx l hl n (i + 1) (by omega) (by omega)
      obtain ⟨k2, g2⟩ := rhas_ok (rd_T36 l i).f1 (rd_T36 l i).f2 x hx
      refine ⟨k1 + k2 + 1, fun k' hk => ?_⟩
      obtain ⟨j, rfl⟩ : ∃ j, k' = j + 1 := ⟨k' - 1, by omega⟩
      simp only [scholiastref20_Within.l0]
      rw [if_pos (by omega), if_pos h0, if_pos (by omega), g2 j (by omega), Option.bind_some, rdD_drop l i h0 (by omega), List.all_cons, wrap_inD (n := l.length) h0 (by omega) (by omega), g1 j (by omega)]
      unfold wit
      generalize hasN (rd_T36 l i).f1 (rd_T36 l i).f2 x = hb
      generalize (l.drop (i + 1).toNat).all _ = r
      generalize rd_T36 l i = d
      obtain ⟨d0, u, v⟩ := d
      dsimp only
      cases hb
      · by_cases c1 : u = v
        · subst c1
          by_cases c2 : x.f1 ≤ u <;> by_cases c3 : u ≤ x.f2 <;> simp [c2, c3]
        · simp [c1]
      · simp
theorem rwithin_ok (x : Nd) (hx : OkN x) (l : List Ds) (hl : l.length < 9223372036854775807) : ∃ k, scholiastref20_Within.f k l x.f0 x.f1 x.f2 x.f3 = some (l.all (wit x)) := by
  obtain ⟨k, hk⟩ := rwithin_l x hx l hl l.length 0 (by omega) (by omega)
  exact ⟨k, by have := hk k (by omega); exact this⟩
end Go.Proofs.YtcbimnmpdpkefaaDoor.A

/- diag.Within: the walk. -/
set_option linter.unusedVariables false
set_option linter.unusedSimpArgs false
namespace Go.Proofs.YtcbimnmpdpkefaaDoor.A
open Go.RowKit Go.Proofs.YtcbimnmpdpkefaaDoorW.PrintWords Go.Proofs.YtcbimnmpdpkefaaDoorW.PrintLast Go.Proofs.YtcbimnmpdpkefaaDoorW.PrintMore
set_option maxHeartbeats 8000000 in
set_option maxRecDepth 100000 in
theorem within_ok (x : Nd) (hx : OkN x) (l : List Ds) (hl : l.length < 9223372036854775807) (A0 : Option Addr) (c0 : Nat) (A : Option Addr) (c : Nat) (w : World) (hr0 : Kd.C kD w A0 l.length l) (hc0 : l.length ≤ c0) (hc : x.f3.length ≤ c) (hC : Kd.C kN w A x.f3.length x.f3) :
    Calls Tryd.prog 31 #[.slice A0 l.length c0, .agg #[.int .i64 x.f0, .int .i64 x.f1, .int .i64 x.f2, .slice A x.f3.length c]] w fun e w' => e = .returned (.bool (l.all (wit x))) ∧ Below w.heap.size w w' := by
  have HR0 := Aside0.mk hr0
  have HC := Aside0.mk hC
  have HCC := Aside0.mk hc
  have HX := Aside0.mk hx
  have hb3 := below_alloc (Below.refl w.heap.size w) (.cells #[.int .i64 x.f0, .int .i64 x.f1, .int .i64 x.f2, .slice A x.f3.length c] 50)
  have hk3 : (w.alloc (.cells #[.int .i64 x.f0, .int .i64 x.f1, .int .i64 x.f2, .slice A x.f3.length c] 50)).heap[w.heap.size]? = some (.cells #[.int .i64 x.f0, .int .i64 x.f1, .int .i64 x.f2, .slice A x.f3.length c] 50) := by show (w.heap.push _)[_]? = _; rw [Array.getElem?_push, if_pos rfl]
  have HB3 := Aside0.mk hb3
  have HK3 := Aside0.mk hk3
  clear hr0 hC hc hx hb3 hk3
  go_enter Tryd.func31, Tryd.ntmps31
  go_wp2
  generalize (w.alloc (.cells #[.int .i64 x.f0, .int .i64 x.f1, .int .i64 x.f2, .slice A x.f3.length c] 50)) = w3 at *
  go_loopg [10] (l.length + 1) (fun kq v10 w' => ∃ (i : Int), v10 = .int .i64 i ∧ Aside0 (0 ≤ i ∧ i ≤ (l.length : Int) ∧ (l.length : Int) - i < kq) ∧ Aside0 ((l.drop i.toNat).all (wit x) = l.all (wit x)) ∧ Aside0 (Below w3.heap.size w3 w'))
  case atStart => exact ⟨0, rfl, ⟨by omega⟩, ⟨by simp⟩, ⟨Below.refl _ _⟩⟩
  case round =>
    obtain ⟨i, rfl, HI, HD, HB⟩ := hrel
    obtain ⟨k1, rfl⟩ : ∃ k1, gk = k1 + 1 := ⟨gk - 1, by have := HI.out; omega⟩
    have HW := Aside0.mk (below_then HB3.out HB3.out.size HB.out)
    by_cases c1 : i < (l.length : Int)
    · have c1b := decide_eq_true c1
      obtain ⟨i0, i1, i2⟩ := HI.out
      obtain ⟨ad, ead, hx0, hx1, hx2⟩ := at_T36 (Kd.C_below HR0.out HW.out) i i0 c1
      subst ead
      have hd := rdD_drop l i i0 c1
      generalize rd_T36 l i = d at *
      obtain ⟨d0, u, v⟩ := d
      dsimp only at hx0 hx1 hx2
      have p1 := eq_true i0
      have q1 := eq_true c1
      go_upto_region 4 with (first | ((with_reducible refine gate_dst (N := 6) rfl ?_); refine box_event ?hg (N := 6) ?hd (cs := #[.int .i64 0, .int .i64 0, .int .i64 0]) (t := 36) ?hr ?_; (case hd => rfl); (case hg => rfl); (case hr => first | (go_simp; done) | (go_simp; rfl)); intro gb hg w7 hbox hb; have n0_ := Aside0.mk (below_step HB.out hb); have BK := Aside0.mk hbox; have GE := Aside0.mk ((by rw [hg]; exact (below_size HB.out)) : w3.heap.size ≤ gb); clear HB; have HB := n0_; clear n0_; clear hb hbox hg; have hcz0 : w7.cell? ⟨gb, 0, none⟩ = some (.int .i64 0) := (blk_cell BK.out 0).trans rfl; have hcz1 : w7.cell? ⟨gb, 1, none⟩ = some (.int .i64 0) := (blk_cell BK.out 1).trans rfl; have hcz2 : w7.cell? ⟨gb, 2, none⟩ = some (.int .i64 0) := (blk_cell BK.out 2).trans rfl; have hfz0 := blk_frozen BK.out 0; have hfz1 := blk_frozen BK.out 1; have hfz2 := blk_frozen BK.out 2))
      have BK8 : Aside0 ((((w7.setCell ⟨gb, 0, none⟩ (.int .i64 d0)).setCell ⟨gb, 1, none⟩ (.int .i64 u)).setCell ⟨gb, 2, none⟩ (.int .i64 v)).heap[gb]? = some (.cells #[.int .i64 d0, .int .i64 u, .int .i64 v] 36 (0, 0))) := ⟨blk_put (blk_put (blk_put BK.out 0 _ rfl) 1 _ rfl) 2 _ rfl⟩
      have HB8 : Aside0 (Below w3.heap.size w3 (((w7.setCell ⟨gb, 0, none⟩ (.int .i64 d0)).setCell ⟨gb, 1, none⟩ (.int .i64 u)).setCell ⟨gb, 2, none⟩ (.int .i64 v))) := ⟨(below_set (below_set (below_set HB.out GE.out) GE.out) GE.out)⟩
      clear HB BK hcz0 hcz1 hcz2 hfz0 hfz1 hfz2
      generalize (((w7.setCell ⟨gb, 0, none⟩ (.int .i64 d0)).setCell ⟨gb, 1, none⟩ (.int .i64 u)).setCell ⟨gb, 2, none⟩ (.int .i64 v)) = w8 at BK8 HB8 ⊢
      have hcz0 := (blk_cell BK8.out 0).trans rfl
      have hcz1 := (blk_cell BK8.out 1).trans rfl
      have hcz2 := (blk_cell BK8.out 2).trans rfl
      have hn0 := pw_cell_below HB8.out ((blk_cell HK3.out 0).trans rfl)
      have hn1 := pw_cell_below HB8.out ((blk_cell HK3.out 1).trans rfl)
      have hn2 := pw_cell_below HB8.out ((blk_cell HK3.out 2).trans rfl)
      have hn3 := pw_cell_below HB8.out ((blk_cell HK3.out 3).trans rfl)
      have HW8 := Aside0.mk (below_then HB3.out HB3.out.size HB8.out)
      have HHAS := Aside0.mk (has_ok u v x HX.out w8 A c HCC.out (Kd.C_below HC.out HW8.out))
      clear hx0 hx1 hx2
      have hdd := HD.out
      rw [hd, List.all_cons] at hdd
      clear hd HD
      by_cases e1 : u = v
      · subst e1
        by_cases e2 : x.f1 ≤ u
        · have e2b := decide_eq_true e2
          by_cases e3 : u ≤ x.f2
          · have e3b := decide_eq_true e3
            have hnx : (l.drop (i + 1).toNat).all (wit x) = l.all (wit x) := by rw [← hdd, show wit x ⟨d0, u, u⟩ = true by simp [wit, e2, e3], Bool.true_and]
            have HNX := Aside0.mk hnx
            clear hnx hdd
            clear HHAS
            go_wp2
            go_roundg k1
            case measure => omega
            case rel => exact ⟨i + 1, by first | rfl | (congr 1; unfold wrap64; omega), ⟨by omega⟩, HNX, ⟨HB8.out⟩⟩
          · have e3b := decide_eq_false e3
            by_cases hb : hasN u u x = true
            · have hnx : (l.drop (i + 1).toNat).all (wit x) = l.all (wit x) := by rw [← hdd, show wit x ⟨d0, u, u⟩ = true by simp [wit, hb], Bool.true_and]
              have HNX := Aside0.mk hnx
              clear hnx hdd
              rw [hb] at HHAS
              clear hb
              go_wp2_with (go_at_call 53; refine HHAS.out.mono ?_; rintro e w9 ⟨rfl, hB⟩; have HB9 := Aside0.mk (below_then HB8.out HB8.out.size hB); clear hB)
              go_roundg k1
              case measure => omega
              case rel => exact ⟨i + 1, by first | rfl | (congr 1; unfold wrap64; omega), ⟨by omega⟩, HNX, ⟨HB9.out⟩⟩
            · rw [Bool.not_eq_true] at hb
              have HNO := Aside0.mk (show l.all (wit x) = false by rw [← hdd, show wit x ⟨d0, u, u⟩ = false by simp [wit, hb, e3], Bool.false_and])
              clear hdd
              rw [hb] at HHAS
              clear hb
              go_wp2_with (go_at_call 53; refine HHAS.out.mono ?_; rintro e w9 ⟨rfl, hB⟩; have HB9 := Aside0.mk (below_then HB8.out HB8.out.size hB); clear hB)
              go_ret
              exact ⟨by rw [HNO.out]; rfl, below_then HB3.out HB3.out.size HB9.out⟩
        · have e2b := decide_eq_false e2
          by_cases hb : hasN u u x = true
          · have hnx : (l.drop (i + 1).toNat).all (wit x) = l.all (wit x) := by rw [← hdd, show wit x ⟨d0, u, u⟩ = true by simp [wit, hb], Bool.true_and]
            have HNX := Aside0.mk hnx
            clear hnx hdd
            rw [hb] at HHAS
            clear hb
            go_wp2_with (go_at_call 53; refine HHAS.out.mono ?_; rintro e w9 ⟨rfl, hB⟩; have HB9 := Aside0.mk (below_then HB8.out HB8.out.size hB); clear hB)
            go_roundg k1
            case measure => omega
            case rel => exact ⟨i + 1, by first | rfl | (congr 1; unfold wrap64; omega), ⟨by omega⟩, HNX, ⟨HB9.out⟩⟩
          · rw [Bool.not_eq_true] at hb
            have HNO := Aside0.mk (show l.all (wit x) = false by rw [← hdd, show wit x ⟨d0, u, u⟩ = false by simp [wit, hb, e2], Bool.false_and])
            clear hdd
            rw [hb] at HHAS
            clear hb
            go_wp2_with (go_at_call 53; refine HHAS.out.mono ?_; rintro e w9 ⟨rfl, hB⟩; have HB9 := Aside0.mk (below_then HB8.out HB8.out.size hB); clear hB)
            go_ret
            exact ⟨by rw [HNO.out]; rfl, below_then HB3.out HB3.out.size HB9.out⟩
      · have e1b : (u == v) = false := beq_eq_false_iff_ne.mpr e1
        by_cases hb : hasN u v x = true
        · have hnx : (l.drop (i + 1).toNat).all (wit x) = l.all (wit x) := by rw [← hdd, show wit x ⟨d0, u, v⟩ = true by simp [wit, hb], Bool.true_and]
          have HNX := Aside0.mk hnx
          clear hnx hdd
          rw [hb] at HHAS
          clear hb
          go_wp2_with (go_at_call 53; refine HHAS.out.mono ?_; rintro e w9 ⟨rfl, hB⟩; have HB9 := Aside0.mk (below_then HB8.out HB8.out.size hB); clear hB)
          go_roundg k1
          case measure => omega
          case rel => exact ⟨i + 1, by first | rfl | (congr 1; unfold wrap64; omega), ⟨by omega⟩, HNX, ⟨HB9.out⟩⟩
        · rw [Bool.not_eq_true] at hb
          have HNO := Aside0.mk (show l.all (wit x) = false by rw [← hdd, show wit x ⟨d0, u, v⟩ = false by simp [wit, hb, e1], Bool.false_and])
          clear hdd
          rw [hb] at HHAS
          clear hb
          go_wp2_with (go_at_call 53; refine HHAS.out.mono ?_; rintro e w9 ⟨rfl, hB⟩; have HB9 := Aside0.mk (below_then HB8.out HB8.out.size hB); clear hB)
          go_ret
          exact ⟨by rw [HNO.out]; rfl, below_then HB3.out HB3.out.size HB9.out⟩
    · have c1b := decide_eq_false c1
      have hdd := HD.out
      rw [List.drop_eq_nil_of_le (by have := HI.out; omega)] at hdd
      go_wp2
      go_ret
      exact ⟨by rw [← hdd]; rfl, HW.out⟩
end Go.Proofs.YtcbimnmpdpkefaaDoor.A

/- DiagWithin: the walk. -/
set_option linter.unusedVariables false
set_option linter.unusedSimpArgs false
namespace Go.Proofs.YtcbimnmpdpkefaaDoor.A
open Go.RowKit Go.Proofs.YtcbimnmpdpkefaaDoorW.PrintWords Go.Proofs.YtcbimnmpdpkefaaDoorW.PrintLast Go.Proofs.YtcbimnmpdpkefaaDoorW.PrintMore
set_option maxHeartbeats 8000000 in
set_option maxRecDepth 100000 in
theorem withins_walk (A0 : Option Addr) (c0 : Nat) (l : List Ds) (x : Nd) (hx : OkN x) (A : Option Addr) (c : Nat) (w : World) (hG : GlobP w) (hr0 : Kd.C kD w A0 l.length l) (hc0 : l.length ≤ c0) (hl : l.length < 5864062014800) (hc : x.f3.length ≤ c) (hC : Kd.C kN w A x.f3.length x.f3) :
    Calls Tryd.prog 10 #[.slice A0 l.length c0, .agg #[.int .i64 x.f0, .int .i64 x.f1, .int .i64 x.f2, .slice A x.f3.length c]] w fun e w' => e = .returned (.bool true) ∧ Below w.heap.size w w' := by
  obtain ⟨kr, hkr⟩ := rwithin_ok x hx l (by omega)
  obtain ⟨kl, hkl⟩ := same_reflS l (by omega)
  have hG1 := hG.below (below_alloc (Below.refl w.heap.size w) (.cells #[.int .i64 x.f0, .int .i64 x.f1, .int .i64 x.f2, .slice A x.f3.length c] 50))
  have hb0 := below_alloc (Below.refl w.heap.size w) (.cells #[.int .i64 x.f0, .int .i64 x.f1, .int .i64 x.f2, .slice A x.f3.length c] 50)
  have hk3 : (w.alloc (.cells #[.int .i64 x.f0, .int .i64 x.f1, .int .i64 x.f2, .slice A x.f3.length c] 50)).heap[w.heap.size]? = some (.cells #[.int .i64 x.f0, .int .i64 x.f1, .int .i64 x.f2, .slice A x.f3.length c] 50) := by show (w.heap.push _)[_]? = _; rw [Array.getElem?_push, if_pos rfl]
  have HSH := Aside0.mk (scholiastlaw20_shown.calls 20 true _ hG1 shown_true)
  have HR0 := Aside0.mk hr0
  have HC := Aside0.mk hC
  have HX := Aside0.mk hx
  have HKR := Aside0.mk hkr
  have HKL := Aside0.mk hkl
  have HB0 := Aside0.mk hb0
  have HK3 := Aside0.mk hk3
  clear hr0 hG hC hx hkr hkl hG1 hb0 hk3
  go_enter Tryd.func10, Tryd.ntmps10
  go_upto_region 3 with (go_at_call 15; refine HSH.out.mono ?_; rintro e w1 ⟨rfl, hB⟩; have HK1 := Aside0.mk ((hB.block _ (blk_lt HK3.out)).trans HK3.out); have HB1 := Aside0.mk (below_then HB0.out HB0.out.size hB); clear hB)
  have HL1 := Aside0.mk (lentD A0 c0 l w1 (Kd.C_below HR0.out HB1.out) hc0 (by omega))
  go_upto_region 4 with (go_at_call 20; refine HL1.out.mono ?_; rintro e w2 ⟨g, cap, rfl, hR, hcap, hB⟩; have HO2 := Aside0.mk (R_C hR rfl).1; have HCAP := Aside0.mk hcap; have HK2 := Aside0.mk ((hB.block _ (blk_lt HK1.out)).trans HK1.out); have HB2 := Aside0.mk (below_then HB1.out HB1.out.size hB); clear hR hcap hB)
  have hcap2 : l.length ≤ cap := by have := HCAP.out; rw [List.length_append] at this; omega
  refine wp_region_held_drew (S := fun W => Below w2.heap.size w2 W) (by kernel_rfl) ?_ (fun hHeld => ?_)
  · first | exact Below.refl _ _ | exact below_drew1 (Below.refl _ _)
  refine wpAnyH_take (i := 0) (v := ?_) rfl (by kernel_rfl) (by kernel_rfl) (by kernel_rfl) (fun _ _ _ h => h) (Or.inl ⟨by rfl, ?_⟩) (by assumption) ?_
  rotate_left
  · intro W_ hSw; have hk_ := (hSw.block _ (blk_lt HK2.out)).trans HK2.out; have h0_ := (blk_cell hk_ 0).trans rfl; have h1_ := (blk_cell hk_ 1).trans rfl; have h2_ := (blk_cell hk_ 2).trans rfl; have h3_ := (blk_cell hk_ 3).trans rfl; go_simp <;> with_reducible rfl
  try simp only [Act.put, List.getElem_toArray, List.getElem_cons_succ, List.getElem_cons_zero, List.setIfInBounds_toArray, List.set_cons_zero, List.set_cons_succ]
  refine wpAnyH_take (i := 1) (v := ?_) rfl (by kernel_rfl) (by kernel_rfl) (by kernel_rfl) (fun _ _ _ h => h) (Or.inl ⟨by rfl, ?_⟩) (by assumption) ?_
  rotate_left
  · intro W_ hSw; have hk_ := (hSw.block _ (blk_lt HK2.out)).trans HK2.out; have h0_ := (blk_cell hk_ 0).trans rfl; have h1_ := (blk_cell hk_ 1).trans rfl; have h2_ := (blk_cell hk_ 2).trans rfl; have h3_ := (blk_cell hk_ 3).trans rfl; go_simp <;> with_reducible rfl
  try simp only [Act.put, List.getElem_toArray, List.getElem_cons_succ, List.getElem_cons_zero, List.setIfInBounds_toArray, List.set_cons_zero, List.set_cons_succ]
  refine wpAnyH_take (i := 3) (v := ?_) rfl (by kernel_rfl) (by kernel_rfl) (by kernel_rfl) (fun _ _ _ h => h) (Or.inl ⟨by rfl, ?_⟩) (by assumption) ?_
  rotate_left
  · intro W_ hSw; have hk_ := (hSw.block _ (blk_lt HK2.out)).trans HK2.out; have h0_ := (blk_cell hk_ 0).trans rfl; have h1_ := (blk_cell hk_ 1).trans rfl; have h2_ := (blk_cell hk_ 2).trans rfl; have h3_ := (blk_cell hk_ 3).trans rfl; go_simp <;> with_reducible rfl
  try simp only [Act.put, List.getElem_toArray, List.getElem_cons_succ, List.getElem_cons_zero, List.setIfInBounds_toArray, List.set_cons_zero, List.set_cons_succ]
  refine wpAnyH_take (i := 4) (v := ?_) rfl (by kernel_rfl) (by kernel_rfl) (by kernel_rfl) (fun _ _ _ h => h) (Or.inl ⟨by rfl, ?_⟩) (by assumption) ?_
  rotate_left
  · intro W_ hSw; have hk_ := (hSw.block _ (blk_lt HK2.out)).trans HK2.out; have h0_ := (blk_cell hk_ 0).trans rfl; have h1_ := (blk_cell hk_ 1).trans rfl; have h2_ := (blk_cell hk_ 2).trans rfl; have h3_ := (blk_cell hk_ 3).trans rfl; go_simp <;> with_reducible rfl
  try simp only [Act.put, List.getElem_toArray, List.getElem_cons_succ, List.getElem_cons_zero, List.setIfInBounds_toArray, List.set_cons_zero, List.set_cons_succ]
  refine wpAnyH_ready (rs := [2]) (by kernel_rfl) (by simp) ?_
  refine AllReadyH.cons rfl (fun K hK => ?_) AllReadyH.nil
  go_simp
  refine (within_ok x HX.out l (by omega) (some ⟨g, 0, none⟩) cap A c _ (C_headD (Kd.C_below HO2.out hHeld)) hcap2 hc (Kd.C_below HC.out (below_then HB2.out HB2.out.size hHeld))).mono ?_
  rintro e w3 ⟨rfl, hB⟩
  refine hK.out _ _ (below_then hHeld hHeld.size hB) (fun hHeld2 => ?_)
  clear hK K hHeld hB
  try simp only [Act.put, List.getElem_toArray, List.getElem_cons_succ, List.getElem_cons_zero, List.setIfInBounds_toArray, List.set_cons_zero, List.set_cons_succ]
  refine wpAnyH_ready (rs := [5]) (by kernel_rfl) (by simp) ?_
  refine AllReadyH.cons rfl (fun K hK => ?_) AllReadyH.nil
  go_simp
  refine (scholiastref20_Within.calls kr A0 c0 l x.f0 x.f1 x.f2 A c x.f3 _ _ (Kd.C_below HR0.out (below_then HB2.out HB2.out.size hHeld2)) hc0 (Kd.C_below HC.out (below_then HB2.out HB2.out.size hHeld2)) hc HKR.out).mono ?_
  rintro e w4 ⟨rfl, hB⟩
  refine hK.out _ _ (below_then hHeld2 hHeld2.size hB) (fun hHeld3 => ?_)
  clear hK K hHeld2 hB
  try simp only [Act.put, List.getElem_toArray, List.getElem_cons_succ, List.getElem_cons_zero, List.setIfInBounds_toArray, List.set_cons_zero, List.set_cons_succ]
  refine wpAnyH_take (i := 6) (v := ?_) rfl (by kernel_rfl) (by kernel_rfl) (by kernel_rfl) (fun _ _ _ h => h) (Or.inl ⟨by rfl, ?_⟩) (by assumption) ?_
  rotate_left
  · intro W_ hSw; have hk_ := (hSw.block _ (blk_lt HK2.out)).trans HK2.out; have h0_ := (blk_cell hk_ 0).trans rfl; have h1_ := (blk_cell hk_ 1).trans rfl; have h2_ := (blk_cell hk_ 2).trans rfl; have h3_ := (blk_cell hk_ 3).trans rfl; go_simp <;> with_reducible rfl
  try simp only [Act.put, List.getElem_toArray, List.getElem_cons_succ, List.getElem_cons_zero, List.setIfInBounds_toArray, List.set_cons_zero, List.set_cons_succ]
  refine wpAnyH_take (i := 7) (v := ?_) rfl (by kernel_rfl) (by kernel_rfl) (by kernel_rfl) (fun _ _ _ h => h) (Or.inl ⟨by rfl, ?_⟩) (by assumption) ?_
  rotate_left
  · intro W_ hSw; have hk_ := (hSw.block _ (blk_lt HK2.out)).trans HK2.out; have h0_ := (blk_cell hk_ 0).trans rfl; have h1_ := (blk_cell hk_ 1).trans rfl; have h2_ := (blk_cell hk_ 2).trans rfl; have h3_ := (blk_cell hk_ 3).trans rfl; go_simp <;> with_reducible rfl
  try simp only [Act.put, List.getElem_toArray, List.getElem_cons_succ, List.getElem_cons_zero, List.setIfInBounds_toArray, List.set_cons_zero, List.set_cons_succ]
  refine wpAnyH_take (i := 8) (v := ?_) rfl (by kernel_rfl) (by kernel_rfl) (by kernel_rfl) (fun _ _ _ h => h) (Or.inl ⟨by rfl, ?_⟩) (by assumption) ?_
  rotate_left
  · intro W_ hSw; have hk_ := (hSw.block _ (blk_lt HK2.out)).trans HK2.out; have h0_ := (blk_cell hk_ 0).trans rfl; have h1_ := (blk_cell hk_ 1).trans rfl; have h2_ := (blk_cell hk_ 2).trans rfl; have h3_ := (blk_cell hk_ 3).trans rfl; go_simp <;> with_reducible rfl
  try simp only [Act.put, List.getElem_toArray, List.getElem_cons_succ, List.getElem_cons_zero, List.setIfInBounds_toArray, List.set_cons_zero, List.set_cons_succ]
  refine wpAnyH_take (i := 9) (v := ?_) rfl (by kernel_rfl) (by kernel_rfl) (by kernel_rfl) (fun _ _ _ h => h) (Or.inl ⟨by rfl, ?_⟩) (by assumption) ?_
  rotate_left
  · intro W_ hSw; have hk_ := (hSw.block _ (blk_lt HK2.out)).trans HK2.out; have h0_ := (blk_cell hk_ 0).trans rfl; have h1_ := (blk_cell hk_ 1).trans rfl; have h2_ := (blk_cell hk_ 2).trans rfl; have h3_ := (blk_cell hk_ 3).trans rfl; go_simp <;> with_reducible rfl
  try simp only [Act.put, List.getElem_toArray, List.getElem_cons_succ, List.getElem_cons_zero, List.setIfInBounds_toArray, List.set_cons_zero, List.set_cons_succ]
  refine wpAnyH_ready (rs := [10]) (by kernel_rfl) (by simp) ?_
  refine AllReadyH.cons rfl (fun K hK => ?_) AllReadyH.nil
  go_simp
  refine (keptD kl g cap A0 c0 l _ (Kd.C_below HO2.out hHeld3) HCAP.out (Kd.C_below HR0.out (below_then HB2.out HB2.out.size hHeld3)) hc0 (by omega) HKL.out).mono ?_
  rintro e w5 ⟨rfl, hB⟩
  refine hK.out _ _ (below_then hHeld3 hHeld3.size hB) (fun hHeld4 => ?_)
  clear hK K hHeld3 hB
  try simp only [Act.put, List.getElem_toArray, List.getElem_cons_succ, List.getElem_cons_zero, List.setIfInBounds_toArray, List.set_cons_zero, List.set_cons_succ]
  refine wpAnyH_take (i := 11) (v := ?_) rfl (by kernel_rfl) (by kernel_rfl) (by kernel_rfl) (fun _ _ _ h => h) (Or.inl ⟨by rfl, ?_⟩) (by assumption) ?_
  rotate_left
  · intro W_ hSw; have hk_ := (hSw.block _ (blk_lt HK2.out)).trans HK2.out; have h0_ := (blk_cell hk_ 0).trans rfl; have h1_ := (blk_cell hk_ 1).trans rfl; have h2_ := (blk_cell hk_ 2).trans rfl; have h3_ := (blk_cell hk_ 3).trans rfl; go_simp <;> with_reducible rfl
  try simp only [Act.put, List.getElem_toArray, List.getElem_cons_succ, List.getElem_cons_zero, List.setIfInBounds_toArray, List.set_cons_zero, List.set_cons_succ]
  refine wpAnyH_take (i := 12) (v := ?_) rfl (by kernel_rfl) (by kernel_rfl) (by kernel_rfl) (fun _ _ _ h => h) (Or.inl ⟨by rfl, ?_⟩) (by assumption) ?_
  rotate_left
  · intro W_ hSw; have hk_ := (hSw.block _ (blk_lt HK2.out)).trans HK2.out; have h0_ := (blk_cell hk_ 0).trans rfl; have h1_ := (blk_cell hk_ 1).trans rfl; have h2_ := (blk_cell hk_ 2).trans rfl; have h3_ := (blk_cell hk_ 3).trans rfl; go_simp <;> with_reducible rfl
  try simp only [Act.put, List.getElem_toArray, List.getElem_cons_succ, List.getElem_cons_zero, List.setIfInBounds_toArray, List.set_cons_zero, List.set_cons_succ]
  refine wpAnyH_done (by kernel_rfl) ?_ _
  go_wp2
  go_ret
  exact ⟨by first | rfl | simp, below_then HB2.out HB2.out.size hHeld4⟩
end Go.Proofs.YtcbimnmpdpkefaaDoor.A

/- Arguments opened: what a reading of a value tells, as lists and structures of plain values. -/
set_option linter.unusedVariables false
set_option linter.unusedSimpArgs false
namespace Go.Proofs.YtcbimnmpdpkefaaDoorTB
open Go.RowKit Go.Deep Go.ChangeShapes Go.WideShapes Go.Proofs.YtcbimnmpdpkefaaDoorW.PrintWords

/-- Whatever reads as a value of type t is, in memory, a value of kind d, and B holds of it. -/
def Opn {α : Type} (P : Program) (w : World) (t : TypeId) (d : Kd α) (B : α → Prop) : Prop :=
  ∀ (H : Type) (enc : TypeId × Value → H) (base : Nat) (spare : Nat → Bool) (held : Bool) (fuel : Nat) (cs : List Value) (y : DataW H × List MemPlace),
    DataW.trod enc P w base spare held fuel t cs = some y → (y.1.weights P t).all (· ≤ reachBytes) = true → ∃ x, d.K w x cs ∧ B x
theorem Opn.mono {α : Type} {P : Program} {w : World} {t : TypeId} {d : Kd α} {B B' : α → Prop} (h : Opn P w t d B) (hb : ∀ x, B x → B' x) : Opn P w t d B' := by
  intro H enc base spare held fuel cs y hy hw
  obtain ⟨x, h1, h2⟩ := h H enc base spare held fuel cs y hy hw
  exact ⟨x, h1, hb x h2⟩
theorem Opn.int {P : Program} {w : World} {t : TypeId} {k : IntKind} (ht : P.underlying t = some (.int k)) : Opn P w t (Kd.int k) (fun n => (Lit.int k n).wf = true) := by
  intro H enc base spare held fuel cs y hy hw
  obtain ⟨n, rfl, rfl, hn⟩ := DataW.trod_int ht hy
  exact ⟨n, rfl, hn⟩
theorem Opn.bool {P : Program} {w : World} {t : TypeId} (ht : P.underlying t = some .bool) : Opn P w t Kd.bool (fun _ => True) := by
  intro H enc base spare held fuel cs y hy hw
  obtain ⟨n, rfl, rfl⟩ := DataW.trod_bool ht hy
  exact ⟨n, rfl, trivial⟩
theorem Opn.string {P : Program} {w : World} {t : TypeId} (ht : P.underlying t = some .string) : Opn P w t Kd.string (fun s => s.size ≤ 140737488351232) := by
  intro H enc base spare held fuel cs y hy hw
  obtain ⟨s, rfl, rfl, _⟩ := DataW.trod_string ht hy
  refine ⟨s, rfl, ?_⟩
  simp only [DataW.weights, List.all_cons, List.all_nil, Bool.and_true, decide_eq_true_eq, Array.length_toList] at hw
  exact hw
theorem list_choose {α : Type} {p : Nat → α → Prop} : ∀ (n : Nat), (∀ i, i < n → ∃ x, p i x) → ∃ xs : List α, xs.length = n ∧ ∀ i x, xs[i]? = some x → p i x
  | 0, _ => ⟨[], rfl, fun i x h => by simp at h⟩
  | n + 1, h => by
    obtain ⟨xs, hl, hx⟩ := list_choose n (fun i hi => h i (by omega))
    obtain ⟨z, hz⟩ := h n (by omega)
    refine ⟨xs ++ [z], by simp [hl], fun i x hix => ?_⟩
    rcases Nat.lt_or_ge i n with h1 | h1
    · rw [List.getElem?_append_left (by omega)] at hix
      exact hx i x hix
    · have : i = n := by
        have := (List.getElem?_eq_some_iff.1 hix).1
        simp at this; omega
      subst this
      rw [List.getElem?_append_right (by omega), hl, Nat.sub_self] at hix
      simp only [List.getElem?_cons_zero, Option.some.injEq] at hix
      exact hix ▸ hz
theorem weightsAll_get {H : Type} {P : Program} {e : TypeId} : ∀ (l : List (DataW H)) (i : Nat) (y : DataW H), (DataW.weightsAll P e l).all (· ≤ reachBytes) = true → l[i]? = some y → (y.weights P e).all (· ≤ reachBytes) = true
  | [], i, y, _, hi => by simp at hi
  | d :: r, 0, y, h, hi => by
    simp only [List.getElem?_cons_zero, Option.some.injEq] at hi
    subst hi
    simp only [DataW.weightsAll, List.all_append, Bool.and_eq_true] at h
    exact h.1
  | d :: r, i + 1, y, h, hi => by
    simp only [DataW.weightsAll, List.all_append, Bool.and_eq_true] at h
    exact weightsAll_get r i y h.2 (by simpa using hi)
theorem Opn.slice {α : Type} {P : Program} {w : World} {t e : TypeId} {d : Kd α} {B : α → Prop} (hd : Opn P w e d B) (ht : P.underlying t = some (.slice e)) (hc : P.cellsOf e = d.sz) {nb : Nat} (hnb : P.bytesOf e = nb) :
    Opn P w t (Kd.slice e d) (fun xs => xs.length * nb ≤ 140737488351232 ∧ ∀ x ∈ xs, B x) := by
  intro H enc base spare held fuel cs y hy hw
  rcases open_slice ht hy with ⟨rfl, rfl⟩ | ⟨a, len, cap, m, n, D, Pl, rfl, hb, hl, hm, hmm, rfl, hx⟩
  · exact ⟨[], ⟨none, 0, rfl, Nat.le_refl _, rfl, by simp, fun h => absurd h (by simp)⟩, by simp, by simp⟩
  · simp only [DataW.weights, ht, List.all_cons, List.all_append, Bool.and_eq_true, decide_eq_true_eq, List.length_map, List.length_range] at hw
    obtain ⟨hw1, hw2, _⟩ := hw
    have hlm : len ≤ m := by rw [hmm]; split <;> omega
    obtain ⟨xs, hxl, hxs⟩ := list_choose (p := fun i x => ∃ cs', w.cells? base (a.add (i * P.cellsOf e)) (P.cellsOf e) = some cs' ∧ d.K w x cs' ∧ B x) len (fun i hi => by
      obtain ⟨cs', h1, h2⟩ := hx i (by omega)
      obtain ⟨x, h3, h4⟩ := hd H enc base spare held n cs' (D i, Pl i) h2 (weightsAll_get _ i _ hw2 (by simp [hi]))
      exact ⟨x, cs', h1, h3, h4⟩)
    have hmx : maxLen ≤ 9223372036854775807 := by decide
    refine ⟨xs, ⟨some a, cap, by rw [hxl], by omega, rfl, by rw [hxl]; omega, fun _ => ⟨a, rfl, fun j x hj => ?_⟩⟩, ?_, fun x hx' => ?_⟩
    · obtain ⟨cs', h1, h2, _⟩ := hxs j x hj
      have hlen := d.K_len h2
      refine ⟨cs', hlen, h2, fun i u hu => ?_⟩
      obtain ⟨_, _, h3⟩ := World.cells?_some h1
      rw [hc] at h3
      have := h3 i (by rw [← hlen]; exact (List.getElem?_eq_some_iff.1 hu).1)
      rw [Go.Deep.add_add] at this
      rw [this, hu]
    · have hz : len * P.bytesOf e ≤ 140737488351232 := Nat.le_trans (Nat.mul_le_mul_right _ (by omega)) hw1
      rw [hxl, ← hnb]; exact hz
    · obtain ⟨i, hi, rfl⟩ := List.mem_iff_getElem.1 hx'
      obtain ⟨_, _, _, h⟩ := hxs i _ (List.getElem?_eq_getElem hi)
      exact h
/-- The fields of a struct, from one on. -/
def OpnF {α : Type} (P : Program) (w : World) (fs : List Field) (off : Nat) (d : Kd α) (B : α → Prop) : Prop :=
  ∀ (H : Type) (enc : TypeId × Value → H) (base : Nat) (spare : Nat → Bool) (held : Bool) (n : Nat) (cs : List Value) (xs : List (DataW H × List MemPlace)), xs.length = fs.length →
    (∀ (i : Nat) (f : Field), fs[i]? = some f → DataW.trod enc P w base spare held n f.type ((cs.drop f.offset).take (P.cellsOf f.type)) = xs[i]?) →
    (DataW.weightsEach P (fs.map (·.type)) (xs.map (·.1))).all (· ≤ reachBytes) = true → ∃ x, d.K w x ((cs.drop off).take d.sz) ∧ B x
theorem OpnF.one {α : Type} {P : Program} {w : World} {f : Field} {off : Nat} {d : Kd α} {B : α → Prop} (h : Opn P w f.type d B) (ho : f.offset = off) (hc : P.cellsOf f.type = d.sz) : OpnF P w [f] off d B := by
  intro H enc base spare held n cs xs hl hx hw
  match xs, hl with
  | [x], _ =>
    have h0 := hx 0 f rfl
    simp only [List.getElem?_cons_zero] at h0
    rw [ho, hc] at h0
    simp only [List.map_cons, List.map_nil, DataW.weightsEach, List.append_nil] at hw
    exact h H enc base spare held n _ x h0 hw
theorem OpnF.cons {α β : Type} {P : Program} {w : World} {f : Field} {fs : List Field} {off : Nat} {d : Kd α} {d' : Kd β} {B : α → Prop} {B' : β → Prop} (h : Opn P w f.type d B) (ho : f.offset = off) (hc : P.cellsOf f.type = d.sz) (hr : OpnF P w fs (off + d.sz) d' B') :
    OpnF P w (f :: fs) off (Kd.pair d d') (fun x => B x.1 ∧ B' x.2) := by
  intro H enc base spare held n cs xs hl hx hw
  match xs, hl with
  | x :: xs, hl =>
    have h0 := hx 0 f rfl
    simp only [List.getElem?_cons_zero] at h0
    rw [ho, hc] at h0
    simp only [List.map_cons, DataW.weightsEach, List.all_append, Bool.and_eq_true] at hw
    obtain ⟨p, hp1, hp2⟩ := h H enc base spare held n _ x h0 hw.1
    obtain ⟨q, hq1, hq2⟩ := hr H enc base spare held n cs xs (by simpa using hl) (fun i f' hf => by simpa using hx (i + 1) f' (by simpa using hf)) hw.2
    refine ⟨(p, q), ⟨_, _, ?_, hp1, hq1⟩, hp2, hq2⟩
    show (cs.drop off).take (d.sz + d'.sz) = _
    rw [List.take_add, List.drop_drop]
theorem Opn.struct {α : Type} {P : Program} {w : World} {t : TypeId} {fs : Array Field} {d : Kd α} {B : α → Prop} (ht : P.underlying t = some (.struct fs)) (hc : P.cellsOf t = d.sz) (h : OpnF P w fs.toList 0 d B) : Opn P w t d B := by
  intro H enc base spare held fuel cs y hy hw
  obtain ⟨xs, n, _, rfl, hl, hxl, hx⟩ := DataW.trod_struct ht hy
  simp only [DataW.weights, ht] at hw
  obtain ⟨x, h1, h2⟩ := h H enc base spare held n cs xs (by simpa using hxl) (fun i f hf => hx i f (by simpa using hf)) hw
  refine ⟨x, ?_, h2⟩
  rwa [List.drop_zero, ← hc, ← hl, List.take_length] at h1
theorem Opn.iso {α β : Type} {P : Program} {w : World} {t : TypeId} {d : Kd α} {B : α → Prop} (h : Opn P w t d B) (f : β → α) (g : α → β) (hg : ∀ x, f (g x) = x) : Opn P w t (Kd.iso d f) (fun x => B (f x)) := by
  intro H enc base spare held fuel cs y hy hw
  obtain ⟨x, h1, h2⟩ := h H enc base spare held fuel cs y hy hw
  exact ⟨g x, by show d.K w (f (g x)) cs; rwa [hg], by show B (f (g x)); rwa [hg]⟩
theorem Opn.arg {α H : Type} {P : Program} {w : World} {t : TypeId} {d : Kd α} {B : α → Prop} {enc : TypeId × Value → H} {base : Nat} {spare : Nat → Bool} {held : Bool} {v : Value} {y : DataW H} {ps : List MemPlace} (h : Opn P w t d B) (hT : DataW.Trod enc P w base spare held t v y ps)
    (hw : (y.weights P t).all (· ≤ reachBytes) = true) : ∃ x, d.K w x v.cells.toList ∧ B x := by
  obtain ⟨fuel, hf⟩ := hT
  exact h H enc base spare held fuel _ _ hf hw
end Go.Proofs.YtcbimnmpdpkefaaDoorTB

/- Arguments opened that hold values of their own type (trees): by induction on the size of what was read. -/
set_option linter.unusedVariables false
set_option linter.unusedSimpArgs false
namespace Go.Proofs.YtcbimnmpdpkefaaDoorTB
open Go.RowKit Go.Deep Go.ChangeShapes Go.WideShapes Go.Proofs.YtcbimnmpdpkefaaDoorW.PrintWords
/-- As Opn, for readings smaller than s alone. -/
def OpnS {α : Type} (s : Nat) (P : Program) (w : World) (t : TypeId) (d : Kd α) (B : α → Prop) : Prop :=
  ∀ (H : Type) (enc : TypeId × Value → H) (base : Nat) (spare : Nat → Bool) (held : Bool) (fuel : Nat) (cs : List Value) (y : DataW H × List MemPlace),
    DataW.trod enc P w base spare held fuel t cs = some y → (y.1.weights P t).all (· ≤ reachBytes) = true → SizeOf.sizeOf y.1 < s → ∃ x, d.K w x cs ∧ B x
theorem Opn.small {α : Type} {P : Program} {w : World} {t : TypeId} {d : Kd α} {B : α → Prop} (h : Opn P w t d B) (s : Nat) : OpnS s P w t d B :=
  fun H enc base spare held fuel cs y hy hw _ => h H enc base spare held fuel cs y hy hw
theorem OpnS.whole {α : Type} {P : Program} {w : World} {t : TypeId} {d : Kd α} {B : α → Prop} (h : ∀ s, OpnS s P w t d B) : Opn P w t d B :=
  fun H enc base spare held fuel cs y hy hw => h (SizeOf.sizeOf y.1 + 1) H enc base spare held fuel cs y hy hw (Nat.lt_succ_self _)
theorem OpnS.le {α : Type} {P : Program} {w : World} {t : TypeId} {d : Kd α} {B : α → Prop} {s s' : Nat} (h : OpnS s P w t d B) (hs : s' ≤ s) : OpnS s' P w t d B :=
  fun H enc base spare held fuel cs y hy hw hz => h H enc base spare held fuel cs y hy hw (Nat.lt_of_lt_of_le hz hs)
theorem OpnS.mono {α : Type} {P : Program} {w : World} {t : TypeId} {d : Kd α} {B B' : α → Prop} {s : Nat} (h : OpnS s P w t d B) (hb : ∀ x, B x → B' x) : OpnS s P w t d B' := by
  intro H enc base spare held fuel cs y hy hw hz
  obtain ⟨x, h1, h2⟩ := h H enc base spare held fuel cs y hy hw hz
  exact ⟨x, h1, hb x h2⟩
theorem OpnS.iso {α β : Type} {P : Program} {w : World} {t : TypeId} {d : Kd α} {B : α → Prop} {s : Nat} (h : OpnS s P w t d B) (f : β → α) (g : α → β) (hg : ∀ x, f (g x) = x) : OpnS s P w t (Kd.iso d f) (fun x => B (f x)) := by
  intro H enc base spare held fuel cs y hy hw hz
  obtain ⟨x, h1, h2⟩ := h H enc base spare held fuel cs y hy hw hz
  exact ⟨g x, by show d.K w (f (g x)) cs; rwa [hg], by show B (f (g x)); rwa [hg]⟩
theorem OpnS.slice {α : Type} {P : Program} {w : World} {t e : TypeId} {d : Kd α} {B : α → Prop} {s : Nat} (hd : OpnS s P w e d B) (ht : P.underlying t = some (.slice e)) (hc : P.cellsOf e = d.sz) {nb : Nat} (hnb : P.bytesOf e = nb) :
    OpnS (s + 1) P w t (Kd.slice e d) (fun xs => xs.length * nb ≤ 140737488351232 ∧ ∀ x ∈ xs, B x) := by
  intro H enc base spare held fuel cs y hy hw hz
  rcases open_slice ht hy with ⟨rfl, rfl⟩ | ⟨a, len, cap, m, n, D, Pl, rfl, hb, hl, hm, hmm, rfl, hx⟩
  · exact ⟨[], ⟨none, 0, rfl, Nat.le_refl _, rfl, by simp, fun h => absurd h (by simp)⟩, by simp, by simp⟩
  · simp only [DataW.weights, ht, List.all_cons, List.all_append, Bool.and_eq_true, decide_eq_true_eq, List.length_map, List.length_range] at hw
    obtain ⟨hw1, hw2, _⟩ := hw
    have hlm : len ≤ m := by rw [hmm]; split <;> omega
    obtain ⟨xs, hxl, hxs⟩ := list_choose (p := fun i x => ∃ cs', w.cells? base (a.add (i * P.cellsOf e)) (P.cellsOf e) = some cs' ∧ d.K w x cs' ∧ B x) len (fun i hi => by
      obtain ⟨cs', h1, h2⟩ := hx i (by omega)
      have hmem : D i ∈ (List.range len).map D := List.mem_map.2 ⟨i, List.mem_range.2 hi, rfl⟩
      have h5 := List.sizeOf_lt_of_mem hmem
      obtain ⟨x, h3, h4⟩ := hd H enc base spare held n cs' (D i, Pl i) h2 (weightsAll_get _ i _ hw2 (by simp [hi])) (by
        simp only [DataW.slice.sizeOf_spec] at hz; dsimp only; omega)
      exact ⟨x, cs', h1, h3, h4⟩)
    have hmx : maxLen ≤ 9223372036854775807 := by decide
    refine ⟨xs, ⟨some a, cap, by rw [hxl], by omega, rfl, by rw [hxl]; omega, fun _ => ⟨a, rfl, fun j x hj => ?_⟩⟩, ?_, fun x hx' => ?_⟩
    · obtain ⟨cs', h1, h2, _⟩ := hxs j x hj
      have hlen := d.K_len h2
      refine ⟨cs', hlen, h2, fun i u hu => ?_⟩
      obtain ⟨_, _, h3⟩ := World.cells?_some h1
      rw [hc] at h3
      have := h3 i (by rw [← hlen]; exact (List.getElem?_eq_some_iff.1 hu).1)
      rw [Go.Deep.add_add] at this
      rw [this, hu]
    · have hz : len * P.bytesOf e ≤ 140737488351232 := Nat.le_trans (Nat.mul_le_mul_right _ (by omega)) hw1
      rw [hxl, ← hnb]; exact hz
    · obtain ⟨i, hi, rfl⟩ := List.mem_iff_getElem.1 hx'
      obtain ⟨_, _, _, h⟩ := hxs i _ (List.getElem?_eq_getElem hi)
      exact h
def OpnSF {α : Type} (s : Nat) (P : Program) (w : World) (fs : List Field) (off : Nat) (d : Kd α) (B : α → Prop) : Prop :=
  ∀ (H : Type) (enc : TypeId × Value → H) (base : Nat) (spare : Nat → Bool) (held : Bool) (n : Nat) (cs : List Value) (xs : List (DataW H × List MemPlace)), xs.length = fs.length →
    (∀ (i : Nat) (f : Field), fs[i]? = some f → DataW.trod enc P w base spare held n f.type ((cs.drop f.offset).take (P.cellsOf f.type)) = xs[i]?) →
    (DataW.weightsEach P (fs.map (·.type)) (xs.map (·.1))).all (· ≤ reachBytes) = true → (∀ x ∈ xs, SizeOf.sizeOf x.1 < s) → ∃ x, d.K w x ((cs.drop off).take d.sz) ∧ B x
theorem OpnSF.one {α : Type} {P : Program} {w : World} {f : Field} {off : Nat} {d : Kd α} {B : α → Prop} {s : Nat} (h : OpnS s P w f.type d B) (ho : f.offset = off) (hc : P.cellsOf f.type = d.sz) : OpnSF s P w [f] off d B := by
  intro H enc base spare held n cs xs hl hx hw hz
  match xs, hl with
  | [x], _ =>
    have h0 := hx 0 f rfl
    simp only [List.getElem?_cons_zero] at h0
    rw [ho, hc] at h0
    simp only [List.map_cons, List.map_nil, DataW.weightsEach, List.append_nil] at hw
    exact h H enc base spare held n _ x h0 hw (hz x List.mem_cons_self)
theorem OpnSF.cons {α β : Type} {P : Program} {w : World} {f : Field} {fs : List Field} {off : Nat} {d : Kd α} {d' : Kd β} {B : α → Prop} {B' : β → Prop} {s : Nat} (h : OpnS s P w f.type d B) (ho : f.offset = off) (hc : P.cellsOf f.type = d.sz) (hr : OpnSF s P w fs (off + d.sz) d' B') :
    OpnSF s P w (f :: fs) off (Kd.pair d d') (fun x => B x.1 ∧ B' x.2) := by
  intro H enc base spare held n cs xs hl hx hw hz
  match xs, hl with
  | x :: xs, hl =>
    have h0 := hx 0 f rfl
    simp only [List.getElem?_cons_zero] at h0
    rw [ho, hc] at h0
    simp only [List.map_cons, DataW.weightsEach, List.all_append, Bool.and_eq_true] at hw
    obtain ⟨p, hp1, hp2⟩ := h H enc base spare held n _ x h0 hw.1 (hz x List.mem_cons_self)
    obtain ⟨q, hq1, hq2⟩ := hr H enc base spare held n cs xs (by simpa using hl) (fun i f' hf => by simpa using hx (i + 1) f' (by simpa using hf)) hw.2 (fun y hy => hz y (List.mem_cons_of_mem _ hy))
    refine ⟨(p, q), ⟨_, _, ?_, hp1, hq1⟩, hp2, hq2⟩
    show (cs.drop off).take (d.sz + d'.sz) = _
    rw [List.take_add, List.drop_drop]
theorem OpnS.struct {α : Type} {P : Program} {w : World} {t : TypeId} {fs : Array Field} {d : Kd α} {B : α → Prop} {s : Nat} (ht : P.underlying t = some (.struct fs)) (hc : P.cellsOf t = d.sz) (h : OpnSF s P w fs.toList 0 d B) : OpnS (s + 1) P w t d B := by
  intro H enc base spare held fuel cs y hy hw hz
  obtain ⟨xs, n, _, rfl, hl, hxl, hx⟩ := DataW.trod_struct ht hy
  simp only [DataW.weights, ht] at hw
  obtain ⟨x, h1, h2⟩ := h H enc base spare held n cs xs (by simpa using hxl) (fun i f hf => hx i f (by simpa using hf)) hw (fun x hx' => by
    have h5 := List.sizeOf_lt_of_mem (List.mem_map.2 ⟨x, hx', rfl⟩ : x.1 ∈ xs.map (·.1))
    simp only [DataW.agg.sizeOf_spec] at hz
    omega)
  refine ⟨x, ?_, h2⟩
  rwa [List.drop_zero, ← hc, ← hl, List.take_length] at h1
end Go.Proofs.YtcbimnmpdpkefaaDoorTB

/- DiagWithin: whether any tree has any diagnostics' pieces is told as the document says, what came in stays. Conditions: none beyond the card's own. -/
namespace Go.Proofs.YtcbimnmpdpkefaaDoor.diagWithin
open Go.ChangeShapes Go.WideShapes Go.ChangeAt Go.RowKit Go.Lib Go.Proofs.YtcbimnmpdpkefaaDoorW.PrintWords Go.Proofs.YtcbimnmpdpkefaaDoor.A Go.Proofs.YtcbimnmpdpkefaaDoorTB
set_option linter.unusedVariables false
set_option linter.unusedSimpArgs false
theorem laidOut : laidOutB Tryd.prog = true := by kernel_rfl
theorem own : ownKnob Tryd.prog.godebug = none := by kernel_rfl
theorem pow_eq : (Rows.laid_internal_strconv_uint64pow10 : DataW Unit) = tabData .u64 pow10Tab := by kernel_rfl
theorem tabs {W : World} (hL : laidMet Tryd.prog Rows.diagWithinRow.laid W) : GlobP W := ⟨by
  have h := Lib.laidMet.reads hL (n := "internal/strconv.uint64pow10") (.tail _ (.tail _ (.head _)))
  rw [pow_eq] at h
  obtain ⟨g', t', cs, fuel, p, hg', ht', hvar, hd⟩ := h
  obtain rfl := Option.some.inj ((show Tryd.prog.globalNamed "internal/strconv.uint64pow10" = some 2 by kernel_rfl).symm.trans hg')
  obtain rfl := Option.some.inj ((show (Tryd.prog.globals[2]?).map (·.type) = some 145 by kernel_rfl).symm.trans ht')
  unfold TabIs
  rw [hvar, ← cells_of_tab Tryd.underlying145 Tryd.underlying121 (by kernel_rfl) (by kernel_rfl) hd]⟩
theorem opnDiag (w : World) : Opn Tryd.prog w 36 k36 (fun _ => True) :=
  ((Opn.struct (d := Kd.pair (Kd.int .i64) (Kd.pair (Kd.int .i64) (Kd.int .i64))) Tryd.underlying36 (by kernel_rfl) (OpnF.cons (Opn.int Tryd.underlying3) rfl (by kernel_rfl) (OpnF.cons (Opn.int Tryd.underlying3) rfl (by kernel_rfl) (OpnF.one (Opn.int Tryd.underlying3) rfl (by kernel_rfl))))).iso (fun x : Ds => (x.f0, x.f1, x.f2)) (fun p => ⟨p.1, p.2.1, p.2.2⟩) (fun _ => rfl)).mono (fun _ _ => trivial)
theorem opnDiags (w : World) : Opn Tryd.prog w 23 (Kd.slice 36 k36) (fun xs => xs.length * 24 ≤ 140737488351232 ∧ ∀ x ∈ xs, True) :=
  Opn.slice (opnDiag w) Tryd.underlying23 (by kernel_rfl) (by kernel_rfl)
theorem opnNodeS (w : World) : ∀ s, OpnS s Tryd.prog w 50 kN OkN
  | 0 => fun H enc base spare held fuel cs y hy hw hz => absurd hz (Nat.not_lt_zero _)
  | s + 1 => by
    have hk : OpnS s Tryd.prog w 48 (Kd.slice 50 kN) (fun xs => xs.length * 48 ≤ 140737488351232 ∧ ∀ x ∈ xs, OkN x) :=
      (OpnS.slice (s := s - 1) ((opnNodeS w s).le (by omega)) Tryd.underlying48 (by kernel_rfl) (by kernel_rfl)).le (by omega)
    have h := OpnS.struct (d := Kd.pair (Kd.int .i64) (Kd.pair (Kd.int .i64) (Kd.pair (Kd.int .i64) (Kd.slice 50 kN)))) Tryd.underlying50 (by kernel_rfl)
      (OpnSF.cons ((Opn.int Tryd.underlying3).small s) rfl (by kernel_rfl) (OpnSF.cons ((Opn.int Tryd.underlying3).small s) rfl (by kernel_rfl) (OpnSF.cons ((Opn.int Tryd.underlying3).small s) rfl (by kernel_rfl) (OpnSF.one hk rfl (by kernel_rfl)))))
    intro H enc base spare held fuel cs y hy hw hz
    obtain ⟨⟨a, b, c, xs⟩, ⟨c1, r1, e1, k1, c2, r2, e2, k2, c3, r3, e3, k3, A, n, e4, hn, hC⟩, _, _, _, h5, h6⟩ := h H enc base spare held fuel cs y hy hw hz
    obtain rfl := k1
    obtain rfl := k2
    obtain rfl := k3
    subst e4
    subst e3
    subst e2
    subst e1
    dsimp only at h5 h6
    exact ⟨⟨a, b, c, xs⟩, k50_mk w ⟨a, b, c, xs⟩ hn hC, OkN.mk _ (by dsimp only; omega) h6⟩
theorem opnNode (w : World) : Opn Tryd.prog w 50 kN OkN := OpnS.whole (opnNodeS w)
theorem agg_of {v : Value} {a b c d : Value} (h : [a, b, c, d] = v.cells.toList) : v = .agg #[a, b, c, d] := by
  cases v <;> simp [Value.cells] at h
  case agg xs => cases xs; simp_all
theorem reads (os : Os) {H : Type} (enc : TypeId × Value → H) : ∃ places, DataW.whole enc Tryd.prog ((World.laidAll Tryd.prog os Rows.diagWithinRow.laid).forCall (fun _ _ => 0) ⟨#[], #[.slice none 0 0, .agg #[.int .i64 0, .int .i64 0, .int .i64 0, .slice none 0 0]], []⟩).memory Tryd.f10.params.toList Rows.diagWithinSpec.vars false #[Value.slice none 0 0, .agg #[.int .i64 0, .int .i64 0, .int .i64 0, .slice none 0 0]].toList 8 = some ([.nil, .agg [.lit (.int .i64 0), .lit (.int .i64 0), .lit (.int .i64 0), .nil]], [], places) :=
  ⟨[], by kernel_rfl⟩
set_option maxRecDepth 100000 in
theorem lifted (os : Os) (started : os.Started) (H : Type) (enc : TypeId × Value → H) (F : Stop.Interp) :
    ReturnsInHanded {} Tryd.checked os 10 .any ((OpenSpec.ofChange Rows.diagWithinSpec).preRow enc Tryd.prog Tryd.f10 Rows.diagWithinRow.domain false Rows.diagWithinRow.laid) (((OpenSpec.ofChange Rows.diagWithinSpec).at F).post enc Tryd.prog Tryd.f10 false true false false) := by
  obtain ⟨places, hx⟩ := reads os enc
  have hok : Input.okWideB Tryd.prog ((World.laidAll Tryd.prog os Rows.diagWithinRow.laid).forCall (fun _ _ => 0) ⟨#[], #[.slice none 0 0, .agg #[.int .i64 0, .int .i64 0, .int .i64 0, .slice none 0 0]], []⟩) 10 ⟨#[], #[.slice none 0 0, .agg #[.int .i64 0, .int .i64 0, .int .i64 0, .slice none 0 0]], []⟩ = true := by kernel_rfl
  refine returnsInHanded_of_row (C := Tryd.checked) (s := OpenSpec.ofChange Rows.diagWithinSpec) own started (by kernel_rfl) Tryd.func10
    ⟨World.laidAll Tryd.prog os Rows.diagWithinRow.laid, fun _ _ => 0, ⟨#[], #[.slice none 0 0, .agg #[.int .i64 0, .int .i64 0, .int .i64 0, .slice none 0 0]], []⟩, World.laidAll_os _ _ _, World.shaped_of_ZipB (by kernel_rfl) (by kernel_rfl), (Input.okWide_of_okWideB (base := 0) hok).1, (Input.okWide_of_okWideB hok).2,
      OpenSpec.preRow_of_cond 8 hx (by kernel_rfl) (fun k hk => by cases hk) (by kernel_rfl) (by rw [MakeChecks.laidMetH_plain _ _ _ (by kernel_rfl)]; exact laidMet_laidAll _ (by kernel_rfl) (by kernel_rfl)), by
      simp only [Assume.holds]
      exact ⟨by simp, by simp, fun _ => Modest.zero, by simp, by simp⟩⟩ ?_
  intro W base args ds gs before hval hW hconds hcond hsz hL _ _
  have hW' := hW
  obtain ⟨p, q, hA0, hV, rfl, hfz, hnd⟩ := hW
  have hA : DataW.TrodAll enc Tryd.prog W 0 (fun _ => true) true Tryd.f10.params.toList args.toList ds p := hA0
  rw [Tryd.params10] at hA hval hsz
  obtain ⟨v0, vs0, d0, ds0, p0, q0, hargs, rfl, rfl, h0, r0⟩ := trodAll_cons hA
  obtain ⟨v1, vs1, d1, ds1, p1, q1, rfl, rfl, rfl, h1, r1⟩ := trodAll_cons r0
  obtain ⟨rfl, rfl, rfl⟩ := trodAll_nil r1
  obtain rfl : args = #[v0, v1] := by cases args; simp_all
  obtain ⟨rfl, rfl⟩ := trodVars_none hV
  obtain ⟨a0, len0, cap0, rfl⟩ := okWide_slice Tryd.underlying23 (hval 0 23 v0 rfl rfl)
  have k0 := h0
  have k1 := h1
  have lt1 : ∀ x ∈ p1, x.block < W.heap.size := by obtain ⟨m, hm⟩ := k1; exact DataW.trod_lt m _ _ _ hm
  have lt0 : ∀ x ∈ p0, x.block < W.heap.size := by obtain ⟨m, hm⟩ := k0; exact DataW.trod_lt m _ _ _ hm
  have hws : (d0.weights Tryd.prog 23).all (· ≤ reachBytes) = true ∧ (d1.weights Tryd.prog 50).all (· ≤ reachBytes) = true := by
    have h := hsz
    simp only [List.cons_append, DataW.weightsEach, List.all_append, Bool.and_eq_true] at h
    exact ⟨h.1, h.2.1⟩
  obtain ⟨xs, hK0, hB0, _⟩ := Opn.arg (opnDiags W) h0 hws.1
  obtain ⟨x, hK1, hX⟩ := Opn.arg (opnNode W) h1 hws.2
  obtain ⟨A0, c0, hcs0, hc0, hC0⟩ := hK0
  simp only [Value.cells, List.cons.injEq, Value.slice.injEq, and_true] at hcs0
  obtain ⟨rfl, rfl, rfl⟩ := hcs0
  obtain ⟨A1, c1, hcs1, hc1, hC1⟩ := k50_open hK1
  obtain rfl := agg_of hcs1.symm
  rw [MakeChecks.laidMetH_plain _ _ _ (by kernel_rfl)] at hL
  refine (withins_walk a0 cap0 xs x hX A1 c1 W (tabs hL) hC0 hc0 (by omega) hc1 hC1).mono fun e W' ⟨he, hb⟩ => ?_
  subst he
  exact ⟨_, rfl, _, _, _, [], _, [], hW', trodAll_mk1 (shut_bool Tryd.underlying4 _), trodAll_cons_mk (Below.trod laidOut (by kernel_rfl) (of_decide_eq_true (by kernel_rfl)) k0 hb lt0) (trodAll_cons_mk (Below.trod laidOut (by kernel_rfl) (of_decide_eq_true (by kernel_rfl)) k1 hb lt1) trodAll_mk0), rfl, hb.frame _, fun h => by cases h⟩
theorem said : Rows.DiagWithinSaid :=
  OpenClaim.holds_of_cond 10 Tryd.f10 rfl rfl rfl rfl rfl rfl rfl ⟨rfl, rfl, rfl, rfl, rfl⟩ rfl rfl rfl rfl rfl (by kernel_rfl) Tryd.func10 (by kernel_rfl)
    (of_decide_eq_true (by kernel_rfl)) (by unfold Func.isWrapper; first | (rw [if_pos (by decide +kernel)]; kernel_rfl) | (rw [if_neg (by decide +kernel)]; exact ⟨rfl, rfl⟩))
    (fun os started H enc _ F => by rw [OpenClaim.pre_eq_preRow]; exact lifted os started H enc F)
theorem plain (f : FuncId) (fn : Func) (hf : Tryd.pinned.checked.prog.funcNamed Rows.diagWithinRow.func = some f) (hfn : Tryd.pinned.checked.prog.funcs[f]? = some fn) :
    false = Tryd.pinned.checked.prog.looks [] ∧ ∀ (j : Nat) t, fn.params[j]? = some t → Tryd.pinned.checked.prog.wantsStandIn t = false := by
  obtain rfl : f = 10 := Option.some.inj ((show Tryd.prog.funcNamed Rows.diagWithinRow.func = some 10 by kernel_rfl).symm.trans hf) |>.symm
  obtain rfl : fn = Tryd.f10 := (Option.some.inj (Tryd.func10.symm.trans hfn)).symm
  refine ⟨by kernel_rfl, fun j t ht => ?_⟩
  rw [Tryd.params10] at ht
  have hm := Array.mem_of_getElem? ht
  simp only [List.mem_toArray, List.mem_cons, List.not_mem_nil, or_false] at hm
  rcases hm with rfl | rfl
  · exact (show Tryd.prog.wantsStandIn 23 = false by kernel_rfl)
  · exact (show Tryd.prog.wantsStandIn 50 = false by kernel_rfl)
theorem card : Rows.DiagWithinCardSaid :=
  Claim7.holds_tied_plain_at .later [] _ _ _ _ said (fun _ h => by cases h) (by kernel_rfl) (fun _ h => by cases h) diagWithin_row_tie rfl ⟨rfl, rfl⟩ (by kernel_rfl) rfl plain (by kernel_rfl)
end Go.Proofs.YtcbimnmpdpkefaaDoor.diagWithin
namespace Go.Proofs.YtcbimnmpdpkefaaDoor
/-- The card, under a short name, for the claim. -/
theorem diagWithin_card : Rows.DiagWithinCardSaid := diagWithin.card
#print axioms diagWithin_card
end Go.Proofs.YtcbimnmpdpkefaaDoor
