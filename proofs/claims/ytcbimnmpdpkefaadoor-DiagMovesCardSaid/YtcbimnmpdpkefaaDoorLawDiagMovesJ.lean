import Derived.Test.YtcbimnmpdpkefaaDoorAx30
import Derived.Test.YtcbimnmpdpkefaaDoorAx32
import Derived.Test.YtcbimnmpdpkefaaDoorAx21
import Derived.Test.YtcbimnmpdpkefaaDoorAx35
import Derived.Test.YtcbimnmpdpkefaaDoorTextBufG
import Derived.Test.YtcbimnmpdpkefaaDoorPureShown
import Derived.Test.YtcbimnmpdpkefaaDoorWWords
import Derived.Deep.Slices
import Derived.ChangeArms
import GoSem.ClaimJoined
import Derived.Test.YtcbimnmpdpkefaaDoorCards
import Derived.Test.YtcbimnmpdpkefaaDoorTie
import Derived.WalkKit
import Derived.ProofKit
import Derived.OpenShut
import Derived.ShutString
import Derived.ChangeOld
import Derived.Below
import Derived.SizedLaws
import Derived.PinnedBridge
import Derived.Lay
import Derived.Lib.LaidTab
import Derived.Deep.DeepHandedRow
import Derived.SevenTiedAt
import Derived.ChangeMaps5
/- What is written over; words for diagnostics. -/
set_option linter.unusedVariables false
set_option linter.unusedSimpArgs false
namespace Go.Proofs.YtcbimnmpdpkefaaDoor.A
open Go.RowKit Go.Proofs.YtcbimnmpdpkefaaDoorW.PrintWords Go.Proofs.YtcbimnmpdpkefaaDoorW.PrintLast Go.Proofs.YtcbimnmpdpkefaaDoorW.PrintMore
abbrev Ds := S36
theorem wrap_inD {i : Int} {n : Nat} (h0 : 0 ≤ i) (h : i < (n : Int)) (hn : n ≤ 9223372036854775807) : wrap64 (i + 1) = i + 1 := by unfold wrap64; omega
theorem marked_l : ∀ (n k : Nat) (x0 : List Ds) (i : Int), 0 ≤ i → i + n = x0.length → n < k → x0.length < 5864062014803 → scholiastlaw20_marked.l0 k x0 x0.length i = some ()
  | 0, k, x0, i, h0, h1, h2, h3 => by
    obtain ⟨k, rfl⟩ : ∃ m, k = m + 1 := ⟨k - 1, by omega⟩
    simp only [scholiastlaw20_marked.l0]
    rw [if_neg (by omega)]
    simp only [Option.bind_some, List.length_cons, List.length_nil]
    rw [if_pos (by omega), if_pos (by simp; omega)]
  | n + 1, k, x0, i, h0, h1, h2, h3 => by
    obtain ⟨k, rfl⟩ : ∃ m, k = m + 1 := ⟨k - 1, by omega⟩
    simp only [scholiastlaw20_marked.l0]
    rw [if_pos (by omega), if_pos h0, if_pos (by omega), wrap_inD (n := x0.length) h0 (by omega) (by omega)]
    have := marked_l n k (x0.set i.toNat ⟨-7, 0, 0⟩) (i + 1) (by omega) (by simp; omega) (by omega) (by simpa using h3)
    simpa using this
theorem marked_ok (l : List Ds) (hl : l.length < 5864062014803) : ∃ k, scholiastlaw20_marked.f k l = some () :=
  ⟨l.length + 1, marked_l l.length (l.length + 1) l 0 (by omega) (by omega) (by omega) hl⟩
end Go.Proofs.YtcbimnmpdpkefaaDoor.A

/- What is lent, with something behind its end; is it as it was? -/
set_option linter.unusedVariables false
set_option linter.unusedSimpArgs false
namespace Go.Proofs.YtcbimnmpdpkefaaDoor.A
open Go.RowKit Go.Proofs.YtcbimnmpdpkefaaDoorW.PrintWords Go.Proofs.YtcbimnmpdpkefaaDoorW.PrintLast Go.Proofs.YtcbimnmpdpkefaaDoorW.PrintMore

abbrev kD := k36
def m9 : Ds := ⟨-9, 0, 0⟩
/-- The head of a row. -/
theorem C_headD {α : Type} {d : Kd α} {w : World} {A : Option Addr} {l m : List α} (h : d.C w A (l ++ m).length (l ++ m)) : d.C w A l.length l := by
  obtain ⟨_, h2, h3⟩ := h
  refine ⟨rfl, by rw [List.length_append] at h2; omega, fun h0 => ?_⟩
  obtain ⟨ad, e, hc⟩ := h3 (by rw [List.length_append]; omega)
  exact ⟨ad, e, fun j p hj => hc j p (by rw [List.getElem?_append_left (List.getElem?_eq_some_iff.1 hj).1]; exact hj)⟩
set_option maxHeartbeats 4000000 in
set_option maxRecDepth 100000 in
theorem lentD (A0 : Option Addr) (c0 : Nat) (l0 : List Ds) (w : World) (hr0 : Kd.C kD w A0 l0.length l0) (hc0 : l0.length ≤ c0) (hl : l0.length < 5864062014803) :
    Calls Tryd.prog 20 #[.slice A0 l0.length c0] w fun e w' => ∃ g cap, e = .returned (.slice (some ⟨g, 0, none⟩) l0.length cap) ∧ Kd.R kD 36 w' w.heap.size (fun _ => True) (.slice (some ⟨g, 0, none⟩) (l0 ++ [m9]).length cap) (l0 ++ [m9]) ∧ (l0 ++ [m9]).length ≤ cap ∧ Below w.heap.size w w' := by
  have HR0 := Aside0.mk hr0
  have HB := Aside0.mk (Below.refl w.heap.size w)
  clear hr0
  go_enter Tryd.func20, Tryd.ntmps20
  go_wp2_with (first
    | ((with_reducible refine gate_builtin (b := .append) (xs := #[.const (.slice none 0 0), .tmp 3]) rfl ?_); at_builtin; refine Kd.R_append_rows kD (w0 := w) w.heap.size rfl (.const (.slice none 0 0)) (.tmp 3) 23 36 (.agg #[(.int .i64 0), (.int .i64 0), (.int .i64 0)]) 24 rfl Tryd.underlying23 info36 rfl (by decide) (by omega) (.slice none 0 0) ([] : List Ds) l0 _ _ _ (fun _ => True) (fun _ => False) rfl rfl ?aO ?aR (fun _ _ h => h) (fun _ h => h.elim) ?aF ?aB ?aS ?aL ?_; (case aR => exact HR0.out); (case aB => exact HB.out); (case aF => exact (fun _ _ => trivial)); (case aO => exact ((Kd.R_nil _ _ _ _ (fun _ => True)))); (case aS => exact (below_size HB.out)); (case aL => simp only [List.length_nil]; omega); intro v6 w6 ho hb hg hat; rw [List.nil_append] at ho; have HB6 := Aside0.mk hb; have HO6 := Aside0.mk ho; clear ho hb hg hat)
    | ((with_reducible refine gate_builtin (b := .append) (xs := #[.tmp 4, .tmp 6]) rfl ?_); at_builtin; refine Kd.R_append kD (w0 := w) w.heap.size rfl (.tmp 4) (.tmp 6) 23 36 (.agg #[(.int .i64 0), (.int .i64 0), (.int .i64 0)]) 24 rfl Tryd.underlying23 info36 rfl (by decide) (by omega) v6 l0 m9 [.int .i64 (-9), .int .i64 0, .int .i64 0] (fun _ => True) (fun _ => False) rfl rfl ?aP (fun _ hk => hk.elim) ?aF ?aO ?aB ?aS ?aL ?_; (case aP => exact k36_mkM _ _ _ m9); (case aB => exact (by repeat (first | (with_reducible first | exact HB6.out | apply below_alloc | apply pw_below_drewN | apply below_drew1) | exact HB6.out))); (case aF => exact (fun _ _ => trivial)); (case aO => exact (by (with_reducible repeat (first | apply Kd.R_alloc | apply Kd.R_drewN | apply Kd.R_drew)); exact HO6.out)); (case aS => exact (below_size (by repeat (first | (with_reducible first | exact HB6.out | apply below_alloc | apply pw_below_drewN | apply below_drew1) | exact HB6.out)))); (case aL => omega); intro v7 w7 ho hb hg hat; have HB7 := Aside0.mk hb; have HO7 := Aside0.mk ho; clear ho hb hg hat; obtain ⟨gx, cx, rfl, _, _, _⟩ := Kd.R_form HO7.out (by simp); have hcx : (l0 ++ [m9]).length ≤ cx := (by obtain ⟨_, _, e, h, _⟩ := Kd.R_reads HO7.out; cases e; exact h); have HCX := Aside0.mk hcx; have p6 := eq_true (show l0.length ≤ cx by rw [List.length_append] at hcx; omega); have p7 := eq_true (show (l0.length : Int) ≤ (cx : Int) by rw [List.length_append] at hcx; omega); clear hcx))
  go_ret
  exact ⟨gx, cx, rfl, HO7.out, HCX.out, HB7.out⟩
set_option maxHeartbeats 4000000 in
set_option maxRecDepth 100000 in
theorem keptD (k : Nat) (g cap : Nat) (A1 : Option Addr) (c1 : Nat) (l0 : List Ds) (w : World) (hr0 : Kd.C kD w (some ⟨g, 0, none⟩) (l0 ++ [m9]).length (l0 ++ [m9])) (hc : (l0 ++ [m9]).length ≤ cap) (hr1 : Kd.C kD w A1 l0.length l0) (hc1 : l0.length ≤ c1) (hl : l0.length < 5864062014803) (hs : scholiastlaw20_same.f k l0 l0 = some true) :
    Calls Tryd.prog 24 #[.slice (some ⟨g, 0, none⟩) l0.length cap, .slice A1 l0.length c1] w fun e w' => e = .returned (.bool true) ∧ Below w.heap.size w w' := by
  have hsame := scholiastlaw20_same.calls k (some ⟨g, 0, none⟩) cap l0 A1 c1 l0 true w (C_headD hr0) (by rw [List.length_append] at hc; omega) hr1 hc1 hs
  have HSAME := Aside0.mk hsame
  have HR0 := Aside0.mk hr0
  have hcap : l0.length + 1 ≤ cap := by rw [List.length_append] at hc; exact hc
  clear hsame hr0 hr1 hs
  go_enter Tryd.func24, Tryd.ntmps24
  have hw1 : wrap64 ((l0.length : Int) + 1) = (l0.length : Int) + 1 := by unfold wrap64; omega
  have p5 := eq_true (show (0 : Int) ≤ (l0.length : Int) + 1 by omega)
  have p6 := eq_true hcap
  have p7 := eq_true (show (l0.length : Int) + 1 ≤ (cap : Int) by omega)
  have p8 := eq_true (show (l0.length : Int) < (l0.length : Int) + 1 by omega)
  go_wp2_with (go_at_call 23; refine HSAME.out.mono ?_; rintro e w1 ⟨rfl, ⟨n_, rfl⟩⟩; obtain ⟨ad, ead, hx, _⟩ := at_T36 (Kd.C_drewN HR0.out n_) (l0.length : Int) (by omega) (by simp; omega); obtain rfl := Option.some.inj ead; rw [show (rd_T36 (l0 ++ [m9]) (l0.length : Int)).f0 = -9 by unfold rd_T36; rw [List.getD_eq_getElem?_getD, Int.toNat_natCast, List.getElem?_append_right (Nat.le_refl _), Nat.sub_self]; rfl, Int.toNat_natCast, add_plain] at hx)
  go_ret
  exact ⟨rfl, pw_below_drewN (Below.refl _ _) _⟩
theorem same_lS (l : List Ds) (hl : l.length ≤ 5864062014805) : ∀ (n : Nat) (i : Int), 0 ≤ i → i + n = l.length → ∃ k, scholiastlaw20_same.l0 k l l l.length i = some true
  | 0, i, h0, h1 => ⟨1, by simp only [scholiastlaw20_same.l0]; rw [if_neg (by omega)]⟩
  | n + 1, i, h0, h1 => by
    obtain ⟨k, hk⟩ := same_lS l hl n (i + 1) (by omega) (by omega)
    refine ⟨k + 1, ?_⟩
    simp only [scholiastlaw20_same.l0]
    rw [if_pos (by omega), if_pos h0, if_pos (by omega), if_pos (by omega), wrap_inD (n := l.length) h0 (by omega) (by omega), hk]
    simp
theorem same_reflS (l : List Ds) (hl : l.length ≤ 5864062014805) : ∃ k, scholiastlaw20_same.f k l l = some true := by
  obtain ⟨k, hk⟩ := same_lS l hl l.length 0 (by omega) (by omega)
  exact ⟨k, by unfold scholiastlaw20_same.f; rw [if_pos rfl, hk]⟩
theorem drawn_below {w w' : World} (h : Drawn0 w w') : Below w.heap.size w w' := by
  obtain ⟨n, rfl⟩ := h
  exact pw_below_drewN (Below.refl _ _) _
theorem R_C {w : World} {base : Nat} {ok : Nat → Prop} {A : Option Addr} {n c : Nat} {xs : List Ds} (h : Kd.R kD 36 w base ok (.slice A n c) xs) (e : xs.length = n) : Kd.C kD w A xs.length xs ∧ xs.length ≤ c := by
  subst e
  obtain ⟨_, _, e, h1, h2⟩ := Kd.R_reads h
  cases e
  exact ⟨h2, h1⟩
end Go.Proofs.YtcbimnmpdpkefaaDoor.A

/- diag.Carry in plain words. -/
set_option linter.unusedVariables false
set_option linter.unusedSimpArgs false
namespace Go.Proofs.YtcbimnmpdpkefaaDoor.A
open Go.RowKit Go.Proofs.YtcbimnmpdpkefaaDoorW.PrintWords Go.Proofs.YtcbimnmpdpkefaaDoorW.PrintLast Go.Proofs.YtcbimnmpdpkefaaDoorW.PrintMore

abbrev Dg := S36
abbrev Eg := S43
/-- Edits one behind the other. -/
def okE : Int → List Eg → Bool
  | _, [] => true
  | e, x :: l => if x.f0 < e then false else if x.f1 < x.f0 then false else okE x.f1 l
/-- By how much a diagnostic moves; none: an edit meets it. -/
def cv (d : Dg) : List Eg → Int → Option Int
  | [], b => some b
  | x :: l, b => if x.f0 < d.f2 ∧ x.f1 > d.f1 then none else if x.f1 ≤ d.f1 then cv d l (wrap64 (b + wrap64 ((x.f2.size : Int) - wrap64 (x.f1 - x.f0)))) else cv d l b
def cd (es : List Eg) (d : Dg) : Option Dg := (cv d es 0).map fun b => ⟨d.f0, wrap64 (d.f1 + b), wrap64 (d.f2 + b)⟩
def carry (l : List Dg) (es : List Eg) : List Dg × Int := if okE 0 es = true then (l.filterMap (cd es), 0) else ([], 10)
theorem drop_D (l : List Dg) (i : Int) (h0 : 0 ≤ i) (h1 : i < (l.length : Int)) : l.drop i.toNat = rd_T36 l i :: l.drop (i + 1).toNat := by
  have hl : i.toNat < l.length := by omega
  rw [List.drop_eq_getElem_cons hl, show (i + 1).toNat = i.toNat + 1 by omega]
  unfold rd_T36
  rw [List.getD_eq_getElem?_getD, List.getElem?_eq_getElem hl]
  rfl
theorem drop_E (l : List Eg) (i : Int) (h0 : 0 ≤ i) (h1 : i < (l.length : Int)) : l.drop i.toNat = rd_T43 l i :: l.drop (i + 1).toNat := by
  have hl : i.toNat < l.length := by omega
  rw [List.drop_eq_getElem_cons hl, show (i + 1).toNat = i.toNat + 1 by omega]
  unfold rd_T43
  rw [List.getD_eq_getElem?_getD, List.getElem?_eq_getElem hl]
  rfl
theorem wrap_in {i : Int} {n : Nat} (h0 : 0 ≤ i) (h : i < (n : Int)) (hn : n ≤ 9223372036854775807) : wrap64 (i + 1) = i + 1 := by unfold wrap64; omega

theorem carry_l2 (es : List Eg) (he : es.length ≤ 4398046511104) (acc l : List Dg) (len i : Int) (d : Dg) (R : List Dg × Int) (next : List Dg → Prop)
    (hnext : ∀ a, next a → ∃ k, diag_Carry.l1 k es a l len (wrap64 (i + 1)) = some R) (hacc : acc.length < 5864062014805) :
    ∀ (n : Nat) (j b : Int), 0 ≤ j → j + n = es.length →
    (match cv d (es.drop j.toNat) b with | none => next acc | some b' => next (acc ++ [⟨d.f0, wrap64 (d.f1 + b'), wrap64 (d.f2 + b')⟩])) →
    ∃ k, diag_Carry.l2 k es acc b l len i es es.length j d.f0 d.f1 d.f2 = some R
  | 0, j, b, h0, h1, h => by
    rw [List.drop_eq_nil_of_le (by omega)] at h
    simp only [cv] at h
    obtain ⟨k, hk⟩ := hnext _ h
    exact ⟨k + 1, by simp only [diag_Carry.l2]; rw [if_neg (by omega), if_pos hacc]; exact hk⟩
  | n + 1, j, b, h0, h1, h => by
    rw [drop_E es j h0 (by omega)] at h
    simp only [cv] at h
    have ew := wrap_in (n := es.length) h0 (by omega) (by omega)
    by_cases c1 : (rd_T43 es j).f0 < d.f2 ∧ (rd_T43 es j).f1 > d.f1
    · rw [if_pos c1] at h
      obtain ⟨k, hk⟩ := hnext _ h
      refine ⟨k + 2, ?_⟩
      simp only [diag_Carry.l2]
      rw [if_pos (by omega), if_pos h0, if_pos (by omega), if_pos c1.1, decide_eq_true c1.2]
      simp only [diag_Carry.j3, if_true]
      exact hk
    · rw [if_neg c1] at h
      have hb : ∀ k, (if (rd_T43 es j).f0 < d.f2 then (diag_Carry.j3 (k + 1) es acc b l len i es es.length j (decide ((rd_T43 es j).f1 > d.f1)) d.f0 d.f1 d.f2 (rd_T43 es j).f0 (rd_T43 es j).f1 (rd_T43 es j).f2) else (diag_Carry.j3 (k + 1) es acc b l len i es es.length j false d.f0 d.f1 d.f2 (rd_T43 es j).f0 (rd_T43 es j).f1 (rd_T43 es j).f2)) = diag_Carry.j3 (k + 1) es acc b l len i es es.length j false d.f0 d.f1 d.f2 (rd_T43 es j).f0 (rd_T43 es j).f1 (rd_T43 es j).f2 := by
        intro k
        split
        · rename_i c2
          rw [decide_eq_false (by omega)]
        · rfl
      by_cases c3 : (rd_T43 es j).f1 ≤ d.f1
      · rw [if_pos c3] at h
        obtain ⟨k, hk⟩ := carry_l2 es he acc l len i d R next hnext hacc n (j + 1) _ (by omega) (by omega) h
        refine ⟨k + 2, ?_⟩
        simp only [diag_Carry.l2]
        rw [if_pos (by omega), if_pos h0, if_pos (by omega), hb]
        simp only [diag_Carry.j3, Bool.false_eq_true, if_false]
        rw [if_pos c3, ew]; exact hk
      · rw [if_neg c3] at h
        obtain ⟨k, hk⟩ := carry_l2 es he acc l len i d R next hnext hacc n (j + 1) _ (by omega) (by omega) h
        refine ⟨k + 2, ?_⟩
        simp only [diag_Carry.l2]
        rw [if_pos (by omega), if_pos h0, if_pos (by omega), hb]
        simp only [diag_Carry.j3, Bool.false_eq_true, if_false]
        rw [if_neg c3, ew]; exact hk
theorem carry_l1 (es : List Eg) (he : es.length ≤ 4398046511104) (l : List Dg) (hl : l.length ≤ 5864062014805) : ∀ (n : Nat) (i : Int) (acc : List Dg), 0 ≤ i → i + n = l.length → (acc.length : Int) ≤ i →
    ∃ k, diag_Carry.l1 k es acc l l.length i = some (acc ++ (l.drop i.toNat).filterMap (cd es), 0)
  | 0, i, acc, h0, h1, h2 => ⟨1, by simp only [diag_Carry.l1]; rw [if_neg (by omega), List.drop_eq_nil_of_le (by omega)]; simp⟩
  | n + 1, i, acc, h0, h1, h2 => by
    have hd := drop_D l i h0 (by omega)
    have ew := wrap_in (n := l.length) h0 (by omega) (by omega)
    have hR : ∃ k, diag_Carry.l2 k es acc 0 l l.length i es es.length 0 (rd_T36 l i).f0 (rd_T36 l i).f1 (rd_T36 l i).f2 = some (acc ++ (l.drop i.toNat).filterMap (cd es), 0) := by
      refine carry_l2 es he acc l l.length i (rd_T36 l i) _ (fun a => (a.length : Int) ≤ i + 1 ∧ a ++ (l.drop (i + 1).toNat).filterMap (cd es) = acc ++ (l.drop i.toNat).filterMap (cd es)) (fun a ha => ?_) (by omega) es.length 0 0 (by omega) (by omega) ?_
      · obtain ⟨k, hk⟩ := carry_l1 es he l hl n (i + 1) a (by omega) (by omega) ha.1
        exact ⟨k, by rw [ew, hk, ha.2]⟩
      · rw [hd]
        simp only [Int.toNat_zero, List.drop_zero, List.filterMap_cons, cd]
        cases cv (rd_T36 l i) es 0 with
        | none => exact ⟨by omega, rfl⟩
        | some b' => exact ⟨by simp; omega, by simp⟩
    obtain ⟨k, hk⟩ := hR
    exact ⟨k + 1, by simp only [diag_Carry.l1]; rw [if_pos (by omega), if_pos h0, if_pos (by omega)]; exact hk⟩
theorem carry_l0 (es : List Eg) (he : es.length ≤ 4398046511104) (l : List Dg) (hl : l.length ≤ 5864062014805) : ∀ (n : Nat) (j e : Int), 0 ≤ j → j + n = es.length →
    ∃ k, diag_Carry.l0 k l es e es es.length j = some (if okE e (es.drop j.toNat) = true then (l.filterMap (cd es), 0) else ([], 10))
  | 0, j, e, h0, h1 => by
    obtain ⟨k, hk⟩ := carry_l1 es he l hl l.length 0 [] (by omega) (by omega) (by simp)
    refine ⟨k + 1, ?_⟩
    simp only [diag_Carry.l0]
    rw [if_neg (by omega), List.drop_eq_nil_of_le (by omega : es.length ≤ j.toNat)]
    simp only [okE, if_true]
    simpa using hk
  | n + 1, j, e, h0, h1 => by
    rw [drop_E es j h0 (by omega)]
    simp only [okE]
    have ew := wrap_in (n := es.length) h0 (by omega) (by omega)
    by_cases c1 : (rd_T43 es j).f0 < e
    · exact ⟨1, by simp only [diag_Carry.l0]; rw [if_pos (by omega), if_pos h0, if_pos (by omega), if_pos c1]; simp [c1]⟩
    · by_cases c2 : (rd_T43 es j).f1 < (rd_T43 es j).f0
      · exact ⟨1, by simp only [diag_Carry.l0]; rw [if_pos (by omega), if_pos h0, if_pos (by omega), if_neg c1, if_pos c2]; simp [c1, c2]⟩
      · obtain ⟨k, hk⟩ := carry_l0 es he l hl n (j + 1) (rd_T43 es j).f1 (by omega) (by omega)
        refine ⟨k + 1, ?_⟩
        simp only [diag_Carry.l0]
        rw [if_pos (by omega), if_pos h0, if_pos (by omega), if_neg c1, if_neg c2, ew, hk]
        simp only [c1, c2, if_false]
theorem carry_ok (l : List Dg) (es : List Eg) (hl : l.length ≤ 5864062014805) (he : es.length ≤ 4398046511104) : ∃ k, diag_Carry.f k l es = some (carry l es) := by
  obtain ⟨k, hk⟩ := carry_l0 es he l hl es.length 0 0 (by omega) (by omega)
  refine ⟨k, ?_⟩
  unfold diag_Carry.f carry
  rw [hk]
  simp
theorem rcarry_l2m (es : List Eg) (he : es.length ≤ 4398046511104) (acc l : List Dg) (len i : Int) (d : Dg) (R : List Dg × Int) (hnext : ∃ k, scholiastref20_Carry.l1 k es acc l len (wrap64 (i + 1)) = some R) :
    ∀ (n : Nat) (j b : Int), 0 ≤ j → j + n = es.length → ∃ k, scholiastref20_Carry.l2 k es acc b true l len i es es.length j d.f0 d.f1 d.f2 = some R
  | 0, j, b, h0, h1 => by
    obtain ⟨k, hk⟩ := hnext
    exact ⟨k + 1, by simp only [scholiastref20_Carry.l2]; rw [if_neg (by omega)]; simpa using hk⟩
  | n + 1, j, b, h0, h1 => by
    have ew := wrap_in (n := es.length) h0 (by omega) (by omega)
    by_cases c3 : (rd_T43 es j).f1 ≤ d.f1
    · obtain ⟨k, hk⟩ := rcarry_l2m es he acc l len i d R hnext n (j + 1) (wrap64 (b + wrap64 (((rd_T43 es j).f2.size : Int) - wrap64 ((rd_T43 es j).f1 - (rd_T43 es j).f0)))) (by omega) (by omega)
      refine ⟨k + 1, ?_⟩
      simp only [scholiastref20_Carry.l2, if_true]
      rw [if_pos (by omega), if_pos h0, if_pos (by omega), if_pos c3, ew]; exact hk
    · obtain ⟨k, hk⟩ := rcarry_l2m es he acc l len i d R hnext n (j + 1) b (by omega) (by omega)
      refine ⟨k + 1, ?_⟩
      simp only [scholiastref20_Carry.l2, if_true]
      rw [if_pos (by omega), if_pos h0, if_pos (by omega), if_neg c3, ew]; exact hk
theorem rcarry_l2 (es : List Eg) (he : es.length ≤ 4398046511104) (acc l : List Dg) (len i : Int) (d : Dg) (R : List Dg × Int) (next : List Dg → Prop)
    (hnext : ∀ a, next a → ∃ k, scholiastref20_Carry.l1 k es a l len (wrap64 (i + 1)) = some R) (hacc : acc.length < 5864062014805) :
    ∀ (n : Nat) (j b : Int), 0 ≤ j → j + n = es.length →
    (match cv d (es.drop j.toNat) b with | none => next acc | some b' => next (acc ++ [⟨d.f0, wrap64 (d.f1 + b'), wrap64 (d.f2 + b')⟩])) →
    ∃ k, scholiastref20_Carry.l2 k es acc b false l len i es es.length j d.f0 d.f1 d.f2 = some R
  | 0, j, b, h0, h1, h => by
    rw [List.drop_eq_nil_of_le (by omega)] at h
    simp only [cv] at h
    obtain ⟨k, hk⟩ := hnext _ h
    exact ⟨k + 1, by simp only [scholiastref20_Carry.l2]; rw [if_neg (by omega)]; simp only [Bool.false_eq_true, if_false]; rw [if_pos hacc]; exact hk⟩
  | n + 1, j, b, h0, h1, h => by
    rw [drop_E es j h0 (by omega)] at h
    simp only [cv] at h
    have ew := wrap_in (n := es.length) h0 (by omega) (by omega)
    by_cases c1 : (rd_T43 es j).f0 < d.f2 ∧ (rd_T43 es j).f1 > d.f1
    · rw [if_pos c1] at h
      obtain ⟨k, hk⟩ := rcarry_l2m es he acc l len i d R (hnext _ h) n (j + 1) b (by omega) (by omega)
      refine ⟨k + 1, ?_⟩
      simp only [scholiastref20_Carry.l2, Bool.false_eq_true, if_false]
      rw [if_pos (by omega), if_pos h0, if_pos (by omega), if_pos c1.1, if_neg (by omega), decide_eq_true c1.2, ew]
      exact hk
    · rw [if_neg c1] at h
      by_cases c3 : (rd_T43 es j).f1 ≤ d.f1
      · rw [if_pos c3] at h
        obtain ⟨k, hk⟩ := rcarry_l2 es he acc l len i d R next hnext hacc n (j + 1) _ (by omega) (by omega) h
        refine ⟨k + 1, ?_⟩
        simp only [scholiastref20_Carry.l2, Bool.false_eq_true, if_false]
        rw [if_pos (by omega), if_pos h0, if_pos (by omega), if_pos c3, ew, decide_eq_false (by omega : ¬ (rd_T43 es j).f1 > d.f1)]
        simp only [if_pos c3, ite_self]
        exact hk
      · rw [if_neg c3] at h
        obtain ⟨k, hk⟩ := rcarry_l2 es he acc l len i d R next hnext hacc n (j + 1) _ (by omega) (by omega) h
        refine ⟨k + 1, ?_⟩
        simp only [scholiastref20_Carry.l2, Bool.false_eq_true, if_false]
        rw [if_pos (by omega), if_pos h0, if_pos (by omega), if_neg (fun c2 => c1 ⟨c2, by omega⟩), if_neg c3, ew]
        exact hk
theorem rcarry_l1 (es : List Eg) (he : es.length ≤ 4398046511104) (l : List Dg) (hl : l.length ≤ 5864062014805) : ∀ (n : Nat) (i : Int) (acc : List Dg), 0 ≤ i → i + n = l.length → (acc.length : Int) ≤ i →
    ∃ k, scholiastref20_Carry.l1 k es acc l l.length i = some (acc ++ (l.drop i.toNat).filterMap (cd es), 0)
  | 0, i, acc, h0, h1, h2 => ⟨1, by simp only [scholiastref20_Carry.l1]; rw [if_neg (by omega), List.drop_eq_nil_of_le (by omega)]; simp⟩
  | n + 1, i, acc, h0, h1, h2 => by
    have hd := drop_D l i h0 (by omega)
    have ew := wrap_in (n := l.length) h0 (by omega) (by omega)
    have hR : ∃ k, scholiastref20_Carry.l2 k es acc 0 false l l.length i es es.length 0 (rd_T36 l i).f0 (rd_T36 l i).f1 (rd_T36 l i).f2 = some (acc ++ (l.drop i.toNat).filterMap (cd es), 0) := by
      refine rcarry_l2 es he acc l l.length i (rd_T36 l i) _ (fun a => (a.length : Int) ≤ i + 1 ∧ a ++ (l.drop (i + 1).toNat).filterMap (cd es) = acc ++ (l.drop i.toNat).filterMap (cd es)) (fun a ha => ?_) (by omega) es.length 0 0 (by omega) (by omega) ?_
      · obtain ⟨k, hk⟩ := rcarry_l1 es he l hl n (i + 1) a (by omega) (by omega) ha.1
        exact ⟨k, by rw [ew, hk, ha.2]⟩
      · rw [hd]
        simp only [Int.toNat_zero, List.drop_zero, List.filterMap_cons, cd]
        cases cv (rd_T36 l i) es 0 with
        | none => exact ⟨by omega, rfl⟩
        | some b' => exact ⟨by simp; omega, by simp⟩
    obtain ⟨k, hk⟩ := hR
    exact ⟨k + 1, by simp only [scholiastref20_Carry.l1]; rw [if_pos (by omega), if_pos h0, if_pos (by omega)]; exact hk⟩
theorem rcarry_l0 (es : List Eg) (he : es.length ≤ 4398046511104) (l : List Dg) (hl : l.length ≤ 5864062014805) : ∀ (n : Nat) (j e : Int), 0 ≤ j → j + n = es.length →
    ∃ k, scholiastref20_Carry.l0 k l es e es es.length j = some (if okE e (es.drop j.toNat) = true then (l.filterMap (cd es), 0) else ([], 10))
  | 0, j, e, h0, h1 => by
    obtain ⟨k, hk⟩ := rcarry_l1 es he l hl l.length 0 [] (by omega) (by omega) (by simp)
    refine ⟨k + 1, ?_⟩
    simp only [scholiastref20_Carry.l0]
    rw [if_neg (by omega), List.drop_eq_nil_of_le (by omega : es.length ≤ j.toNat)]
    simp only [okE, if_true]
    simpa using hk
  | n + 1, j, e, h0, h1 => by
    rw [drop_E es j h0 (by omega)]
    simp only [okE]
    have ew := wrap_in (n := es.length) h0 (by omega) (by omega)
    by_cases c1 : (rd_T43 es j).f0 < e
    · exact ⟨1, by simp only [scholiastref20_Carry.l0]; rw [if_pos (by omega), if_pos h0, if_pos (by omega), if_pos c1]; simp [c1]⟩
    · by_cases c2 : (rd_T43 es j).f1 < (rd_T43 es j).f0
      · exact ⟨1, by simp only [scholiastref20_Carry.l0]; rw [if_pos (by omega), if_pos h0, if_pos (by omega), if_neg c1, if_pos c2]; simp [c1, c2]⟩
      · obtain ⟨k, hk⟩ := rcarry_l0 es he l hl n (j + 1) (rd_T43 es j).f1 (by omega) (by omega)
        refine ⟨k + 1, ?_⟩
        simp only [scholiastref20_Carry.l0]
        rw [if_pos (by omega), if_pos h0, if_pos (by omega), if_neg c1, if_neg c2, ew, hk]
        simp only [c1, c2, if_false]
theorem rcarry_ok (l : List Dg) (es : List Eg) (hl : l.length ≤ 5864062014805) (he : es.length ≤ 4398046511104) : ∃ k, scholiastref20_Carry.f k l es = some (carry l es) := by
  obtain ⟨k, hk⟩ := rcarry_l0 es he l hl es.length 0 0 (by omega) (by omega)
  refine ⟨k, ?_⟩
  unfold scholiastref20_Carry.f carry
  rw [hk]
  simp
end Go.Proofs.YtcbimnmpdpkefaaDoor.A

/- DiagMoves in plain words: what a carried diagnostic stands over. -/
set_option linter.unusedVariables false
set_option linter.unusedSimpArgs false
namespace Go.Proofs.YtcbimnmpdpkefaaDoor.A
open Go.RowKit Go.Proofs.YtcbimnmpdpkefaaDoorW.PrintWords Go.Proofs.YtcbimnmpdpkefaaDoorW.PrintLast Go.Proofs.YtcbimnmpdpkefaaDoorW.PrintMore Go.Proofs.YtcbimnmpdpkefaaDoorTB
/-- By how much it moves, in plain numbers. -/
def byN (d : Dg) : List Eg → Int
  | [] => 0
  | x :: l => (if x.f1 ≤ d.f1 then (x.f2.size : Int) - (x.f1 - x.f0) else 0) + byN d l
def met1 (d : Dg) (x : Eg) : Bool := decide (x.f0 < d.f2) && decide (x.f1 > d.f1)
theorem cv_eq (d : Dg) : ∀ (es : List Eg) (b : Int), b = wrap64 b → cv d es b = cond (es.any (met1 d)) none (some (wrap64 (b + byN d es)))
  | [], b, hb => by
    simp only [cv, byN, List.any_nil, cond_false, Int.add_zero]
    exact congrArg some hb
  | x :: l, b, hb => by
    simp only [cv, List.any_cons]
    by_cases h1 : x.f0 < d.f2 ∧ x.f1 > d.f1
    · rw [if_pos h1, show met1 d x = true by unfold met1; simp [h1.1, h1.2]]
      rfl
    · rw [if_neg h1, show met1 d x = false by unfold met1; by_cases h2 : x.f0 < d.f2 <;> by_cases h3 : x.f1 > d.f1 <;> simp [h2, h3]; exact h1 ⟨h2, h3⟩, Bool.false_or]
      by_cases h4 : x.f1 ≤ d.f1
      · rw [if_pos h4, cv_eq d l _ (by unfold wrap64; omega)]
        simp only [byN]
        rw [if_pos h4]
        congr 2
        generalize byN d l = y
        generalize (x.f2.size : Int) = z
        unfold wrap64; omega
      · rw [if_neg h4, cv_eq d l _ hb]
        simp only [byN]
        rw [if_neg h4, Int.zero_add]
theorem okE_of_fit (n : Int) : ∀ (l : List Eg) (e : Int), fit1 n e l = true → okE e l = true
  | [], e, h => rfl
  | x :: l, e, h => by
    simp only [fit1] at h
    split at h; · cases h
    split at h; · cases h
    split at h; · cases h
    simp only [okE]
    rw [if_neg (by assumption), if_neg (by assumption)]
    exact okE_of_fit n l x.f1 h
theorem by_range (d : Dg) (n : Int) : ∀ (l : List Eg) (e : Int), fit1 n e l = true → - gone l ≤ byN d l ∧ byN d l ≤ puts l
  | [], e, h => by simp [byN, gone, puts]
  | x :: l, e, h => by
    simp only [fit1] at h
    split at h; · cases h
    split at h; · cases h
    split at h; · cases h
    have ih := by_range d n l x.f1 h
    simp only [byN, gone, puts]
    split <;> omega
theorem by_later (d : Dg) (n : Int) : ∀ (l : List Eg) (e : Int), d.f1 < e → fit1 n e l = true → byN d l = 0
  | [], e, h0, h => rfl
  | x :: l, e, h0, h => by
    simp only [fit1] at h
    split at h; · cases h
    split at h; · cases h
    split at h; · cases h
    simp only [byN]
    rw [if_neg (by omega), by_later d n l x.f1 (by omega) h]; rfl
theorem app_at (s : List UInt8) (d : Dg) (h1 : d.f1 ≤ d.f2) (h2 : d.f2 ≤ s.length) : ∀ (l : List Eg) (e : Int), 0 ≤ e → e ≤ d.f1 → fit1 s.length e l = true → l.any (met1 d) = false →
    0 ≤ d.f1 - e + byN d l ∧ d.f2 - e + byN d l ≤ (app s e l).length ∧ ((app s e l).drop (d.f1 - e + byN d l).toNat).take (d.f2 - d.f1).toNat = (s.drop d.f1.toNat).take (d.f2 - d.f1).toNat
  | [], e, h0, he, h, hm => by
    simp only [byN, app, List.length_drop, List.drop_drop]
    refine ⟨by omega, by omega, ?_⟩
    congr 2; omega
  | x :: l, e, h0, he, h, hm => by
    simp only [fit1] at h
    split at h; · cases h
    split at h; · cases h
    split at h; · cases h
    rename_i a1 a2 a3
    rw [List.any_cons, Bool.or_eq_false_iff] at hm
    obtain ⟨hm1, hm2⟩ := hm
    have hm3 : ¬ (x.f0 < d.f2 ∧ x.f1 > d.f1) := fun ⟨p, q⟩ => by
      unfold met1 at hm1
      simp [p, q] at hm1
    have hX : (((s.take x.f0.toNat).drop e.toNat).length : Int) = x.f0 - e := by rw [List.length_drop, List.length_take]; omega
    simp only [byN, app, List.length_append]
    by_cases h4 : x.f1 ≤ d.f1
    · obtain ⟨i1, i2, i3⟩ := app_at s d h1 h2 l x.f1 (by omega) h4 h hm2
      rw [if_pos h4, bys_length]
      refine ⟨by omega, by omega, ?_⟩
      rw [← i3, List.drop_append, List.drop_append, List.drop_eq_nil_of_le (by omega), List.drop_eq_nil_of_le (by rw [bys_length]; omega), List.nil_append, List.nil_append, bys_length]
      congr 2
      omega
    · have hb := by_later d s.length l x.f1 (by omega) h
      rw [if_neg h4, hb]
      refine ⟨by omega, by omega, ?_⟩
      rw [List.drop_append_of_le_length (by omega), List.take_append_of_le_length (by rw [List.length_drop]; omega), List.drop_drop, show e.toNat + (d.f1 - e + (0 + 0)).toNat = d.f1.toNat by omega, List.drop_take, List.take_take, Nat.min_eq_left (by omega)]
/-- What the walk asks of one diagnostic. -/
def Moved1 (s t : ByteArray) (es : List Eg) (d : Dg) : Prop :=
  (es.any (met1 d) = true ∧ carry [d] es = ([], 0)) ∨
  (es.any (met1 d) = false ∧ ∃ u v : Int, carry [d] es = ([⟨d.f0, u, v⟩], 0) ∧ 0 ≤ u ∧ u ≤ v ∧ v ≤ t.size ∧ v - u = d.f2 - d.f1 ∧ t.extract u.toNat v.toNat = s.extract d.f1.toNat d.f2.toNat)
theorem moved1 (s : ByteArray) (hs : s.size ≤ 16384) (es : List Eg) (hf : fitsE s.size es = 0) (d : Dg) (h0 : 0 ≤ d.f1) (h1 : d.f1 ≤ d.f2) (h2 : d.f2 ≤ s.size) : Moved1 s (appB s es) es d := by
  obtain ⟨f1, f2⟩ := fitsE_zero hf
  have hok := okE_of_fit _ _ _ f1
  have hg := fit1_gone s.size es 0 (by omega) (by omega) f1
  have hp := fit2_puts es _ (by omega) f2
  have hr := by_range d _ _ _ f1
  have hc : carry [d] es = ([d].filterMap (cd es), 0) := by unfold carry; rw [if_pos hok]
  have hcv := cv_eq d es 0 (by unfold wrap64; omega)
  unfold Moved1
  cases hm : es.any (met1 d) with
  | true =>
    left
    refine ⟨rfl, ?_⟩
    rw [hc]
    have : cd es d = none := by unfold cd; rw [hcv, hm]; rfl
    simp [this]
  | false =>
    right
    have hw : wrap64 (0 + byN d es) = byN d es := by unfold wrap64; omega
    have hcd : cd es d = some ⟨d.f0, d.f1 + byN d es, d.f2 + byN d es⟩ := by
      unfold cd; rw [hcv, hm, hw]
      simp only [cond_false, Option.map_some]
      rw [show wrap64 (d.f1 + byN d es) = d.f1 + byN d es by unfold wrap64; omega, show wrap64 (d.f2 + byN d es) = d.f2 + byN d es by unfold wrap64; omega]
    obtain ⟨i1, i2, i3⟩ := app_at (bys s) d h1 (by rw [bys_length]; exact h2) es 0 (by omega) h0 (by rw [bys_length]; exact f1) hm
    rw [← bys_appB, bys_length] at i2
    rw [← bys_appB] at i3
    refine ⟨rfl, d.f1 + byN d es, d.f2 + byN d es, ?_, by omega, by omega, by omega, by omega, ?_⟩
    · rw [hc]; simp [hcd]
    · refine bys_inj ?_
      rw [bys_extract, bys_extract, List.drop_take, List.drop_take, show (d.f2 + byN d es).toNat - (d.f1 + byN d es).toNat = (d.f2 - d.f1).toNat by omega, show d.f2.toNat - d.f1.toNat = (d.f2 - d.f1).toNat by omega, ← i3]
      congr 2; omega
end Go.Proofs.YtcbimnmpdpkefaaDoor.A

/- diag.Carry of one diagnostic. -/
set_option linter.unusedVariables false
set_option linter.unusedSimpArgs false
namespace Go.Proofs.YtcbimnmpdpkefaaDoor.A
open Go.RowKit Go.Proofs.YtcbimnmpdpkefaaDoorW.PrintWords Go.Proofs.YtcbimnmpdpkefaaDoorW.PrintLast Go.Proofs.YtcbimnmpdpkefaaDoorW.PrintMore Go.Proofs.YtcbimnmpdpkefaaDoorTB
theorem one_C (W : World) (d : Dg) : Kd.C k36 (W.alloc (.cells #[.int .i64 d.f0, .int .i64 d.f1, .int .i64 d.f2] 36)) (some ⟨W.heap.size, 0, none⟩) [d].length [d] := by
  refine ⟨rfl, by simp, fun _ => ⟨_, rfl, fun j p hj => ?_⟩⟩
  have hj2 := (List.getElem?_eq_some_iff.1 hj).1
  obtain rfl : j = 0 := by simp at hj2; omega
  obtain rfl : d = p := by simpa using hj
  refine ⟨_, rfl, k36_mk _ d, fun i u hu => ?_⟩
  have h : (W.alloc (.cells #[.int .i64 d.f0, .int .i64 d.f1, .int .i64 d.f2] 36)).heap[W.heap.size]? = some (.cells #[.int .i64 d.f0, .int .i64 d.f1, .int .i64 d.f2] 36 (0, 0)) := by show (W.heap.push _)[_]? = _; rw [Array.getElem?_push, if_pos rfl]
  show World.cell? _ ((⟨W.heap.size, 0, none⟩ : Addr).add (0 * 3 + i)) = some u
  rw [Nat.zero_mul, Nat.zero_add, add_plain]
  exact (blk_cell h i).trans (by simpa using hu)
theorem carry_met (d : Dg) (A1 : Option Addr) (c1 : Nat) (es : List Eg) (W : World) (hr1 : Kd.C k43 W A1 es.length es) (hc1 : es.length ≤ c1) (he : es.length ≤ 4398046511104) (hk : carry [d] es = ([], 0)) :
    Calls Tryd.prog 27 #[.slice (some ⟨W.heap.size, 0, none⟩) 1 1, .slice A1 es.length c1] (W.alloc (.cells #[.int .i64 d.f0, .int .i64 d.f1, .int .i64 d.f2] 36)) fun e w' => ∃ A c, e = .returned (.tuple #[.slice A 0 c, .int .i64 0]) ∧ Below W.heap.size W w' := by
  obtain ⟨k, h⟩ := carry_ok [d] es (by simp) he
  rw [hk] at h
  have hb := below_alloc (Below.refl W.heap.size W) (.cells #[.int .i64 d.f0, .int .i64 d.f1, .int .i64 d.f2] 36)
  refine (diag_Carry.calls k _ 1 [d] A1 c1 es [] 0 _ (one_C W d) (Nat.le_refl _) (Kd.C_below hr1 hb) hc1 h).mono ?_
  rintro e w' ⟨va, rfl, hR, hB⟩
  obtain ⟨A, c, rfl⟩ := Kd.R_slice hR
  exact ⟨A, c, rfl, below_then hb hb.size hB⟩
theorem carry_one (d x : Dg) (A1 : Option Addr) (c1 : Nat) (es : List Eg) (W : World) (hr1 : Kd.C k43 W A1 es.length es) (hc1 : es.length ≤ c1) (he : es.length ≤ 4398046511104) (hk : carry [d] es = ([x], 0)) :
    Calls Tryd.prog 27 #[.slice (some ⟨W.heap.size, 0, none⟩) 1 1, .slice A1 es.length c1] (W.alloc (.cells #[.int .i64 d.f0, .int .i64 d.f1, .int .i64 d.f2] 36)) fun e w' => ∃ g c, e = .returned (.tuple #[.slice (some ⟨g, 0, none⟩) 1 c, .int .i64 0]) ∧ w'.cell? ⟨g, 0, none⟩ = some (.int .i64 x.f0) ∧ w'.cell? ⟨g, 1, none⟩ = some (.int .i64 x.f1) ∧ w'.cell? ⟨g, 2, none⟩ = some (.int .i64 x.f2) ∧ Below W.heap.size W w' := by
  obtain ⟨k, h⟩ := carry_ok [d] es (by simp) he
  rw [hk] at h
  have hb := below_alloc (Below.refl W.heap.size W) (.cells #[.int .i64 d.f0, .int .i64 d.f1, .int .i64 d.f2] 36)
  refine (diag_Carry.calls k _ 1 [d] A1 c1 es [x] 0 _ (one_C W d) (Nat.le_refl _) (Kd.C_below hr1 hb) hc1 h).mono ?_
  rintro e w' ⟨va, rfl, hR, hB⟩
  obtain ⟨g, c, rfl, _, _, _⟩ := Kd.R_form hR (by simp)
  have hC : Kd.C k36 w' (some ⟨g, 0, none⟩) [x].length [x] := (R_C hR rfl).1
  obtain ⟨ad, ead, h0, h1, h2⟩ := at_T36 hC 0 (by omega) (by simp)
  obtain rfl := Option.some.inj ead
  exact ⟨g, c, rfl, by simpa [add_plain, rd_T36] using h0, by simpa [add_plain, rd_T36] using h1, by simpa [add_plain, rd_T36] using h2, below_then hb hb.size hB⟩
end Go.Proofs.YtcbimnmpdpkefaaDoor.A

/- DiagMoves: the walk. -/
set_option linter.unusedVariables false
set_option linter.unusedSimpArgs false
namespace Go.Proofs.YtcbimnmpdpkefaaDoor.A
open Go.RowKit Go.Proofs.YtcbimnmpdpkefaaDoorW.PrintWords Go.Proofs.YtcbimnmpdpkefaaDoorW.PrintLast Go.Proofs.YtcbimnmpdpkefaaDoorW.PrintMore Go.Proofs.YtcbimnmpdpkefaaDoorTB
set_option maxHeartbeats 16000000 in
set_option maxRecDepth 100000 in
theorem moves_walk (s : ByteArray) (hs : s.size ≤ 140737488351232) (A0 : Option Addr) (c0 : Nat) (l : List Dg) (A1 : Option Addr) (c1 : Nat) (es : List Eg) (w : World) (hG : GlobP w) (hr0 : Kd.C k36 w A0 l.length l) (hc0 : l.length ≤ c0) (hl : l.length < 5864062014800) (hr1 : Kd.C k43 w A1 es.length es) (hc1 : es.length ≤ c1) (he : es.length ≤ 4398046511104) (hes : ∀ x ∈ es, x.f2.size ≤ 140737488351232) :
    Calls Tryd.prog 11 #[.string s, .slice A0 l.length c0, .slice A1 es.length c1] w fun e w' => e = .returned (.bool true) ∧ Below w.heap.size w w' := by
  have HSH := Aside0.mk (scholiastlaw20_shown.calls 20 true w hG shown_true)
  have HR0 := Aside0.mk hr0
  have HR1 := Aside0.mk hr1
  have HES := Aside0.mk hes
  clear hr0 hr1 hG hes
  by_cases hbig : s.size ≤ 16384
  · have HNEW := Aside0.mk (fun W => new_small s W hbig)
    go_enter Tryd.func11, Tryd.ntmps11
    go_upto_region 3 with (go_at_call 15; refine HSH.out.mono ?_; rintro e w1 ⟨rfl, hB⟩; have HB1 := Aside0.mk hB; clear hB)
    go_upto_region 6 with (go_at_call 33; refine (HNEW.out _).mono ?_; rintro e w2 ⟨b, F, rfl, hT, hF, hB⟩; have HT := Aside0.mk hT; have HF := Aside0.mk hF; have HB12 := Aside0.mk hB; have HB2 := Aside0.mk (below_then HB1.out HB1.out.size hB); clear hT hF hB)
    have HAP := Aside0.mk (apply_ w2 F b s A1 c1 es HT.out (Kd.C_below HR1.out HB2.out) hc1 HES.out he)
    by_cases hz : fitsE s.size es = 0
    · have hap : applied s es = appB s es := by unfold applied; rw [if_pos hz]
      have hasz := appB_size s es hbig hz
      rw [hz, hap] at HAP
      have HMV := Aside0.mk (fun d => moved1 s hbig es hz d)
      clear hz hap
      generalize appB s es = t at HAP hasz HMV
      go_upto_region 8 with (go_at_call 34; refine HAP.out.mono ?_; rintro e w3 ⟨rfl, F1, hT1, hM⟩; have HT1 := Aside0.mk hT1; have HB13 := Aside0.mk (hM.below HB12.out HF.out); clear hT1 hM)
      have HTX := Aside0.mk (text_ w3 F1 b t HT1.out)
      go_upto_region 9 with (go_at_call 35; refine HTX.out.mono ?_; rintro e w4 ⟨rfl, hB⟩; have HB4 := Aside0.mk (below_then HB1.out HB1.out.size (below_then HB13.out HB13.out.size hB)); clear hB)
      clear HTX HAP HNEW HSH HT HF HT1 HB13 HB12 HB1 HB2
      go_wp2
      go_loopg [42] (l.length + 1) (fun kq v42 w' => ∃ (i : Int), v42 = .int .i64 i ∧ Aside0 (0 ≤ i ∧ i ≤ (l.length : Int) ∧ (l.length : Int) - i < kq) ∧ Aside0 (Below w4.heap.size w4 w'))
      case atStart => exact ⟨0, rfl, ⟨by omega⟩, ⟨Below.refl _ _⟩⟩
      case round =>
        obtain ⟨i, rfl, HI, HB⟩ := hrel
        obtain ⟨k1, rfl⟩ : ∃ k1, gk = k1 + 1 := ⟨gk - 1, by have := HI.out; omega⟩
        by_cases c2 : i < (l.length : Int)
        · have c2b := decide_eq_true c2
          obtain ⟨i0, i1, i2⟩ := HI.out
          obtain ⟨ad, ead, hx0, hx1, hx2⟩ := at_T36 (Kd.C_below HR0.out (below_then HB4.out HB4.out.size HB.out)) i i0 c2
          subst ead
          have HMD := Aside0.mk (HMV.out (rd_T36 l i))
          generalize rd_T36 l i = d at *
          obtain ⟨d0, u, v⟩ := d
          dsimp only at hx0 hx1 hx2 HMD
          have p1 := eq_true i0
          have q1 := eq_true c2
          go_upto_region 12 with ((with_reducible refine gate_dst (N := 11) rfl ?_); refine box_event ?hg (N := 11) ?hd (cs := #[.int .i64 0, .int .i64 0, .int .i64 0]) (t := 36) ?hr ?_; (case hd => rfl); (case hg => rfl); (case hr => first | (go_simp; done) | (go_simp; rfl)); intro gb hg w7 hbox hb; have n0_ := Aside0.mk (below_step HB.out hb); have BK := Aside0.mk hbox; have GE := Aside0.mk ((by rw [hg]; exact (below_size HB.out)) : w4.heap.size ≤ gb); have HBx := n0_; clear n0_; clear hb hbox hg; have hcz0 : w7.cell? ⟨gb, 0, none⟩ = some (.int .i64 0) := (blk_cell BK.out 0).trans rfl; have hfz0 := blk_frozen BK.out 0; have hcz1 : w7.cell? ⟨gb, 1, none⟩ = some (.int .i64 0) := (blk_cell BK.out 1).trans rfl; have hfz1 := blk_frozen BK.out 1; have hcz2 : w7.cell? ⟨gb, 2, none⟩ = some (.int .i64 0) := (blk_cell BK.out 2).trans rfl; have hfz2 := blk_frozen BK.out 2)
          have BK8 : Aside0 ((((w7.setCell ⟨gb, 0, none⟩ (.int .i64 d0)).setCell ⟨gb, 1, none⟩ (.int .i64 u)).setCell ⟨gb, 2, none⟩ (.int .i64 v)).heap[gb]? = some (.cells #[.int .i64 d0, .int .i64 u, .int .i64 v] 36 (0, 0))) := ⟨(blk_put (blk_put (blk_put BK.out 0 _ rfl) 1 _ rfl) 2 _ rfl)⟩
          have HB8 : Aside0 (Below w4.heap.size w4 (((w7.setCell ⟨gb, 0, none⟩ (.int .i64 d0)).setCell ⟨gb, 1, none⟩ (.int .i64 u)).setCell ⟨gb, 2, none⟩ (.int .i64 v))) := ⟨(below_set (below_set (below_set HBx.out GE.out) GE.out) GE.out)⟩
          clear HBx BK hcz0 hfz0 hcz1 hfz1 hcz2 hfz2
          generalize (((w7.setCell ⟨gb, 0, none⟩ (.int .i64 d0)).setCell ⟨gb, 1, none⟩ (.int .i64 u)).setCell ⟨gb, 2, none⟩ (.int .i64 v)) = w8 at BK8 HB8 ⊢
          have hcz0 := (blk_cell BK8.out 0).trans rfl
          have hcz1 := (blk_cell BK8.out 1).trans rfl
          have hcz2 := (blk_cell BK8.out 2).trans rfl
          clear hx0 hx1 hx2
          by_cases s1 : u < 0
          · have s1b := decide_eq_true s1
            go_wp2
            go_roundg k1
            case measure => omega
            case rel => exact ⟨i + 1, by first | rfl | (congr 1; unfold wrap64; omega), ⟨by omega⟩, ⟨HB8.out⟩⟩
          · have s1b := decide_eq_false s1
            by_cases s2 : u > v
            · have s2b := decide_eq_true s2
              go_wp2
              go_roundg k1
              case measure => omega
              case rel => exact ⟨i + 1, by first | rfl | (congr 1; unfold wrap64; omega), ⟨by omega⟩, ⟨HB8.out⟩⟩
            · have s2b := decide_eq_false s2
              by_cases s3 : v > (s.size : Int)
              · have s3b := decide_eq_true s3
                go_wp2
                go_roundg k1
                case measure => omega
                case rel => exact ⟨i + 1, by first | rfl | (congr 1; unfold wrap64; omega), ⟨by omega⟩, ⟨HB8.out⟩⟩
              · have s3b := decide_eq_false s3
                have hmd := HMD.out (by omega) (by omega) (by omega)
                have HW8 := Aside0.mk (below_then HB4.out HB4.out.size HB8.out)
                have HC8 := Aside0.mk (Kd.C_below HR1.out HW8.out)
                clear HMD HMV
                rcases hmd with ⟨hm, hcar⟩ | ⟨hm, u', v', hcar, r1, r2, r3, r4, r5⟩
                · have HCAR := Aside0.mk (fun W h => carry_met ⟨d0, u, v⟩ A1 c1 es W h hc1 he hcar)
                  have HMM := Aside0.mk hm
                  clear hm hcar
                  go_upto_region 20 with (go_at_call 27; refine (HCAR.out _ ?h1).mono ?_; (case h1 => exact HC8.out); rintro e w9 ⟨Aa, ca, rfl, hB⟩; have BK9 := Aside0.mk ((hB.block _ (Go.Proofs.YtcbimnmpdpkefaaDoorTB.blk_lt BK8.out)).trans BK8.out); have HB9 := Aside0.mk (below_then HB8.out HB8.out.size hB); clear hB)
                  clear hcz0 hcz1 hcz2 HCAR HC8 HW8 BK8 HB8 HB
                  have HW9 := Aside0.mk (below_then HB4.out HB4.out.size HB9.out)
                  have hk1 := (blk_cell BK9.out 1).trans rfl
                  have hk2 := (blk_cell BK9.out 2).trans rfl
                  have HK1 := Aside0.mk hk1
                  have HK2 := Aside0.mk hk2
                  clear hk1 hk2
                  go_wp2
                  go_loopg [15, 130] (es.length + 1) (fun kq v15 v130 w' => ∃ (j : Int), v130 = .int .i64 j ∧ v15 = .bool ((es.take j.toNat).any (met1 ⟨d0, u, v⟩)) ∧ Aside0 (0 ≤ j ∧ j ≤ (es.length : Int) ∧ (es.length : Int) - j < kq) ∧ Aside0 (Below w9.heap.size w9 w'))
                  case atStart => exact ⟨0, rfl, by simp, ⟨by omega⟩, ⟨Below.refl _ _⟩⟩
                  case round =>
                    obtain ⟨j, rfl, rfl, HJ, HBj⟩ := hrel
                    obtain ⟨k2, rfl⟩ : ∃ k2, gk = k2 + 1 := ⟨gk - 1, by have := HJ.out; omega⟩
                    by_cases c3 : j < (es.length : Int)
                    · have c3b := decide_eq_true c3
                      obtain ⟨j0, j1, j2⟩ := HJ.out
                      obtain ⟨ae, eae, hy0, hy1, hy2⟩ := at_T43 (Kd.C_below HR1.out (below_then HW9.out HW9.out.size HBj.out)) j j0 c3
                      subst eae
                      have htk : (es.take (j + 1).toNat).any (met1 ⟨d0, u, v⟩) = ((es.take j.toNat).any (met1 ⟨d0, u, v⟩) || met1 ⟨d0, u, v⟩ (rd_T43 es j)) := by
                        rw [show (j + 1).toNat = j.toNat + 1 by omega, List.take_add_one, List.any_append]
                        unfold rd_T43
                        rw [List.getD_eq_getElem?_getD, List.getElem?_eq_getElem (by omega)]
                        simp
                      generalize (es.take j.toNat).any (met1 ⟨d0, u, v⟩) = bq at htk ⊢
                      generalize rd_T43 es j = x at *
                      obtain ⟨x0, x1, x2⟩ := x
                      dsimp only at hy0 hy1 hy2
                      have HTK := Aside0.mk htk
                      clear htk
                      have p2 := eq_true j0
                      have q2 := eq_true c3
                      go_upto_region 24 with ((with_reducible refine gate_dst (N := 17) rfl ?_); refine box_event ?hg (N := 17) ?hd (cs := #[.int .i64 0, .int .i64 0, .string ⟨#[]⟩]) (t := 43) ?hr ?_; (case hd => rfl); (case hg => rfl); (case hr => first | (go_simp; done) | (go_simp; rfl)); intro gc hg w10 hbox hb; have n0_ := Aside0.mk (below_step HBj.out hb); have BK := Aside0.mk hbox; have GE := Aside0.mk ((by rw [hg]; exact (below_size HBj.out)) : w9.heap.size ≤ gc); have HBx := n0_; clear n0_; clear hb hbox hg; have hcz0 : w10.cell? ⟨gc, 0, none⟩ = some (.int .i64 0) := (blk_cell BK.out 0).trans rfl; have hfz0 := blk_frozen BK.out 0; have hcz1 : w10.cell? ⟨gc, 1, none⟩ = some (.int .i64 0) := (blk_cell BK.out 1).trans rfl; have hfz1 := blk_frozen BK.out 1; have hcz2 : w10.cell? ⟨gc, 2, none⟩ = some (.string ⟨#[]⟩) := (blk_cell BK.out 2).trans rfl; have hfz2 := blk_frozen BK.out 2)
                      have BK11 : Aside0 ((((w10.setCell ⟨gc, 0, none⟩ (.int .i64 x0)).setCell ⟨gc, 1, none⟩ (.int .i64 x1)).setCell ⟨gc, 2, none⟩ (.string x2)).heap[gc]? = some (.cells #[.int .i64 x0, .int .i64 x1, .string x2] 43 (0, 0))) := ⟨(blk_put (blk_put (blk_put BK.out 0 _ rfl) 1 _ rfl) 2 _ rfl)⟩
                      have HB11 : Aside0 (Below w9.heap.size w9 (((w10.setCell ⟨gc, 0, none⟩ (.int .i64 x0)).setCell ⟨gc, 1, none⟩ (.int .i64 x1)).setCell ⟨gc, 2, none⟩ (.string x2))) := ⟨(below_set (below_set (below_set HBx.out GE.out) GE.out) GE.out)⟩
                      clear HBx BK hcz0 hfz0 hcz1 hfz1 hcz2 hfz2
                      generalize (((w10.setCell ⟨gc, 0, none⟩ (.int .i64 x0)).setCell ⟨gc, 1, none⟩ (.int .i64 x1)).setCell ⟨gc, 2, none⟩ (.string x2)) = w11 at BK11 HB11 ⊢
                      have hcy0 := (blk_cell BK11.out 0).trans rfl
                      have hcy1 := (blk_cell BK11.out 1).trans rfl
                      have hk1 := pw_cell_below HB11.out HK1.out
                      have hk2 := pw_cell_below HB11.out HK2.out
                      clear hy0 hy1 hy2
                      cases bq with
                      | true =>
                        have hv : (es.take (j + 1).toNat).any (met1 ⟨d0, u, v⟩) = true := by rw [HTK.out, Bool.true_or]
                        have HV := Aside0.mk hv
                        clear hv
                        go_wp2
                        go_roundg k2
                        case measure => omega
                        case rel => exact ⟨j + 1, by first | rfl | (congr 1; unfold wrap64; omega), by rw [HV.out], ⟨by omega⟩, HB11⟩
                      | false =>
                        by_cases m1 : x0 < v
                        · have m1b := decide_eq_true m1
                          by_cases m2 : x1 > u
                          · have m2b := decide_eq_true m2
                            have hv : (es.take (j + 1).toNat).any (met1 ⟨d0, u, v⟩) = true := by rw [HTK.out, Bool.false_or]; unfold met1; simp only [m1b, m2b]; rfl
                            have HV := Aside0.mk hv
                            clear hv
                            go_wp2
                            go_roundg k2
                            case measure => omega
                            case rel => exact ⟨j + 1, by first | rfl | (congr 1; unfold wrap64; omega), by rw [HV.out], ⟨by omega⟩, HB11⟩
                          · have m2b := decide_eq_false m2
                            have hv : (es.take (j + 1).toNat).any (met1 ⟨d0, u, v⟩) = false := by rw [HTK.out, Bool.false_or]; unfold met1; simp only [m1b, m2b]; rfl
                            have HV := Aside0.mk hv
                            clear hv
                            go_wp2
                            go_roundg k2
                            case measure => omega
                            case rel => exact ⟨j + 1, by first | rfl | (congr 1; unfold wrap64; omega), by rw [HV.out], ⟨by omega⟩, HB11⟩
                        · have m1b := decide_eq_false m1
                          have hv : (es.take (j + 1).toNat).any (met1 ⟨d0, u, v⟩) = false := by rw [HTK.out, Bool.false_or]; unfold met1; simp only [m1b]; rfl
                          have HV := Aside0.mk hv
                          clear hv
                          go_wp2
                          go_roundg k2
                          case measure => omega
                          case rel => exact ⟨j + 1, by first | rfl | (congr 1; unfold wrap64; omega), by rw [HV.out], ⟨by omega⟩, HB11⟩
                    · have c3b := decide_eq_false c3
                      have hj : (es.take j.toNat).any (met1 ⟨d0, u, v⟩) = true := by rw [List.take_of_length_le (by have := HJ.out; omega)]; exact HMM.out
                      rw [hj]
                      clear hj
                      have HB12 := Aside0.mk (below_then HB9.out HB9.out.size HBj.out)
                      go_wp2
                      go_roundg k1
                      case measure => omega
                      case rel => exact ⟨i + 1, by first | rfl | (congr 1; unfold wrap64; omega), ⟨by omega⟩, ⟨HB12.out⟩⟩
                · have HCAR := Aside0.mk (fun W h => carry_one ⟨d0, u, v⟩ ⟨d0, u', v'⟩ A1 c1 es W h hc1 he hcar)
                  dsimp only at r4 r5
                  have HR5 := Aside0.mk r5
                  clear hm hcar r5
                  go_upto_region 17 with (go_at_call 27; refine (HCAR.out _ ?h1).mono ?_; (case h1 => exact HC8.out); rintro e w9 ⟨g, ca, rfl, q0, q1', q2, hB⟩; have HB9 := Aside0.mk hB; clear hB)
                  have HK0 := Aside0.mk hcz0
                  have HK1 := Aside0.mk hcz1
                  have HK2 := Aside0.mk hcz2
                  clear hcz0 hcz1 hcz2
                  go_upto_region 18 with ((with_reducible refine gate_dst (N := 14) rfl ?_); refine box_event ?hg (N := 14) ?hd (cs := #[.int .i64 0, .int .i64 0, .int .i64 0]) (t := 36) ?hr ?_; (case hd => rfl); (case hg => rfl); (case hr => first | (go_simp; done) | (go_simp; rfl)); intro gc hg w10 hbox hb; have n0_ := Aside0.mk (below_step HB9.out hb); have BK := Aside0.mk hbox; have GE := Aside0.mk ((by rw [hg]; exact (below_size HB9.out)) : w8.heap.size ≤ gc); have HBx := n0_; clear n0_; clear hb hbox hg; have hcz0 : w10.cell? ⟨gc, 0, none⟩ = some (.int .i64 0) := (blk_cell BK.out 0).trans rfl; have hfz0 := blk_frozen BK.out 0; have hcz1 : w10.cell? ⟨gc, 1, none⟩ = some (.int .i64 0) := (blk_cell BK.out 1).trans rfl; have hfz1 := blk_frozen BK.out 1; have hcz2 : w10.cell? ⟨gc, 2, none⟩ = some (.int .i64 0) := (blk_cell BK.out 2).trans rfl; have hfz2 := blk_frozen BK.out 2)
                  have BK11 : Aside0 ((((w10.setCell ⟨gc, 0, none⟩ (.int .i64 d0)).setCell ⟨gc, 1, none⟩ (.int .i64 u')).setCell ⟨gc, 2, none⟩ (.int .i64 v')).heap[gc]? = some (.cells #[.int .i64 d0, .int .i64 u', .int .i64 v'] 36 (0, 0))) := ⟨(blk_put (blk_put (blk_put BK.out 0 _ rfl) 1 _ rfl) 2 _ rfl)⟩
                  have HB11 : Aside0 (Below w8.heap.size w8 (((w10.setCell ⟨gc, 0, none⟩ (.int .i64 d0)).setCell ⟨gc, 1, none⟩ (.int .i64 u')).setCell ⟨gc, 2, none⟩ (.int .i64 v'))) := ⟨(below_set (below_set (below_set HBx.out GE.out) GE.out) GE.out)⟩
                  clear HBx BK hcz0 hfz0 hcz1 hfz1 hcz2 hfz2
                  generalize (((w10.setCell ⟨gc, 0, none⟩ (.int .i64 d0)).setCell ⟨gc, 1, none⟩ (.int .i64 u')).setCell ⟨gc, 2, none⟩ (.int .i64 v')) = w11 at BK11 HB11 ⊢
                  have hcy0 := (blk_cell BK11.out 0).trans rfl
                  have hcy1 := (blk_cell BK11.out 1).trans rfl
                  have hcy2 := (blk_cell BK11.out 2).trans rfl
                  have hk0 := pw_cell_below HB11.out HK0.out
                  have hk1 := pw_cell_below HB11.out HK1.out
                  have hk2 := pw_cell_below HB11.out HK2.out
                  clear q0 q1' q2
                  have e1 := decide_eq_false (show ¬ u' < 0 by omega)
                  have e2 := decide_eq_false (show ¬ v' > (t.size : Int) by omega)
                  have e3 : IntKind.i64.wrap (v' - u') = v' - u' := IntWalk.i64_in _ ⟨by omega, by omega⟩
                  have e4 : IntKind.i64.wrap (v - u) = v - u := IntWalk.i64_in _ ⟨by omega, by omega⟩
                  have e5 : (v' - u' == v - u) = true := beq_iff_eq.mpr r4
                  have e6 : (v' - u' != v - u) = false := by rw [bne, e5]; rfl
                  have e7 := HR5.out
                  have e8 : 0 ≤ u := by omega
                  have e9 : u ≤ v := by omega
                  have e10 : v ≤ (s.size : Int) := by omega
                  have E5 := Aside0.mk e5
                  have e11 : ((t.extract u'.toNat v'.toNat).toList == (s.extract u.toNat v.toNat).toList) = true := by rw [e7]; exact beq_self_eq_true _
                  clear e5 e7 r4 HR5
                  have HB12 := Aside0.mk (below_then HB8.out HB8.out.size HB11.out)
                  repeat (go_quiet (fail); try go_wp2)
                  go_roundg k1
                  case measure => omega
                  case rel => exact ⟨i + 1, by first | rfl | (congr 1; unfold wrap64; omega), ⟨by omega⟩, ⟨(by repeat (first | (with_reducible first | exact HB12.out | apply below_alloc | apply pw_below_drewN | apply below_drew1) | exact HB12.out))⟩⟩
        · have c2b := decide_eq_false c2
          go_wp2
          go_ret
          exact ⟨rfl, below_then HB4.out HB4.out.size HB.out⟩
    · have hz1 : (fitsE s.size es == 0) = false := beq_eq_false_iff_ne.mpr hz
      have hz2 : (fitsE s.size es != 0) = true := bne_iff_ne.mpr hz
      go_wp2_with (go_at_call 34; refine HAP.out.mono ?_; rintro e w3 ⟨rfl, F1, hT1, hM⟩; have HB13 := Aside0.mk (hM.below HB12.out HF.out); clear hT1 hM)
      go_ret
      exact ⟨rfl, below_then HB1.out HB1.out.size HB13.out⟩
  · have HNEW := Aside0.mk (fun W => new_large s W hbig)
    have hb1 : decide ((s.size : Int) > 16384) = true := decide_eq_true (by omega)
    go_enter Tryd.func11, Tryd.ntmps11
    go_wp2_with (first
      | (go_at_call 15; refine HSH.out.mono ?_; rintro e w1 ⟨rfl, hB⟩; have HB1 := Aside0.mk hB; clear hB)
      | (go_at_call 33; refine (HNEW.out _).mono ?_; rintro e w2 ⟨rfl, rfl⟩))
    go_ret
    exact ⟨rfl, HB1.out⟩
end Go.Proofs.YtcbimnmpdpkefaaDoor.A

/- Arguments opened: what a reading of a value tells, as lists and structures of plain values. -/
set_option linter.unusedVariables false
set_option linter.unusedSimpArgs false
namespace Go.Proofs.YtcbimnmpdpkefaaDoorTB
open Go.RowKit Go.Deep Go.ChangeShapes Go.WideShapes Go.Proofs.YtcbimnmpdpkefaaDoorW.PrintWords

/-- Whatever reads as a value of type t is, in memory, a value of kind d, and B holds of it. -/
def Opn {α : Type} (P : Program) (w : World) (t : TypeId) (d : Kd α) (B : α → Prop) : Prop :=
  ∀ (H : Type) (enc : TypeId × Value → H) (base : Nat) (spare : Nat → Bool) (held : Bool) (fuel : Nat) (cs : List Value) (y : DataW H × List MemPlace),
    DataW.trod enc P w base spare held fuel t cs = some y → (y.1.weights P t).all (· ≤ reachBytes) = true → ∃ x, d.K w x cs ∧ B x
theorem Opn.mono {α : Type} {P : Program} {w : World} {t : TypeId} {d : Kd α} {B B' : α → Prop} (h : Opn P w t d B) (hb : ∀ x, B x → B' x) : Opn P w t d B' := by
  intro H enc base spare held fuel cs y hy hw
  obtain ⟨x, h1, h2⟩ := h H enc base spare held fuel cs y hy hw
  exact ⟨x, h1, hb x h2⟩
theorem Opn.int {P : Program} {w : World} {t : TypeId} {k : IntKind} (ht : P.underlying t = some (.int k)) : Opn P w t (Kd.int k) (fun n => (Lit.int k n).wf = true) := by
  intro H enc base spare held fuel cs y hy hw
  obtain ⟨n, rfl, rfl, hn⟩ := DataW.trod_int ht hy
  exact ⟨n, rfl, hn⟩
theorem Opn.bool {P : Program} {w : World} {t : TypeId} (ht : P.underlying t = some .bool) : Opn P w t Kd.bool (fun _ => True) := by
  intro H enc base spare held fuel cs y hy hw
  obtain ⟨n, rfl, rfl⟩ := DataW.trod_bool ht hy
  exact ⟨n, rfl, trivial⟩
theorem Opn.string {P : Program} {w : World} {t : TypeId} (ht : P.underlying t = some .string) : Opn P w t Kd.string (fun s => s.size ≤ 140737488351232) := by
  intro H enc base spare held fuel cs y hy hw
  obtain ⟨s, rfl, rfl, _⟩ := DataW.trod_string ht hy
  refine ⟨s, rfl, ?_⟩
  simp only [DataW.weights, List.all_cons, List.all_nil, Bool.and_true, decide_eq_true_eq, Array.length_toList] at hw
  exact hw
theorem list_choose {α : Type} {p : Nat → α → Prop} : ∀ (n : Nat), (∀ i, i < n → ∃ x, p i x) → ∃ xs : List α, xs.length = n ∧ ∀ i x, xs[i]? = some x → p i x
  | 0, _ => ⟨[], rfl, fun i x h => by simp at h⟩
  | n + 1, h => by
    obtain ⟨xs, hl, hx⟩ := list_choose n (fun i hi => h i (by omega))
    obtain ⟨z, hz⟩ := h n (by omega)
    refine ⟨xs ++ [z], by simp [hl], fun i x hix => ?_⟩
    rcases Nat.lt_or_ge i n with h1 | h1
    · rw [List.getElem?_append_left (by omega)] at hix
      exact hx i x hix
    · have : i = n := by
        have := (List.getElem?_eq_some_iff.1 hix).1
        simp at this; omega
      subst this
      rw [List.getElem?_append_right (by omega), hl, Nat.sub_self] at hix
      simp only [List.getElem?_cons_zero, Option.some.injEq] at hix
      exact hix ▸ hz
theorem weightsAll_get {H : Type} {P : Program} {e : TypeId} : ∀ (l : List (DataW H)) (i : Nat) (y : DataW H), (DataW.weightsAll P e l).all (· ≤ reachBytes) = true → l[i]? = some y → (y.weights P e).all (· ≤ reachBytes) = true
  | [], i, y, _, hi => by simp at hi
  | d :: r, 0, y, h, hi => by
    simp only [List.getElem?_cons_zero, Option.some.injEq] at hi
    subst hi
    simp only [DataW.weightsAll, List.all_append, Bool.and_eq_true] at h
    exact h.1
  | d :: r, i + 1, y, h, hi => by
    simp only [DataW.weightsAll, List.all_append, Bool.and_eq_true] at h
    exact weightsAll_get r i y h.2 (by simpa using hi)
theorem Opn.slice {α : Type} {P : Program} {w : World} {t e : TypeId} {d : Kd α} {B : α → Prop} (hd : Opn P w e d B) (ht : P.underlying t = some (.slice e)) (hc : P.cellsOf e = d.sz) {nb : Nat} (hnb : P.bytesOf e = nb) :
    Opn P w t (Kd.slice e d) (fun xs => xs.length * nb ≤ 140737488351232 ∧ ∀ x ∈ xs, B x) := by
  intro H enc base spare held fuel cs y hy hw
  rcases open_slice ht hy with ⟨rfl, rfl⟩ | ⟨a, len, cap, m, n, D, Pl, rfl, hb, hl, hm, hmm, rfl, hx⟩
  · exact ⟨[], ⟨none, 0, rfl, Nat.le_refl _, rfl, by simp, fun h => absurd h (by simp)⟩, by simp, by simp⟩
  · simp only [DataW.weights, ht, List.all_cons, List.all_append, Bool.and_eq_true, decide_eq_true_eq, List.length_map, List.length_range] at hw
    obtain ⟨hw1, hw2, _⟩ := hw
    have hlm : len ≤ m := by rw [hmm]; split <;> omega
    obtain ⟨xs, hxl, hxs⟩ := list_choose (p := fun i x => ∃ cs', w.cells? base (a.add (i * P.cellsOf e)) (P.cellsOf e) = some cs' ∧ d.K w x cs' ∧ B x) len (fun i hi => by
      obtain ⟨cs', h1, h2⟩ := hx i (by omega)
      obtain ⟨x, h3, h4⟩ := hd H enc base spare held n cs' (D i, Pl i) h2 (weightsAll_get _ i _ hw2 (by simp [hi]))
      exact ⟨x, cs', h1, h3, h4⟩)
    have hmx : maxLen ≤ 9223372036854775807 := by decide
    refine ⟨xs, ⟨some a, cap, by rw [hxl], by omega, rfl, by rw [hxl]; omega, fun _ => ⟨a, rfl, fun j x hj => ?_⟩⟩, ?_, fun x hx' => ?_⟩
    · obtain ⟨cs', h1, h2, _⟩ := hxs j x hj
      have hlen := d.K_len h2
      refine ⟨cs', hlen, h2, fun i u hu => ?_⟩
      obtain ⟨_, _, h3⟩ := World.cells?_some h1
      rw [hc] at h3
      have := h3 i (by rw [← hlen]; exact (List.getElem?_eq_some_iff.1 hu).1)
      rw [Go.Deep.add_add] at this
      rw [this, hu]
    · have hz : len * P.bytesOf e ≤ 140737488351232 := Nat.le_trans (Nat.mul_le_mul_right _ (by omega)) hw1
      rw [hxl, ← hnb]; exact hz
    · obtain ⟨i, hi, rfl⟩ := List.mem_iff_getElem.1 hx'
      obtain ⟨_, _, _, h⟩ := hxs i _ (List.getElem?_eq_getElem hi)
      exact h
/-- The fields of a struct, from one on. -/
def OpnF {α : Type} (P : Program) (w : World) (fs : List Field) (off : Nat) (d : Kd α) (B : α → Prop) : Prop :=
  ∀ (H : Type) (enc : TypeId × Value → H) (base : Nat) (spare : Nat → Bool) (held : Bool) (n : Nat) (cs : List Value) (xs : List (DataW H × List MemPlace)), xs.length = fs.length →
    (∀ (i : Nat) (f : Field), fs[i]? = some f → DataW.trod enc P w base spare held n f.type ((cs.drop f.offset).take (P.cellsOf f.type)) = xs[i]?) →
    (DataW.weightsEach P (fs.map (·.type)) (xs.map (·.1))).all (· ≤ reachBytes) = true → ∃ x, d.K w x ((cs.drop off).take d.sz) ∧ B x
theorem OpnF.one {α : Type} {P : Program} {w : World} {f : Field} {off : Nat} {d : Kd α} {B : α → Prop} (h : Opn P w f.type d B) (ho : f.offset = off) (hc : P.cellsOf f.type = d.sz) : OpnF P w [f] off d B := by
  intro H enc base spare held n cs xs hl hx hw
  match xs, hl with
  | [x], _ =>
    have h0 := hx 0 f rfl
    simp only [List.getElem?_cons_zero] at h0
    rw [ho, hc] at h0
    simp only [List.map_cons, List.map_nil, DataW.weightsEach, List.append_nil] at hw
    exact h H enc base spare held n _ x h0 hw
theorem OpnF.cons {α β : Type} {P : Program} {w : World} {f : Field} {fs : List Field} {off : Nat} {d : Kd α} {d' : Kd β} {B : α → Prop} {B' : β → Prop} (h : Opn P w f.type d B) (ho : f.offset = off) (hc : P.cellsOf f.type = d.sz) (hr : OpnF P w fs (off + d.sz) d' B') :
    OpnF P w (f :: fs) off (Kd.pair d d') (fun x => B x.1 ∧ B' x.2) := by
  intro H enc base spare held n cs xs hl hx hw
  match xs, hl with
  | x :: xs, hl =>
    have h0 := hx 0 f rfl
    simp only [List.getElem?_cons_zero] at h0
    rw [ho, hc] at h0
    simp only [List.map_cons, DataW.weightsEach, List.all_append, Bool.and_eq_true] at hw
    obtain ⟨p, hp1, hp2⟩ := h H enc base spare held n _ x h0 hw.1
    obtain ⟨q, hq1, hq2⟩ := hr H enc base spare held n cs xs (by simpa using hl) (fun i f' hf => by simpa using hx (i + 1) f' (by simpa using hf)) hw.2
    refine ⟨(p, q), ⟨_, _, ?_, hp1, hq1⟩, hp2, hq2⟩
    show (cs.drop off).take (d.sz + d'.sz) = _
    rw [List.take_add, List.drop_drop]
theorem Opn.struct {α : Type} {P : Program} {w : World} {t : TypeId} {fs : Array Field} {d : Kd α} {B : α → Prop} (ht : P.underlying t = some (.struct fs)) (hc : P.cellsOf t = d.sz) (h : OpnF P w fs.toList 0 d B) : Opn P w t d B := by
  intro H enc base spare held fuel cs y hy hw
  obtain ⟨xs, n, _, rfl, hl, hxl, hx⟩ := DataW.trod_struct ht hy
  simp only [DataW.weights, ht] at hw
  obtain ⟨x, h1, h2⟩ := h H enc base spare held n cs xs (by simpa using hxl) (fun i f hf => hx i f (by simpa using hf)) hw
  refine ⟨x, ?_, h2⟩
  rwa [List.drop_zero, ← hc, ← hl, List.take_length] at h1
theorem Opn.iso {α β : Type} {P : Program} {w : World} {t : TypeId} {d : Kd α} {B : α → Prop} (h : Opn P w t d B) (f : β → α) (g : α → β) (hg : ∀ x, f (g x) = x) : Opn P w t (Kd.iso d f) (fun x => B (f x)) := by
  intro H enc base spare held fuel cs y hy hw
  obtain ⟨x, h1, h2⟩ := h H enc base spare held fuel cs y hy hw
  exact ⟨g x, by show d.K w (f (g x)) cs; rwa [hg], by show B (f (g x)); rwa [hg]⟩
theorem Opn.arg {α H : Type} {P : Program} {w : World} {t : TypeId} {d : Kd α} {B : α → Prop} {enc : TypeId × Value → H} {base : Nat} {spare : Nat → Bool} {held : Bool} {v : Value} {y : DataW H} {ps : List MemPlace} (h : Opn P w t d B) (hT : DataW.Trod enc P w base spare held t v y ps)
    (hw : (y.weights P t).all (· ≤ reachBytes) = true) : ∃ x, d.K w x v.cells.toList ∧ B x := by
  obtain ⟨fuel, hf⟩ := hT
  exact h H enc base spare held fuel _ _ hf hw
end Go.Proofs.YtcbimnmpdpkefaaDoorTB

/- DiagMoves: a diagnostic that is carried along with edits of a text stands over the same bytes in the text that comes of them; it is left out just if an edit meets it. Conditions: none beyond the card's own. -/
namespace Go.Proofs.YtcbimnmpdpkefaaDoor.diagMoves
open Go.ChangeShapes Go.WideShapes Go.ChangeAt Go.RowKit Go.Lib Go.Proofs.YtcbimnmpdpkefaaDoorW.PrintWords Go.Proofs.YtcbimnmpdpkefaaDoor.A Go.Proofs.YtcbimnmpdpkefaaDoorTB
set_option linter.unusedVariables false
set_option linter.unusedSimpArgs false
theorem laidOut : laidOutB Tryd.prog = true := by kernel_rfl
theorem own : ownKnob Tryd.prog.godebug = none := by kernel_rfl
theorem pow_eq : (Rows.laid_internal_strconv_uint64pow10 : DataW Unit) = tabData .u64 pow10Tab := by kernel_rfl
theorem tabs {W : World} (hL : laidMet Tryd.prog Rows.diagMovesRow.laid W) : GlobP W := ⟨by
  have h := Lib.laidMet.reads hL (n := "internal/strconv.uint64pow10") (.tail _ (.tail _ (.head _)))
  rw [pow_eq] at h
  obtain ⟨g', t', cs, fuel, p, hg', ht', hvar, hd⟩ := h
  obtain rfl := Option.some.inj ((show Tryd.prog.globalNamed "internal/strconv.uint64pow10" = some 2 by kernel_rfl).symm.trans hg')
  obtain rfl := Option.some.inj ((show (Tryd.prog.globals[2]?).map (·.type) = some 145 by kernel_rfl).symm.trans ht')
  unfold TabIs
  rw [hvar, ← cells_of_tab Tryd.underlying145 Tryd.underlying121 (by kernel_rfl) (by kernel_rfl) hd]⟩
theorem opnDiag (w : World) : Opn Tryd.prog w 36 k36 (fun _ => True) :=
  ((Opn.struct (d := Kd.pair (Kd.int .i64) (Kd.pair (Kd.int .i64) (Kd.int .i64))) Tryd.underlying36 (by kernel_rfl) (OpnF.cons (Opn.int Tryd.underlying3) rfl (by kernel_rfl) (OpnF.cons (Opn.int Tryd.underlying3) rfl (by kernel_rfl) (OpnF.one (Opn.int Tryd.underlying3) rfl (by kernel_rfl))))).iso (fun x : Ds => (x.f0, x.f1, x.f2)) (fun p => ⟨p.1, p.2.1, p.2.2⟩) (fun _ => rfl)).mono (fun _ _ => trivial)
theorem opnDiags (w : World) : Opn Tryd.prog w 23 (Kd.slice 36 k36) (fun xs => xs.length * 24 ≤ 140737488351232 ∧ ∀ x ∈ xs, True) :=
  Opn.slice (opnDiag w) Tryd.underlying23 (by kernel_rfl) (by kernel_rfl)
theorem opnEdit (w : World) : Opn Tryd.prog w 43 k43 (fun x => x.f2.size ≤ 140737488351232) :=
  ((Opn.struct (d := Kd.pair (Kd.int .i64) (Kd.pair (Kd.int .i64) Kd.string)) Tryd.underlying43 (by kernel_rfl) (OpnF.cons (Opn.int Tryd.underlying3) rfl (by kernel_rfl) (OpnF.cons (Opn.int Tryd.underlying3) rfl (by kernel_rfl) (OpnF.one (Opn.string Tryd.underlying9) rfl (by kernel_rfl))))).iso (fun x : Eg => (x.f0, x.f1, x.f2)) (fun p => ⟨p.1, p.2.1, p.2.2⟩) (fun _ => rfl)).mono (fun _ h => h.2.2)
theorem opnEdits (w : World) : Opn Tryd.prog w 38 (Kd.slice 43 k43) (fun xs => xs.length * 32 ≤ 140737488351232 ∧ ∀ x ∈ xs, x.f2.size ≤ 140737488351232) :=
  Opn.slice (opnEdit w) Tryd.underlying38 (by kernel_rfl) (by kernel_rfl)
theorem reads (os : Os) {H : Type} (enc : TypeId × Value → H) : ∃ places, DataW.whole enc Tryd.prog ((World.laidAll Tryd.prog os Rows.diagMovesRow.laid).forCall (fun _ _ => 0) ⟨#[], #[.string ByteArray.empty, .slice none 0 0, .slice none 0 0], []⟩).memory Tryd.f11.params.toList Rows.diagMovesSpec.vars false #[Value.string ByteArray.empty, .slice none 0 0, .slice none 0 0].toList 8 = some ([.lit (.string []), .nil, .nil], [], places) :=
  ⟨[], by kernel_rfl⟩
set_option maxHeartbeats 2000000 in
set_option maxRecDepth 100000 in
theorem lifted (os : Os) (started : os.Started) (H : Type) (enc : TypeId × Value → H) (F : Stop.Interp) :
    ReturnsInHanded {} Tryd.checked os 11 .any ((OpenSpec.ofChange Rows.diagMovesSpec).preRow enc Tryd.prog Tryd.f11 Rows.diagMovesRow.domain false Rows.diagMovesRow.laid) (((OpenSpec.ofChange Rows.diagMovesSpec).at F).post enc Tryd.prog Tryd.f11 false true false false) := by
  obtain ⟨places, hx⟩ := reads os enc
  have hok : Input.okWideB Tryd.prog ((World.laidAll Tryd.prog os Rows.diagMovesRow.laid).forCall (fun _ _ => 0) ⟨#[], #[.string ByteArray.empty, .slice none 0 0, .slice none 0 0], []⟩) 11 ⟨#[], #[.string ByteArray.empty, .slice none 0 0, .slice none 0 0], []⟩ = true := by kernel_rfl
  refine returnsInHanded_of_row (C := Tryd.checked) (s := OpenSpec.ofChange Rows.diagMovesSpec) own started (by kernel_rfl) Tryd.func11
    ⟨World.laidAll Tryd.prog os Rows.diagMovesRow.laid, fun _ _ => 0, ⟨#[], #[.string ByteArray.empty, .slice none 0 0, .slice none 0 0], []⟩, World.laidAll_os _ _ _, World.shaped_of_ZipB (by kernel_rfl) (by kernel_rfl), (Input.okWide_of_okWideB (base := 0) hok).1, (Input.okWide_of_okWideB hok).2,
      OpenSpec.preRow_of_cond 8 hx (by kernel_rfl) (fun k hk => by cases hk) (by kernel_rfl) (by rw [MakeChecks.laidMetH_plain _ _ _ (by kernel_rfl)]; exact laidMet_laidAll _ (by kernel_rfl) (by kernel_rfl)), by
      simp only [Assume.holds]
      exact ⟨by simp, by simp, fun _ => Modest.zero, by simp, by simp⟩⟩ ?_
  intro W base args ds gs before hval hW hconds hcond hsz hL _ _
  have hW' := hW
  obtain ⟨p, q, hA0, hV, rfl, hfz, hnd⟩ := hW
  have hA : DataW.TrodAll enc Tryd.prog W 0 (fun _ => true) true Tryd.f11.params.toList args.toList ds p := hA0
  rw [Tryd.params11] at hA hval hsz
  obtain ⟨v0, vs0, d0, ds0, p0, q0, hargs, rfl, rfl, h0, r0⟩ := trodAll_cons hA
  obtain ⟨v1, vs1, d1, ds1, p1, q1, rfl, rfl, rfl, h1, r1⟩ := trodAll_cons r0
  obtain ⟨v2, vs2, d2, ds2, p2, q2, rfl, rfl, rfl, h2, r2⟩ := trodAll_cons r1
  obtain ⟨rfl, rfl, rfl⟩ := trodAll_nil r2
  obtain rfl : args = #[v0, v1, v2] := by cases args; simp_all
  obtain ⟨rfl, rfl⟩ := trodVars_none hV
  obtain ⟨s0, rfl⟩ := okWide_string Tryd.underlying9 (hval 0 9 v0 rfl rfl)
  obtain ⟨a1, len1, cap1, rfl⟩ := okWide_slice Tryd.underlying23 (hval 1 23 v1 rfl rfl)
  obtain ⟨a2, len2, cap2, rfl⟩ := okWide_slice Tryd.underlying38 (hval 2 38 v2 rfl rfl)
  have k0 := h0
  have k1 := h1
  have k2 := h2
  have lt0 : ∀ x ∈ p0, x.block < W.heap.size := by obtain ⟨m, hm⟩ := k0; exact DataW.trod_lt m _ _ _ hm
  have lt1 : ∀ x ∈ p1, x.block < W.heap.size := by obtain ⟨m, hm⟩ := k1; exact DataW.trod_lt m _ _ _ hm
  have lt2 : ∀ x ∈ p2, x.block < W.heap.size := by obtain ⟨m, hm⟩ := k2; exact DataW.trod_lt m _ _ _ hm
  have hws : (d0.weights Tryd.prog 9).all (· ≤ reachBytes) = true ∧ (d1.weights Tryd.prog 23).all (· ≤ reachBytes) = true ∧ (d2.weights Tryd.prog 38).all (· ≤ reachBytes) = true := by
    have h := hsz
    simp only [List.cons_append, DataW.weightsEach, List.all_append, Bool.and_eq_true] at h
    exact ⟨h.1, h.2.1, h.2.2.1⟩
  obtain ⟨s, hK0, hB0⟩ := Opn.arg (Opn.string (w := W) Tryd.underlying9) h0 hws.1
  obtain ⟨xs, hK1, hB1, _⟩ := Opn.arg (opnDiags W) h1 hws.2.1
  obtain ⟨es, hK2, hB2, hB3⟩ := Opn.arg (opnEdits W) h2 hws.2.2
  obtain rfl : s0 = s := by injection hK0 with h; injection h
  obtain ⟨A1, c1, hcs1, hc1, hC1⟩ := hK1
  obtain ⟨A2, c2, hcs2, hc2, hC2⟩ := hK2
  simp only [Value.cells, List.cons.injEq, Value.slice.injEq, and_true] at hcs1 hcs2
  obtain ⟨rfl, rfl, rfl⟩ := hcs1
  obtain ⟨rfl, rfl, rfl⟩ := hcs2
  rw [MakeChecks.laidMetH_plain _ _ _ (by kernel_rfl)] at hL
  refine (moves_walk s0 hB0 a1 cap1 xs a2 cap2 es W (tabs hL) hC1 hc1 (by omega) hC2 hc2 (by omega) hB3).mono fun e W' ⟨he, hb⟩ => ?_
  subst he
  exact ⟨_, rfl, _, _, _, [], _, [], hW', trodAll_mk1 (shut_bool Tryd.underlying4 _), trodAll_cons_mk (Below.trod laidOut (by kernel_rfl) (of_decide_eq_true (by kernel_rfl)) k0 hb lt0) (trodAll_cons_mk (Below.trod laidOut (by kernel_rfl) (of_decide_eq_true (by kernel_rfl)) k1 hb lt1) (trodAll_cons_mk (Below.trod laidOut (by kernel_rfl) (of_decide_eq_true (by kernel_rfl)) k2 hb lt2) trodAll_mk0)), rfl, hb.frame _, fun h => by cases h⟩
theorem said : Rows.DiagMovesSaid :=
  OpenClaim.holds_of_cond 11 Tryd.f11 rfl rfl rfl rfl rfl rfl rfl ⟨rfl, rfl, rfl, rfl, rfl⟩ rfl rfl rfl rfl rfl (by kernel_rfl) Tryd.func11 (by kernel_rfl)
    (of_decide_eq_true (by kernel_rfl)) (by unfold Func.isWrapper; first | (rw [if_pos (by decide +kernel)]; kernel_rfl) | (rw [if_neg (by decide +kernel)]; exact ⟨rfl, rfl⟩))
    (fun os started H enc _ F => by rw [OpenClaim.pre_eq_preRow]; exact lifted os started H enc F)
theorem plain (f : FuncId) (fn : Func) (hf : Tryd.pinned.checked.prog.funcNamed Rows.diagMovesRow.func = some f) (hfn : Tryd.pinned.checked.prog.funcs[f]? = some fn) :
    false = Tryd.pinned.checked.prog.looks [] ∧ ∀ (j : Nat) t, fn.params[j]? = some t → Tryd.pinned.checked.prog.wantsStandIn t = false := by
  obtain rfl : f = 11 := Option.some.inj ((show Tryd.prog.funcNamed Rows.diagMovesRow.func = some 11 by kernel_rfl).symm.trans hf) |>.symm
  obtain rfl : fn = Tryd.f11 := (Option.some.inj (Tryd.func11.symm.trans hfn)).symm
  refine ⟨by kernel_rfl, fun j t ht => ?_⟩
  rw [Tryd.params11] at ht
  have hm := Array.mem_of_getElem? ht
  simp only [List.mem_toArray, List.mem_cons, List.not_mem_nil, or_false] at hm
  rcases hm with rfl | rfl | rfl
  · exact (show Tryd.prog.wantsStandIn 9 = false by kernel_rfl)
  · exact (show Tryd.prog.wantsStandIn 23 = false by kernel_rfl)
  · exact (show Tryd.prog.wantsStandIn 38 = false by kernel_rfl)
theorem card : Rows.DiagMovesCardSaid :=
  Claim7.holds_tied_plain_at .later [] _ _ _ _ said (fun _ h => by cases h) (by kernel_rfl) (fun _ h => by cases h) diagMoves_row_tie rfl ⟨rfl, rfl⟩ (by kernel_rfl) rfl plain (by kernel_rfl)
end Go.Proofs.YtcbimnmpdpkefaaDoor.diagMoves
namespace Go.Proofs.YtcbimnmpdpkefaaDoor
/-- The card, under a short name, for the claim. -/
theorem diagMoves_card : Rows.DiagMovesCardSaid := diagMoves.card
#print axioms diagMoves_card
end Go.Proofs.YtcbimnmpdpkefaaDoor
