import Derived.Test.YtcbimnmpdpkefaaDoorAx30
import Derived.Test.YtcbimnmpdpkefaaDoorAx20
import Derived.Test.YtcbimnmpdpkefaaDoorAx34
import Derived.Test.YtcbimnmpdpkefaaDoorPureShown
import Derived.Test.YtcbimnmpdpkefaaDoorWWords
import Derived.Deep.Slices
import Derived.ChangeArms
import GoSem.ClaimJoined
import Derived.Test.YtcbimnmpdpkefaaDoorRows
import Derived.Test.YtcbimnmpdpkefaaDoorCards
import Derived.Test.YtcbimnmpdpkefaaDoorTie
import Derived.WalkKit
import Derived.ProofKit
import Derived.OpenShut
import Derived.ShutString
import Derived.ChangeOld
import Derived.Below
import Derived.SizedLaws
import Derived.PinnedBridge
import Derived.Lay
import Derived.Lib.LaidTab
import Derived.Deep.DeepHandedRow
import Derived.SevenTiedAt
/- diag.Sort and the document's, in plain words. -/
set_option linter.unusedVariables false
set_option linter.unusedSimpArgs false
namespace Go.Proofs.YtcbimnmpdpkefaaDoor.A
open Go.RowKit Go.Sort Go.Proofs.YtcbimnmpdpkefaaDoorW.PrintWords Go.Proofs.YtcbimnmpdpkefaaDoorW.PrintLast Go.Proofs.YtcbimnmpdpkefaaDoorW.PrintMore
abbrev Ds := S36
theorem wrap_inD {i : Int} {n : Nat} (h0 : 0 ≤ i) (h : i < (n : Int)) (hn : n ≤ 9223372036854775807) : wrap64 (i + 1) = i + 1 := by unfold wrap64; omega
theorem same_lS (l : List Ds) (hl : l.length ≤ 5864062014805) : ∀ (n : Nat) (i : Int), 0 ≤ i → i + n = l.length → ∃ k, scholiastlaw20_same.l0 k l l l.length i = some true
  | 0, i, h0, h1 => ⟨1, by simp only [scholiastlaw20_same.l0]; rw [if_neg (by omega)]⟩
  | n + 1, i, h0, h1 => by
    obtain ⟨k, hk⟩ := same_lS l hl n (i + 1) (by omega) (by omega)
    refine ⟨k + 1, ?_⟩
    simp only [scholiastlaw20_same.l0]
    rw [if_pos (by omega), if_pos h0, if_pos (by omega), if_pos (by omega), wrap_inD (n := l.length) h0 (by omega) (by omega), hk]
    simp
theorem same_reflS (l : List Ds) (hl : l.length ≤ 5864062014805) : ∃ k, scholiastlaw20_same.f k l l = some true := by
  obtain ⟨k, hk⟩ := same_lS l hl l.length 0 (by omega) (by omega)
  exact ⟨k, by unfold scholiastlaw20_same.f; rw [if_pos rfl, hk]⟩
theorem drawn_below {w w' : World} (h : Drawn0 w w') : Below w.heap.size w w' := by
  obtain ⟨n, rfl⟩ := h
  exact pw_below_drewN (Below.refl _ _) _
theorem lt_irr (x : Ds) : ¬ ds_lt x x := by unfold ds_lt; omega
theorem lt_trans (x y z : Ds) (h1 : ds_lt x y) (h2 : ds_lt y z) : ds_lt x z := by unfold ds_lt at *; omega
theorem lt_tri (x y : Ds) : ds_lt x y ∨ x = y ∨ ds_lt y x := by
  by_cases h1 : ds_lt x y
  · exact .inl h1
  · by_cases h2 : ds_lt y x
    · exact .inr (.inr h2)
    · exact .inr (.inl (ds_total x y (by rw [ds_ltOf]; exact decide_eq_false h1) (by rw [ds_ltOf]; exact decide_eq_false h2)))
/-- A list that is in order, each once, is told by what is in it. -/
theorem sorted_uniq : ∀ (l m : List Ds), l.Pairwise ds_lt → m.Pairwise ds_lt → (∀ x, x ∈ l ↔ x ∈ m) → l = m
  | [], m, _, _, h => by
    cases m with
    | nil => rfl
    | cons b m => exact absurd ((h b).2 List.mem_cons_self) (by simp)
  | a :: l, [], _, _, h => absurd ((h a).1 List.mem_cons_self) (by simp)
  | a :: l, b :: m, hl, hm, h => by
    obtain ⟨hl1, hl2⟩ := List.pairwise_cons.1 hl
    obtain ⟨hm1, hm2⟩ := List.pairwise_cons.1 hm
    have hab : a = b := by
      rcases List.mem_cons.1 ((h a).1 List.mem_cons_self) with e | e
      · exact e
      · rcases List.mem_cons.1 ((h b).2 List.mem_cons_self) with e' | e'
        · exact e'.symm
        · exact absurd (lt_trans _ _ _ (hl1 b e') (hm1 a e)) (lt_irr a)
    subst hab
    rw [sorted_uniq l m hl2 hm2 (fun x => ⟨fun hx => by
      rcases List.mem_cons.1 ((h x).1 (List.mem_cons_of_mem _ hx)) with e | e
      · subst e; exact absurd (hl1 x hx) (lt_irr x)
      · exact e, fun hx => by
      rcases List.mem_cons.1 ((h x).2 (List.mem_cons_of_mem _ hx)) with e | e
      · subst e; exact absurd (hm1 x hx) (lt_irr x)
      · exact e⟩)]
theorem eq_of_ds {x y : Ds} (h : ds_eq x y = true) : x = y := by
  unfold ds_eq at h
  simp only [Bool.and_eq_true, beq_iff_eq] at h
  obtain ⟨a, b, c⟩ := x
  obtain ⟨a', b', c'⟩ := y
  simp_all
theorem ds_refl (x : Ds) : ds_eq x x = true := by simp [ds_eq]
instance : DecidableEq Ds := fun x y => decidable_of_iff (ds_eq x y = true) ⟨eq_of_ds, fun h => h ▸ ds_refl x⟩
def leD (x y : Ds) : Prop := ¬ ds_lt y x
theorem dd_mem : ∀ (p : Option Ds) (l : List Ds) (x : Ds), x ∈ ds_dd p l → x ∈ l
  | _, [], x, h => by simp [ds_dd] at h
  | none, y :: l, x, h => by
    simp only [ds_dd] at h
    rcases List.mem_cons.1 h with rfl | h
    · exact List.mem_cons_self
    · exact List.mem_cons_of_mem _ (dd_mem (some y) l x h)
  | some p, y :: l, x, h => by
    simp only [ds_dd] at h
    split at h
    · exact List.mem_cons_of_mem _ (dd_mem (some y) l x h)
    · rcases List.mem_cons.1 h with rfl | h
      · exact List.mem_cons_self
      · exact List.mem_cons_of_mem _ (dd_mem (some y) l x h)
theorem dd_some : ∀ (l : List Ds) (p : Ds), (∀ y ∈ l, leD p y) → l.Pairwise leD → (ds_dd (some p) l).Pairwise ds_lt ∧ (∀ x ∈ ds_dd (some p) l, ds_lt p x) ∧ ∀ x ∈ l, x = p ∨ x ∈ ds_dd (some p) l
  | [], p, _, _ => by simp [ds_dd]
  | y :: l, p, h1, h2 => by
    obtain ⟨h3, h4⟩ := List.pairwise_cons.1 h2
    obtain ⟨i1, i2, i3⟩ := dd_some l y h3 h4
    simp only [ds_dd]
    by_cases e : ds_eq y p = true
    · obtain rfl := eq_of_ds e
      rw [if_pos e]
      exact ⟨i1, i2, fun x hx => by
        rcases List.mem_cons.1 hx with rfl | hx
        · exact .inl rfl
        · exact i3 x hx⟩
    · rw [if_neg e]
      have hpy : ds_lt p y := by
        rcases lt_tri p y with h | h | h
        · exact h
        · subst h; exact absurd (ds_refl p) e
        · exact absurd h (h1 y List.mem_cons_self)
      refine ⟨List.pairwise_cons.2 ⟨i2, i1⟩, fun x hx => ?_, fun x hx => ?_⟩
      · rcases List.mem_cons.1 hx with rfl | hx
        · exact hpy
        · exact lt_trans _ _ _ hpy (i2 x hx)
      · rcases List.mem_cons.1 hx with rfl | hx
        · exact .inr List.mem_cons_self
        · rcases i3 x hx with rfl | h
          · exact .inr List.mem_cons_self
          · exact .inr (List.mem_cons_of_mem _ h)
/-- In order, each once. -/
def srt (l : List Ds) : List Ds := ds_dd none (ds_srt l)
theorem srt_sorted (l : List Ds) : (srt l).Pairwise ds_lt ∧ ∀ x, x ∈ srt l ↔ x ∈ l := by
  have hp : (ds_srt l).Pairwise leD := by
    have h := List.pairwise_mergeSort (le := fun x y : Ds => !(ltOf ds_cmp) y x) (fun a b c h1 h2 => by
      simp only [Bool.not_eq_true', ds_ltOf, decide_eq_false_iff_not] at *
      unfold ds_lt at *; omega) (fun a b => by
      simp only [Bool.or_eq_true, Bool.not_eq_true', ds_ltOf, decide_eq_false_iff_not]
      unfold ds_lt; omega) l
    refine List.Pairwise.imp (fun {a b} h => ?_) h
    simp only [Bool.not_eq_true', ds_ltOf, decide_eq_false_iff_not] at h
    exact h
  have hm : ∀ x, x ∈ ds_srt l ↔ x ∈ l := fun x => by unfold ds_srt; exact List.mem_mergeSort
  unfold srt
  cases hs : ds_srt l with
  | nil =>
    rw [hs] at hm
    simp only [ds_dd]
    exact ⟨List.Pairwise.nil, hm⟩
  | cons y m =>
    rw [hs] at hp hm
    obtain ⟨h3, h4⟩ := List.pairwise_cons.1 hp
    obtain ⟨i1, i2, i3⟩ := dd_some m y h3 h4
    simp only [ds_dd]
    refine ⟨List.pairwise_cons.2 ⟨i2, i1⟩, fun x => ⟨fun hx => ?_, fun hx => ?_⟩⟩
    · rcases List.mem_cons.1 hx with rfl | hx
      · exact (hm x).1 List.mem_cons_self
      · exact (hm x).1 (List.mem_cons_of_mem _ (dd_mem _ _ _ hx))
    · rcases List.mem_cons.1 ((hm x).2 hx) with rfl | hx
      · exact List.mem_cons_self
      · rcases i3 x hx with rfl | h
        · exact List.mem_cons_self
        · exact List.mem_cons_of_mem _ h
theorem srt_srt (l : List Ds) : srt (srt l) = srt l :=
  sorted_uniq _ _ (srt_sorted _).1 (srt_sorted _).1 (fun x => (srt_sorted (srt l)).2 x)
theorem dd_length : ∀ (p : Option Ds) (l : List Ds), (ds_dd p l).length ≤ l.length
  | _, [] => by simp [ds_dd]
  | none, y :: l => by
    have := dd_length (some y) l
    simp only [ds_dd, List.length_cons]; omega
  | some p, y :: l => by
    have := dd_length (some y) l
    simp only [ds_dd]
    split <;> simp only [List.length_cons] <;> omega
theorem srt_length (l : List Ds) : (srt l).length ≤ l.length := by
  have := dd_length none (ds_srt l)
  rw [ds_srt_length] at this
  exact this
theorem sort_ok (l : List Ds) (hl : l.length < 5864062014804) : diag_Sort.f l = some (srt l) := by
  unfold diag_Sort.f srt
  rw [if_pos (by omega)]
end Go.Proofs.YtcbimnmpdpkefaaDoor.A

/- DiagOrder: the walk. -/
set_option linter.unusedVariables false
set_option linter.unusedSimpArgs false
namespace Go.Proofs.YtcbimnmpdpkefaaDoor.A
open Go.RowKit Go.Proofs.YtcbimnmpdpkefaaDoorW.PrintWords Go.Proofs.YtcbimnmpdpkefaaDoorW.PrintLast Go.Proofs.YtcbimnmpdpkefaaDoorW.PrintMore
theorem among_ok (i n : Int) (hn : 1 ≤ n) (hn2 : n ≤ 4611686018427387904) : ∃ r, scholiastlaw20_among.f i n = some r ∧ 0 ≤ r ∧ r < n := by
  have h1 : Int.tmod i n < n := by have := Int.tmod_lt_of_pos i (show 0 < n by omega); exact this
  have h2 : -n < Int.tmod i n := by
    have h3 := Int.tmod_lt_of_pos (-i) (show 0 < n by omega)
    rw [Int.neg_tmod] at h3
    omega
  unfold scholiastlaw20_among.f
  rw [if_neg (by omega), if_neg (by omega)]
  by_cases h : Int.tmod i n < 0
  · rw [if_pos h]
    exact ⟨_, rfl, by unfold wrap64; omega, by unfold wrap64; omega⟩
  · rw [if_neg h]
    exact ⟨_, rfl, by omega, h1⟩
theorem rd_mem (l : List S36) (i : Int) (h0 : 0 ≤ i) (h1 : i < l.length) : rd_T36 l i ∈ l := by
  unfold rd_T36
  rw [List.getD_eq_getElem?_getD, List.getElem?_eq_getElem (by omega)]
  exact List.getElem_mem _
theorem pair_rd : ∀ (l : List S36) (i : Int), l.Pairwise ds_lt → 1 ≤ i → i < l.length → ds_lt (rd_T36 l (i - 1)) (rd_T36 l i) := by
  intro l i hp h1 h2
  have h := List.pairwise_iff_getElem.1 hp (i - 1).toNat i.toNat (by omega) (by omega) (by omega)
  unfold rd_T36
  rw [List.getD_eq_getElem?_getD, List.getD_eq_getElem?_getD, List.getElem?_eq_getElem (by omega), List.getElem?_eq_getElem (by omega)]
  exact h
attribute [local go_sem high] eqA36
theorem swap_mem (xs : List S36) (i t : Int) (h0 : 0 ≤ i) (h1 : i < xs.length) (h2 : 0 ≤ t) (h3 : t < xs.length) (x : S36) : x ∈ (xs.set i.toNat (rd_T36 xs t)).set t.toNat (rd_T36 xs i) ↔ x ∈ xs := by
  have hr : ∀ j : Int, 0 ≤ j → j < xs.length → xs[j.toNat]? = some (rd_T36 xs j) := fun j a b => by
    unfold rd_T36
    rw [List.getD_eq_getElem?_getD, List.getElem?_eq_getElem (by omega)]
    rfl
  have hi := hr i h0 h1
  have ht := hr t h2 h3
  rw [List.mem_iff_getElem?, List.mem_iff_getElem?]
  constructor
  · rintro ⟨j, hj⟩
    rw [List.getElem?_set] at hj
    split at hj
    · split at hj
      · injection hj with hj; exact ⟨i.toNat, by rw [hi, hj]⟩
      · cases hj
    · rw [List.getElem?_set] at hj
      split at hj
      · split at hj
        · injection hj with hj; exact ⟨t.toNat, by rw [ht, hj]⟩
        · cases hj
      · exact ⟨j, hj⟩
  · rintro ⟨j, hj⟩
    by_cases e1 : j = i.toNat
    · subst e1
      rw [hi] at hj
      injection hj with hj
      refine ⟨t.toNat, ?_⟩
      rw [List.getElem?_set, if_pos rfl, if_pos (by rw [List.length_set]; omega), hj]
    · by_cases e2 : j = t.toNat
      · subst e2
        rw [ht] at hj
        injection hj with hj
        refine ⟨i.toNat, ?_⟩
        rw [List.getElem?_set, if_neg (by omega), List.getElem?_set, if_pos rfl, if_pos (by omega), hj]
      · refine ⟨j, ?_⟩
        rw [List.getElem?_set, if_neg (by omega), List.getElem?_set, if_neg (by omega)]
        exact hj
def scholiastlaw20_DiagOrder.T9 : Bool × List (List Nat × List Nat) := (true, [([], []), ([], []), ([], []), ([], []), ([], []), ([], []), ([4, 5], [4, 5]), ([6], [6]), ([], []), ([], []), ([8, 9], [8, 9]), ([10], [10]), ([0, 1, 0, 1, 4, 5, 6, 7, 11], [0, 1]), ([12, 7, 0, 1, 4, 5, 6, 7, 11], [7, 12]), ([2, 3, 0, 1, 2, 3, 4, 5, 6, 7, 8, 9, 10, 11, 12, 13], [2, 3]), ([14, 11, 13, 0, 1, 2, 3, 4, 5, 6, 7, 8, 9, 10, 11, 12, 13], [11, 14])])
def scholiastlaw20_DiagOrder.B9 : List Nat := [0, 0, 0, 0, 0, 0, 48, 112, 0, 0, 768, 1792, 4083, 8179, 16383, 32767]
theorem scholiastlaw20_DiagOrder.tab9 : rtab .any (opsOf Tryd.f6 9) = scholiastlaw20_DiagOrder.T9 := by kernel_rfl
theorem scholiastlaw20_DiagOrder.bits9 : waitsOk scholiastlaw20_DiagOrder.T9.2 scholiastlaw20_DiagOrder.B9 = true := by kernel_rfl
def scholiastlaw20_DiagOrder.T12 : Bool × List (List Nat × List Nat) := (true, [([], []), ([], []), ([0, 1], [0, 1]), ([2], [2]), ([], []), ([], []), ([4, 5], [4, 5]), ([6, 3], [6]), ([3, 7, 7], [3, 7]), ([8, 8, 0, 1, 2, 3, 4, 5, 6, 7, 8], [8])])
def scholiastlaw20_DiagOrder.B12 : List Nat := [0, 0, 3, 7, 0, 0, 48, 127, 255, 511]
theorem scholiastlaw20_DiagOrder.tab12 : rtab .any (opsOf Tryd.f6 12) = scholiastlaw20_DiagOrder.T12 := by kernel_rfl
theorem scholiastlaw20_DiagOrder.bits12 : waitsOk scholiastlaw20_DiagOrder.T12.2 scholiastlaw20_DiagOrder.B12 = true := by kernel_rfl
def scholiastlaw20_DiagOrder.T17 : Bool × List (List Nat × List Nat) := (true, [([], []), ([], []), ([1], [1]), ([0, 2], [0, 2]), ([3], [3]), ([], []), ([], []), ([5, 6], [5, 6]), ([7], [7]), ([], []), ([], []), ([9, 4, 0, 1, 2, 3, 4, 9, 10], [4, 9]), ([10, 8, 11, 0, 1, 2, 3, 4, 5, 6, 7, 8, 9, 10, 11], [8, 10])])
def scholiastlaw20_DiagOrder.B17 : List Nat := [0, 0, 2, 7, 15, 0, 0, 96, 224, 0, 0, 1567, 4095]
theorem scholiastlaw20_DiagOrder.tab17 : rtab .any (opsOf Tryd.f6 17) = scholiastlaw20_DiagOrder.T17 := by kernel_rfl
theorem scholiastlaw20_DiagOrder.bits17 : waitsOk scholiastlaw20_DiagOrder.T17.2 scholiastlaw20_DiagOrder.B17 = true := by kernel_rfl
set_option maxHeartbeats 16000000 in
set_option maxRecDepth 100000 in
theorem order_walk (A0 : Option Addr) (c0 : Nat) (l0 : List S36) (A1 : Option Addr) (c1 : Nat) (l1 : List Int) (a2 : Int) (w : World) (hG : GlobP w) (hr0 : Kd.C k36 w A0 l0.length l0) (hc0 : l0.length ≤ c0) (hl : l0.length ≤ 2000000) (hr1 : Kd.C (Kd.int .i64) w A1 l1.length l1) (hc1 : l1.length ≤ c1) (hl1 : l1.length ≤ 2000000) :
    Calls Tryd.prog 6 #[.slice A0 l0.length c0, .slice A1 l1.length c1, .int .i64 a2] w fun e w' => e = .returned (.bool true) ∧ Below w.heap.size w w' := by
  have hu36 := Tryd.underlying36
  have HSH := Aside0.mk (scholiastlaw20_shown.calls 20 true w hG shown_true)
  have HR0 := Aside0.mk hr0
  have HC0 := Aside0.mk hc0
  have HR1 := Aside0.mk hr1
  clear hr0 hG hc0 hr1
  obtain ⟨y262, hy⟩ : ∃ y, y = l0 ++ l0 := ⟨_, rfl⟩
  have hyl2 : y262.length ≤ 4000000 := by rw [hy, List.length_append]; omega
  have HYM := Aside0.mk (show ∀ x, x ∈ y262 ↔ x ∈ l0 by intro x; rw [hy]; simp)
  have HY := Aside0.mk hy
  clear hy
  have HB0 := Aside0.mk (Below.refl w.heap.size w)
  go_enter Tryd.func6, Tryd.ntmps6
  go_wp2_with (first
    | (go_at_call 15; refine HSH.out.mono ?_; rintro e w8 ⟨rfl, hB⟩; have HB := Aside0.mk hB; clear hB)
    | ((with_reducible refine gate_builtin (b := .append) (xs := #[.const (.slice none 0 0), .tmp 23]) rfl ?_); at_builtin; refine Kd.R_append_rows k36 (w0 := w) w.heap.size rfl (.const (.slice none 0 0)) (.tmp 23) 23 36 (.agg #[(.int .i64 0), (.int .i64 0), (.int .i64 0)]) 24 rfl Tryd.underlying23 info36 rfl (by decide) (by omega) (.slice none 0 0) ([] : List S36) l0 _ _ _ (fun _ => True) (fun _ => False) rfl rfl ?aO ?aR (fun _ _ h => h) (fun _ h => h.elim) ?aF ?aB ?aS ?aL ?_; (case aR => exact (Kd.C_below HR0.out HB.out)); (case aB => exact (by repeat (first | (with_reducible first | exact HB.out | apply below_alloc | apply pw_below_drewN | apply below_drew1) | exact HB.out))); (case aF => exact (fun _ _ => trivial)); (case aO => exact ((Kd.R_nil _ _ _ _ (fun _ => True)))); (case aS => exact (below_size (by repeat (first | (with_reducible first | exact HB.out | apply below_alloc | apply pw_below_drewN | apply below_drew1) | exact HB.out)))); (case aL => simp only [List.length_nil]; omega); intro v260 w9 ho hb hg hat; have n0_ := Aside0.mk (hb); have n1_ := Aside0.mk (ho); clear HB; have HB := n0_; have HO261 := n1_; clear n0_ n1_; clear ho hb hg hat)
    | ((with_reducible refine gate_builtin (b := .append) (xs := #[.tmp 24, .tmp 25]) rfl ?_); at_builtin; refine Kd.R_append_rows k36 (w0 := w) w.heap.size rfl (.tmp 24) (.tmp 25) 23 36 (.agg #[(.int .i64 0), (.int .i64 0), (.int .i64 0)]) 24 rfl Tryd.underlying23 info36 rfl (by decide) (by omega) v260 ([] ++ l0) l0 _ _ _ (fun _ => True) (fun _ => False) rfl rfl ?aO ?aR (fun _ _ h => h) (fun _ h => h.elim) ?aF ?aB ?aS ?aL ?_; (case aR => exact (Kd.C_below HR0.out HB.out)); (case aB => exact (by repeat (first | (with_reducible first | exact HB.out | apply below_alloc | apply pw_below_drewN | apply below_drew1) | exact HB.out))); (case aF => exact (fun _ _ => trivial)); (case aO => exact (by (with_reducible repeat (first | apply Kd.R_alloc | apply Kd.R_drewN | apply Kd.R_drew)); exact HO261.out)); (case aS => exact (below_size (by repeat (first | (with_reducible first | exact HB.out | apply below_alloc | apply pw_below_drewN | apply below_drew1) | exact HB.out)))); (case aL => simp only [List.nil_append]; omega); intro v263 w10 ho hb hg hat; have n0_ := Aside0.mk (hb); have n1_ := Aside0.mk (ho); clear HB; have HB := n0_; have HO264 := n1_; clear n0_ n1_; clear ho hb hg hat; have ho_ := HO264.out; rw [List.nil_append, ← HY.out] at ho_; obtain ⟨Ao11, co11, rfl⟩ := Kd.R_slice ho_; have HO := Aside0.mk ho_; clear ho_ HO264))
  clear HO261 HSH
  go_loopg [29] (y262.length + 1) (fun kq v29 w' => ∃ (x7_1 : List S36) (x29_1 : Int), v29 = .int .i64 x29_1 ∧ Aside0 (0 ≤ x29_1 ∧ x29_1 ≤ (y262.length : Int) ∧ (y262.length : Int) - x29_1 < kq) ∧ Aside0 (x7_1.length = y262.length ∧ ∀ x, x ∈ x7_1 ↔ x ∈ l0) ∧ Aside0 (Kd.R k36 36 w' w.heap.size (fun _ => True) (.slice Ao11 y262.length co11) x7_1) ∧ Aside0 (Below w.heap.size w w'))
  case atStart => exact ⟨y262, 0, rfl, ⟨by omega⟩, ⟨rfl, HYM.out⟩, HO, HB⟩
  case round =>
    clear HB HO
    obtain ⟨x7_1, x29_1, rfl, HI, HX, HO_7, HB⟩ := hrel
    have hl7_1 := (Kd.R_reads' HO_7.out).1
    rw [hl7_1] at HO_7
    (try simp only [hl7_1])
    obtain ⟨k1, rfl⟩ : ∃ k1, gk = k1 + 1 := ⟨gk - 1, by have := HI.out; omega⟩
    by_cases c12 : x29_1 < (y262.length : Int)
    · obtain ⟨i0, i1, i2⟩ := HI.out
      have c12b0 : decide (x29_1 < (x7_1.length : Int)) = true := decide_eq_true (by omega)
      by_cases c13 : x29_1 < (l1.length : Int)
      · have c13b0 : decide (x29_1 < (l1.length : Int)) = true := decide_eq_true c13
        have c14b0 : decide (0 ≤ x29_1) = true := decide_eq_true i0
        obtain ⟨t266, A15', u0, u1⟩ := among_ok (rd l1 x29_1) (x7_1.length : Int) (by omega) (by omega)
        have A15 := Aside0.mk A15'
        clear A15'
        have c16b0 : decide (0 ≤ t266) = true := decide_eq_true u0
        have c17b0 : decide (t266 < (x7_1.length : Int)) = true := decide_eq_true u1
        have hsw := fun x => swap_mem x7_1 x29_1 t266 i0 (by omega) u0 u1 x
        obtain ⟨y269, hy269⟩ : ∃ y_ : List (S36), y_ = (x7_1.set (x29_1 : Int).toNat (⟨(rd_T36 x7_1 t266).f0, (rd_T36 x7_1 t266).f1, (rd_T36 x7_1 t266).f2⟩ : S36)) := ⟨_, rfl⟩
        obtain ⟨y270, hy270⟩ : ∃ y_ : List (S36), y_ = (y269.set (t266 : Int).toNat (⟨(rd_T36 x7_1 x29_1).f0, (rd_T36 x7_1 x29_1).f1, (rd_T36 x7_1 x29_1).f2⟩ : S36)) := ⟨_, rfl⟩
        have hym : y270.length = y262.length ∧ ∀ x, x ∈ y270 ↔ x ∈ l0 := by
          refine ⟨by rw [hy270, hy269, List.length_set, List.length_set]; exact HX.out.1, fun x => ?_⟩
          rw [hy270, hy269]
          exact (hsw x).trans (HX.out.2 x)
        have Ny269 := Aside0.mk hy269
        have Ny270 := Aside0.mk hy270
        have HYS := Aside0.mk hym
        clear hy269 hy270 hsw hym c13 i0 u0 u1
        have p265 : 0 ≤ (x29_1 : Int) := of_decide_eq_true (by first | (with_reducible assumption) | assumption)
        have q265 : x29_1 < (l1.length : Int) := of_decide_eq_true (by first | (with_reducible assumption) | assumption)
        obtain ⟨ad265, e265, hx265_0⟩ := Kd.at_int HR1.out x29_1 p265 q265
        cases e265
        replace hx265_0 := (HB.out.cell (World.block_lt_of_cell? w _ hx265_0)).trans hx265_0
        replace p265 := eq_true p265
        replace q265 := eq_true q265
        try go_wp2_with (first | ((with_reducible refine gate_callee (f := 26) rfl ?_); refine goesL_ (some 42) rfl rfl Tryd.func26 (by kernel_rfl) rfl #[.int .i64 (rd l1 x29_1), .int .i64 (x7_1.length : Int)] rfl (by (try simp only [List.map_toArray, List.map_cons, List.map_nil]); first | done | rfl | (simp only [List.length_drop, List.length_take]; rfl)) ?_; (with_reducible refine (scholiastlaw20_among.calls (rd l1 x29_1) (x7_1.length : Int) t266 _ A15.out).mono ?_); rintro e w' ⟨rfl, ⟨nd, rfl⟩⟩; refine ⟨_, rfl, ?_⟩; (try (rw [drewN_self wr]; generalize hq_ : World.drewN wr _ = wr; have n0_ : Aside0 (Kd.R k36 36 wr w.heap.size (fun _ => True) (.slice Ao11 x7_1.length co11) x7_1) := ⟨by rw [← hq_]; exact (by (with_reducible repeat (first | apply Kd.R_alloc | apply Kd.R_drewN | apply Kd.R_drew)); exact HO_7.out)⟩; have n1_ : Aside0 (Below w.heap.size w wr) := ⟨by rw [← hq_]; exact (by repeat (first | (with_reducible first | exact HB.out | apply below_alloc | apply pw_below_drewN | apply below_drew1) | exact HB.out))⟩; clear HO_7 HB hq_; have HO_7 := n0_; have HB := n1_; clear n0_ n1_))))
        have n0_ := Aside0.mk (Kd.R_drew HO_7.out)
        have n1_ := Aside0.mk (below_drew1 HB.out)
        clear HO_7
        clear HB
        have HO_7 := n0_
        have HB := n1_
        clear n0_ n1_
        have p267 : 0 ≤ (t266 : Int) := of_decide_eq_true (by first | (with_reducible assumption) | assumption)
        have q267 : t266 < (x7_1.length : Int) := of_decide_eq_true (by first | (with_reducible assumption) | assumption)
        obtain ⟨ad267, e267, hx267_0, hx267_1, hx267_2⟩ := at_T36 (Kd.R_reads' HO_7.out).2.2 t266 p267 q267
        cases e267
        replace p267 := eq_true p267
        replace q267 := eq_true q267
        have p268 : 0 ≤ (x29_1 : Int) := of_decide_eq_true (by first | (with_reducible assumption) | assumption)
        have q268 : x29_1 < (x7_1.length : Int) := of_decide_eq_true (by first | (with_reducible assumption) | assumption)
        obtain ⟨ad268, e268, hx268_0, hx268_1, hx268_2⟩ := at_T36 (Kd.R_reads' HO_7.out).2.2 x29_1 p268 q268
        obtain rfl : ad267 = ad268 := (by injection e268)
        replace p268 := eq_true p268
        replace q268 := eq_true q268
        have p19 : 0 ≤ (x29_1 : Int) := of_decide_eq_true (by first | (with_reducible assumption) | assumption)
        have q19 : (x29_1 : Int) < ((x7_1.length : Int) : Int) := of_decide_eq_true (by first | (with_reducible assumption) | assumption)
        obtain ⟨go19, co19, eo19, gb19, gl19, cl19, HG19⟩ := Kd.R_form HO_7.out (by omega)
        (first | cases eo19 | (injection eo19 with ea_ en_ ec_; (first | subst ea_ | (injection ea_ with ea_; subst ea_)); subst ec_; clear en_))
        have GB19 := Aside0.mk gb19
        have GG19 := Aside0.mk HG19
        clear gb19 gl19 HG19
        (first | simp only [add_plain] at hx267_0 | skip)
        (first | simp only [add_plain] at hx267_1 | skip)
        (first | simp only [add_plain] at hx267_2 | skip)
        (first | simp only [add_plain] at hx268_0 | skip)
        (first | simp only [add_plain] at hx268_1 | skip)
        (first | simp only [add_plain] at hx268_2 | skip)
        obtain ⟨ce19, hcl19, hM19, hcc19, hfr19⟩ := Kd.R_elem HO_7.out z36 (x29_1 : Int) p19 q19
        obtain rfl := k36_openM hM19
        have hx19_0 : World.cell? _ ⟨go19, (x29_1 : Int).toNat * 3, none⟩ = some (.int .i64 ((rd_T36 x7_1 x29_1).f0)) := hcc19 0 _ rfl
        have hx19_1 : World.cell? _ ⟨go19, (x29_1 : Int).toNat * 3 + 1, none⟩ = some (.int .i64 ((rd_T36 x7_1 x29_1).f1)) := hcc19 1 _ rfl
        have hx19_2 : World.cell? _ ⟨go19, (x29_1 : Int).toNat * 3 + 2, none⟩ = some (.int .i64 ((rd_T36 x7_1 x29_1).f2)) := hcc19 2 _ rfl
        have hf19_0 : World.frozen? _ ⟨go19, (x29_1 : Int).toNat * 3, none⟩ = false := hfr19 0
        have hf19_1 : World.frozen? _ ⟨go19, (x29_1 : Int).toNat * 3 + 1, none⟩ = false := hfr19 1
        have hf19_2 : World.frozen? _ ⟨go19, (x29_1 : Int).toNat * 3 + 2, none⟩ = false := hfr19 2
        clear hcl19 hcc19 hfr19 hM19
        replace p19 := eq_true p19
        replace q19 := eq_true q19
        obtain ⟨ce22, hcl22, hM22, hcc22, hfr22⟩ := Kd.R_elem HO_7.out z36 (x29_1 : Int) (of_decide_eq_true (by first | (with_reducible assumption) | assumption)) (by have h_ : (x29_1 : Int) < ((x7_1.length : Int) : Int) := of_decide_eq_true (by first | (with_reducible assumption) | assumption); first | exact h_ | (have e_ := (Kd.R_reads' HO_7.out).1; omega) | simpa using h_)
        obtain rfl := k36_openM hM22
        have HP22 := (Kd.R_seg HO_7.out (x29_1 : Int) (of_decide_eq_true (by first | (with_reducible assumption) | assumption)) (by have h_ : (x29_1 : Int) < ((x7_1.length : Int) : Int) := of_decide_eq_true (by first | (with_reducible assumption) | assumption); first | exact h_ | (have e_ := (Kd.R_reads' HO_7.out).1; omega) | simpa using h_) (seg := [.int .i64 ((rd_T36 x7_1 t266).f0), .int .i64 ((rd_T36 x7_1 t266).f1), .int .i64 ((rd_T36 x7_1 t266).f2)]) (j := 0) hcl22 hcc22 (show 3 ≤ 3 from by decide) (x' := (⟨(rd_T36 x7_1 t266).f0, (rd_T36 x7_1 t266).f1, (rd_T36 x7_1 t266).f2⟩ : S36)) (k36_mkM _ _ _ (⟨(rd_T36 x7_1 t266).f0, (rd_T36 x7_1 t266).f1, (rd_T36 x7_1 t266).f2⟩ : S36) ) (fun _ hk => hk)).1
        rw [← Ny269.out] at HP22
        have HQ22 := Aside0.mk HP22
        clear hcl22 hcc22 hfr22 hM22 HP22
        have p20 : 0 ≤ (t266 : Int) := of_decide_eq_true (by first | (with_reducible assumption) | assumption)
        have q20 : (t266 : Int) < ((x7_1.length : Int) : Int) := of_decide_eq_true (by first | (with_reducible assumption) | assumption)
        obtain ⟨ce20, hcl20, hM20, hcc20, hfr20⟩ := Kd.R_elem HQ22.out z36 (t266 : Int) p20 q20
        obtain rfl := k36_openM hM20
        have hx20_0 : World.cell? _ ⟨go19, (t266 : Int).toNat * 3, none⟩ = some (.int .i64 ((rd_T36 y269 t266).f0)) := hcc20 0 _ rfl
        have hx20_1 : World.cell? _ ⟨go19, (t266 : Int).toNat * 3 + 1, none⟩ = some (.int .i64 ((rd_T36 y269 t266).f1)) := hcc20 1 _ rfl
        have hx20_2 : World.cell? _ ⟨go19, (t266 : Int).toNat * 3 + 2, none⟩ = some (.int .i64 ((rd_T36 y269 t266).f2)) := hcc20 2 _ rfl
        have hf20_0 : World.frozen? _ ⟨go19, (t266 : Int).toNat * 3, none⟩ = false := hfr20 0
        have hf20_1 : World.frozen? _ ⟨go19, (t266 : Int).toNat * 3 + 1, none⟩ = false := hfr20 1
        have hf20_2 : World.frozen? _ ⟨go19, (t266 : Int).toNat * 3 + 2, none⟩ = false := hfr20 2
        clear hcl20 hcc20 hfr20 hM20
        replace p20 := eq_true p20
        replace q20 := eq_true q20
        obtain ⟨ce23, hcl23, hM23, hcc23, hfr23⟩ := Kd.R_elem HQ22.out z36 (t266 : Int) (of_decide_eq_true (by first | (with_reducible assumption) | assumption)) (by have h_ : (t266 : Int) < ((x7_1.length : Int) : Int) := of_decide_eq_true (by first | (with_reducible assumption) | assumption); first | exact h_ | (have e_ := (Kd.R_reads' HO_7.out).1; omega) | simpa using h_)
        obtain rfl := k36_openM hM23
        have HP23 := (Kd.R_seg HQ22.out (t266 : Int) (of_decide_eq_true (by first | (with_reducible assumption) | assumption)) (by have h_ : (t266 : Int) < ((x7_1.length : Int) : Int) := of_decide_eq_true (by first | (with_reducible assumption) | assumption); first | exact h_ | (have e_ := (Kd.R_reads' HO_7.out).1; omega) | simpa using h_) (seg := [.int .i64 ((rd_T36 x7_1 x29_1).f0), .int .i64 ((rd_T36 x7_1 x29_1).f1), .int .i64 ((rd_T36 x7_1 x29_1).f2)]) (j := 0) hcl23 hcc23 (show 3 ≤ 3 from by decide) (x' := (⟨(rd_T36 x7_1 x29_1).f0, (rd_T36 x7_1 x29_1).f1, (rd_T36 x7_1 x29_1).f2⟩ : S36)) (k36_mkM _ _ _ (⟨(rd_T36 x7_1 x29_1).f0, (rd_T36 x7_1 x29_1).f1, (rd_T36 x7_1 x29_1).f2⟩ : S36) ) (fun _ hk => hk)).1
        rw [← Ny270.out] at HP23
        have HQ23 := Aside0.mk HP23
        clear hcl23 hcc23 hfr23 hM23 HP23
        refine start_ (n := 16) (S := fun w' => w'.cell? ⟨go19, ((t266).toNat * 3), none⟩ = some (.int .i64 ((rd_T36 x7_1 t266).f0)) ∧ w'.cell? ⟨go19, ((t266).toNat * 3) + 1, none⟩ = some (.int .i64 ((rd_T36 x7_1 t266).f1)) ∧ w'.cell? ⟨go19, ((t266).toNat * 3) + 2, none⟩ = some (.int .i64 ((rd_T36 x7_1 t266).f2)) ∧ w'.cell? ⟨go19, ((x29_1).toNat * 3), none⟩ = some (.int .i64 ((rd_T36 x7_1 x29_1).f0)) ∧ w'.cell? ⟨go19, ((x29_1).toNat * 3) + 1, none⟩ = some (.int .i64 ((rd_T36 x7_1 x29_1).f1)) ∧ w'.cell? ⟨go19, ((x29_1).toNat * 3) + 2, none⟩ = some (.int .i64 ((rd_T36 x7_1 x29_1).f2))) (ds := [13, 15]) #[false, false, false, false, false, false, false, false, false, false, false, false, false, false, false, false] (by kernel_rfl) rfl rfl ⟨hx267_0, hx267_1, hx267_2, hx268_0, hx268_1, hx268_2⟩ (fun hHeld => ?_); refine with_tabW scholiastlaw20_DiagOrder.tab9 scholiastlaw20_DiagOrder.bits9 (fun HT_ HW_ => ?_)
        generalize wr.drew = w21 at HO_7 HB GG19 HQ22 HQ23 hf19_0 hf19_1 hf19_2 hf20_0 hf20_1 hf20_2 hx19_0 hx19_1 hx19_2 hx20_0 hx20_1 hx20_2 hx267_0 hx267_1 hx267_2 hx268_0 hx268_1 hx268_2 hHeld ⊢
        refine pure_ (i := 0) (N := some 43) (v := ?_) (a' := ?_) #[true, false, false, false, false, false, false, false, false, false, false, false, false, false, false, false] rfl rfl (any_of HT_.out (by kernel_rfl)) (fun _ _ _ h => h) (Or.inl ⟨by rfl, ?_⟩) ?_ ?_
        rotate_left
        · intro w'
          go_simp
          with_reducible rfl
        rotate_left
        · simp only [Act.put, List.setIfInBounds_toArray, List.set_cons_zero, List.set_cons_succ, i64_w, i32_w]
          rfl
        refine pure_ (i := 1) (N := some 44) (v := ?_) (a' := ?_) #[true, true, false, false, false, false, false, false, false, false, false, false, false, false, false, false] rfl rfl (any_of HT_.out (by kernel_rfl)) (fun _ _ _ h => h) (Or.inl ⟨by rfl, ?_⟩) ?_ ?_
        rotate_left
        · intro w'
          go_simp
          with_reducible rfl
        rotate_left
        · simp only [Act.put, List.setIfInBounds_toArray, List.set_cons_zero, List.set_cons_succ, i64_w, i32_w]
          rfl
        refine pure_ (i := 2) (N := some 45) (v := ?_) (a' := ?_) #[true, true, true, false, false, false, false, false, false, false, false, false, false, false, false, false] rfl rfl (any_of HT_.out (by kernel_rfl)) (fun _ _ _ h => h) (Or.inl ⟨by rfl, ?_⟩) ?_ ?_
        rotate_left
        · intro w'
          go_simp
          with_reducible rfl
        rotate_left
        · simp only [Act.put, List.setIfInBounds_toArray, List.set_cons_zero, List.set_cons_succ, i64_w, i32_w]
          rfl
        refine pure_ (i := 3) (N := some 46) (v := ?_) (a' := ?_) #[true, true, true, true, false, false, false, false, false, false, false, false, false, false, false, false] rfl rfl (any_of HT_.out (by kernel_rfl)) (fun _ _ _ h => h) (Or.inl ⟨by rfl, ?_⟩) ?_ ?_
        rotate_left
        · intro w'
          go_simp
          with_reducible rfl
        rotate_left
        · simp only [Act.put, List.setIfInBounds_toArray, List.set_cons_zero, List.set_cons_succ, i64_w, i32_w]
          rfl
        refine pure_ (i := 4) (N := some 47) (v := ?_) (a' := ?_) #[true, true, true, true, true, false, false, false, false, false, false, false, false, false, false, false] rfl rfl (any_of HT_.out (by kernel_rfl)) (fun _ _ _ h => h) (Or.inl ⟨by rfl, ?_⟩) ?_ ?_
        rotate_left
        · intro w'
          go_simp
          with_reducible rfl
        rotate_left
        · simp only [Act.put, List.setIfInBounds_toArray, List.set_cons_zero, List.set_cons_succ, i64_w, i32_w]
          rfl
        refine pure_ (i := 5) (N := some 48) (v := ?_) (a' := ?_) #[true, true, true, true, true, true, false, false, false, false, false, false, false, false, false, false] rfl rfl (any_of HT_.out (by kernel_rfl)) (fun _ _ _ h => h) (Or.inl ⟨by rfl, ?_⟩) ?_ ?_
        rotate_left
        · intro w'
          go_simp
          with_reducible rfl
        rotate_left
        · simp only [Act.put, List.setIfInBounds_toArray, List.set_cons_zero, List.set_cons_succ, i64_w, i32_w]
          rfl
        refine pure_ (i := 6) (N := some 49) (v := ?_) (a' := ?_) #[true, true, true, true, true, true, true, false, false, false, false, false, false, false, false, false] rfl rfl (any_of HT_.out (by kernel_rfl)) (fun _ _ _ h => h) (Or.inl ⟨by rfl, ?_⟩) ?_ ?_
        rotate_left
        · intro w'
          go_simp
          with_reducible rfl
        rotate_left
        · simp only [Act.put, List.setIfInBounds_toArray, List.set_cons_zero, List.set_cons_succ, i64_w, i32_w]
          rfl
        refine pure_ (i := 8) (N := some 51) (v := ?_) (a' := ?_) #[true, true, true, true, true, true, true, false, true, false, false, false, false, false, false, false] rfl rfl (any_of HT_.out (by kernel_rfl)) (fun _ _ _ h => h) (Or.inl ⟨by rfl, ?_⟩) ?_ ?_
        rotate_left
        · intro w'
          go_simp
          with_reducible rfl
        rotate_left
        · simp only [Act.put, List.setIfInBounds_toArray, List.set_cons_zero, List.set_cons_succ, i64_w, i32_w]
          rfl
        refine pure_ (i := 9) (N := some 52) (v := ?_) (a' := ?_) #[true, true, true, true, true, true, true, false, true, true, false, false, false, false, false, false] rfl rfl (any_of HT_.out (by kernel_rfl)) (fun _ _ _ h => h) (Or.inl ⟨by rfl, ?_⟩) ?_ ?_
        rotate_left
        · intro w'
          go_simp
          with_reducible rfl
        rotate_left
        · simp only [Act.put, List.setIfInBounds_toArray, List.set_cons_zero, List.set_cons_succ, i64_w, i32_w]
          rfl
        refine pure_ (i := 10) (N := some 53) (v := ?_) (a' := ?_) #[true, true, true, true, true, true, true, false, true, true, true, false, false, false, false, false] rfl rfl (any_of HT_.out (by kernel_rfl)) (fun _ _ _ h => h) (Or.inl ⟨by rfl, ?_⟩) ?_ ?_
        rotate_left
        · intro w'
          go_simp
          with_reducible rfl
        rotate_left
        · simp only [Act.put, List.setIfInBounds_toArray, List.set_cons_zero, List.set_cons_succ, i64_w, i32_w]
          rfl
        refine take_ (i := 7) (N := some 50) (v := ?_) (a' := ?_) #[true, true, true, true, true, true, true, true, true, true, true, false, false, false, false, false] rfl rfl (take_ofW HT_.out HW_.out (by kernel_rfl)) (fun _ _ _ h => h) (Or.inl ⟨by rfl, ?_⟩) hHeld ?_ ?_
        rotate_left
        · rintro w' ⟨s0, s1, s2, s3, s4, s5⟩
          go_simp
          with_reducible rfl
        rotate_left
        · simp only [Act.put, List.setIfInBounds_toArray, List.set_cons_zero, List.set_cons_succ, i64_w, i32_w]
          rfl
        refine take_ (i := 11) (N := some 54) (v := ?_) (a' := ?_) #[true, true, true, true, true, true, true, true, true, true, true, true, false, false, false, false] rfl rfl (take_ofW HT_.out HW_.out (by kernel_rfl)) (fun _ _ _ h => h) (Or.inl ⟨by rfl, ?_⟩) hHeld ?_ ?_
        rotate_left
        · rintro w' ⟨s0, s1, s2, s3, s4, s5⟩
          go_simp
          with_reducible rfl
        rotate_left
        · simp only [Act.put, List.setIfInBounds_toArray, List.set_cons_zero, List.set_cons_succ, i64_w, i32_w]
          rfl
        refine pure_ (i := 12) (N := some 55) (v := ?_) (a' := ?_) #[true, true, true, true, true, true, true, true, true, true, true, true, true, false, false, false] rfl rfl (any_of HT_.out (by kernel_rfl)) (fun _ _ _ h => h) (Or.inl ⟨by rfl, ?_⟩) ?_ ?_
        rotate_left
        · intro w'
          go_simp
          with_reducible rfl
        rotate_left
        · simp only [Act.put, List.setIfInBounds_toArray, List.set_cons_zero, List.set_cons_succ, i64_w, i32_w]
          rfl
        refine last_ (i := 13) (N := none) #[true, true, true, true, true, true, true, true, true, true, true, true, true, true, false, false] rfl rfl (one_of HT_.out (by kernel_rfl)) (by decide) (fun K hK => ?_)
        refine skip_ (w1 := ?_) (by rfl) rfl ?_ ?_
        rotate_left
        · go_simp
          rfl
        refine hK.out _ _ ?_
        clear hK K
        have hz20_0 : World.cell? (((w21.setCell ⟨go19, (x29_1 : Int).toNat * 3, none⟩ (.int .i64 ((rd_T36 x7_1 t266).f0))).setCell ⟨go19, (x29_1 : Int).toNat * 3 + 1, none⟩ (.int .i64 ((rd_T36 x7_1 t266).f1))).setCell ⟨go19, (x29_1 : Int).toNat * 3 + 2, none⟩ (.int .i64 ((rd_T36 x7_1 t266).f2))) ⟨go19, (t266 : Int).toNat * 3, none⟩ = some (.int .i64 ((rd_T36 y269 t266).f0)) := hx20_0
        have hz20_1 : World.cell? (((w21.setCell ⟨go19, (x29_1 : Int).toNat * 3, none⟩ (.int .i64 ((rd_T36 x7_1 t266).f0))).setCell ⟨go19, (x29_1 : Int).toNat * 3 + 1, none⟩ (.int .i64 ((rd_T36 x7_1 t266).f1))).setCell ⟨go19, (x29_1 : Int).toNat * 3 + 2, none⟩ (.int .i64 ((rd_T36 x7_1 t266).f2))) ⟨go19, (t266 : Int).toNat * 3 + 1, none⟩ = some (.int .i64 ((rd_T36 y269 t266).f1)) := hx20_1
        have hz20_2 : World.cell? (((w21.setCell ⟨go19, (x29_1 : Int).toNat * 3, none⟩ (.int .i64 ((rd_T36 x7_1 t266).f0))).setCell ⟨go19, (x29_1 : Int).toNat * 3 + 1, none⟩ (.int .i64 ((rd_T36 x7_1 t266).f1))).setCell ⟨go19, (x29_1 : Int).toNat * 3 + 2, none⟩ (.int .i64 ((rd_T36 x7_1 t266).f2))) ⟨go19, (t266 : Int).toNat * 3 + 2, none⟩ = some (.int .i64 ((rd_T36 y269 t266).f2)) := hx20_2
        have hg20_0 : World.frozen? (((w21.setCell ⟨go19, (x29_1 : Int).toNat * 3, none⟩ (.int .i64 ((rd_T36 x7_1 t266).f0))).setCell ⟨go19, (x29_1 : Int).toNat * 3 + 1, none⟩ (.int .i64 ((rd_T36 x7_1 t266).f1))).setCell ⟨go19, (x29_1 : Int).toNat * 3 + 2, none⟩ (.int .i64 ((rd_T36 x7_1 t266).f2))) ⟨go19, (t266 : Int).toNat * 3, none⟩ = false := hf20_0
        have hg20_1 : World.frozen? (((w21.setCell ⟨go19, (x29_1 : Int).toNat * 3, none⟩ (.int .i64 ((rd_T36 x7_1 t266).f0))).setCell ⟨go19, (x29_1 : Int).toNat * 3 + 1, none⟩ (.int .i64 ((rd_T36 x7_1 t266).f1))).setCell ⟨go19, (x29_1 : Int).toNat * 3 + 2, none⟩ (.int .i64 ((rd_T36 x7_1 t266).f2))) ⟨go19, (t266 : Int).toNat * 3 + 1, none⟩ = false := hf20_1
        have hg20_2 : World.frozen? (((w21.setCell ⟨go19, (x29_1 : Int).toNat * 3, none⟩ (.int .i64 ((rd_T36 x7_1 t266).f0))).setCell ⟨go19, (x29_1 : Int).toNat * 3 + 1, none⟩ (.int .i64 ((rd_T36 x7_1 t266).f1))).setCell ⟨go19, (x29_1 : Int).toNat * 3 + 2, none⟩ (.int .i64 ((rd_T36 x7_1 t266).f2))) ⟨go19, (t266 : Int).toNat * 3 + 2, none⟩ = false := hf20_2
        have HB22 : Aside0 (Below w.heap.size w (((w21.setCell ⟨go19, (x29_1 : Int).toNat * 3, none⟩ (.int .i64 ((rd_T36 x7_1 t266).f0))).setCell ⟨go19, (x29_1 : Int).toNat * 3 + 1, none⟩ (.int .i64 ((rd_T36 x7_1 t266).f1))).setCell ⟨go19, (x29_1 : Int).toNat * 3 + 2, none⟩ (.int .i64 ((rd_T36 x7_1 t266).f2)))) := ⟨below_set (below_set (below_set HB.out GB19.out) GB19.out) GB19.out⟩
        have HQ24 : Aside0 (Kd.R k36 36 ((((((w21.setCell ⟨go19, (x29_1 : Int).toNat * 3, none⟩ (.int .i64 ((rd_T36 x7_1 t266).f0))).setCell ⟨go19, (x29_1 : Int).toNat * 3 + 1, none⟩ (.int .i64 ((rd_T36 x7_1 t266).f1))).setCell ⟨go19, (x29_1 : Int).toNat * 3 + 2, none⟩ (.int .i64 ((rd_T36 x7_1 t266).f2))).setCell ⟨go19, (t266 : Int).toNat * 3, none⟩ (.int .i64 ((rd_T36 x7_1 x29_1).f0))).setCell ⟨go19, (t266 : Int).toNat * 3 + 1, none⟩ (.int .i64 ((rd_T36 x7_1 x29_1).f1))).setCell ⟨go19, (t266 : Int).toNat * 3 + 2, none⟩ (.int .i64 ((rd_T36 x7_1 x29_1).f2))) w.heap.size (fun _ => True) (.slice (some ⟨go19, 0, none⟩) x7_1.length co11) y270) := HQ23
        clear hx20_0 hx20_1 hx20_2 hf20_0 hf20_1 hf20_2 HQ22 HQ23 HB HO_7 hx19_0 hx19_1 hx19_2 hf19_0 hf19_1 hf19_2
        generalize (((w21.setCell ⟨go19, (x29_1 : Int).toNat * 3, none⟩ (.int .i64 ((rd_T36 x7_1 t266).f0))).setCell ⟨go19, (x29_1 : Int).toNat * 3 + 1, none⟩ (.int .i64 ((rd_T36 x7_1 t266).f1))).setCell ⟨go19, (x29_1 : Int).toNat * 3 + 2, none⟩ (.int .i64 ((rd_T36 x7_1 t266).f2))) = w22 at hz20_0 hz20_1 hz20_2 hg20_0 hg20_1 hg20_2 HB22 HQ24 ⊢
        refine pure_ (i := 14) (N := some 56) (v := ?_) (a' := ?_) #[true, true, true, true, true, true, true, true, true, true, true, true, true, true, true, false] rfl rfl (any_of HT_.out (by kernel_rfl)) (fun _ _ _ h => h) (Or.inl ⟨by rfl, ?_⟩) ?_ ?_
        rotate_left
        · intro w'
          go_simp
          with_reducible rfl
        rotate_left
        · simp only [Act.put, List.setIfInBounds_toArray, List.set_cons_zero, List.set_cons_succ, i64_w, i32_w]
          rfl
        refine last_ (i := 15) (N := none) #[true, true, true, true, true, true, true, true, true, true, true, true, true, true, true, true] rfl rfl (one_of HT_.out (by kernel_rfl)) (by decide) (fun K hK => ?_)
        refine skip_ (w1 := ?_) (by rfl) rfl ?_ ?_
        rotate_left
        · go_simp
          rfl
        refine hK.out _ _ ?_
        clear hK K
        refine done_ (done_of HT_.out (by kernel_rfl)) ?_
        try go_wp2
        (try simp only [← hl7_1])
        go_roundg k1
        case measure => omega
        case rel => exact ⟨y270, x29_1 + 1, by have h_ := HI.out; first | rfl | (congr 1; unfold wrap64; omega), ⟨by have h_ := HI.out; omega⟩, HYS, ⟨by (try simp only [hl7_1]); (with_reducible repeat (first | apply Kd.R_alloc | apply Kd.R_drewN | apply Kd.R_drew)); exact HQ24.out⟩, ⟨by repeat (first | (with_reducible first | exact HB22.out | apply below_alloc | apply pw_below_drewN | apply below_drew1 | refine below_set ?_ GB19.out) | exact HB22.out)⟩⟩
      · have c13b0 : decide (x29_1 < (l1.length : Int)) = false := decide_eq_false c13
        go_wp2
        (try simp only [← hl7_1])
        go_roundg k1
        case measure => omega
        case rel => exact ⟨x7_1, x29_1 + 1, by first | rfl | (congr 1; unfold wrap64; omega), ⟨by omega⟩, HX, ⟨by rw [hl7_1]; exact HO_7.out⟩, HB⟩
    · have c12b0 : decide (x29_1 < (x7_1.length : Int)) = false := decide_eq_false (by omega)
      have hC7 := (Kd.R_reads' HO_7.out).2
      have HC7 := Aside0.mk hC7
      clear hC7 HO_7
      obtain ⟨t271, A24', u0, u1⟩ := among_ok a2 ((l0.length : Int) + 1) (by omega) (by omega)
      have A24 := Aside0.mk A24'
      clear A24'
      have c25b0 := eq_true u0
      have c25b1 : decide (0 ≤ t271) = true := decide_eq_true u0
      have c26b0 := eq_true (show t271 ≤ (l0.length : Int) by omega)
      have c26b1 : decide (t271 ≤ (l0.length : Int)) = true := decide_eq_true (by omega)
      obtain ⟨y272, hy272⟩ : ∃ y_ : List (S36), y_ = (l0.take (t271 : Int).toNat) := ⟨_, rfl⟩
      have Ny272 := Aside0.mk hy272
      obtain ⟨y279, hy279⟩ : ∃ y_ : List (S36), y_ = (l0.drop (t271 : Int).toNat) := ⟨_, rfl⟩
      have Ny279 := Aside0.mk hy279
      have hlA : y272.length ≤ l0.length := by rw [hy272, List.length_take]; omega
      have hlB : y272.length + y279.length = l0.length := by rw [hy272, hy279, ← List.length_append, List.take_append_drop]
      have hsa := srt_length y272
      have hsb := srt_length y279
      have hsw := srt_length l0
      have HSA := Aside0.mk (sort_ok y272 (by omega))
      have HSB := Aside0.mk (sort_ok y279 (by omega))
      have HSW := Aside0.mk (sort_ok l0 (by omega))
      have HPM := Aside0.mk (show ∀ x, x ∈ srt y272 ++ srt y279 ↔ x ∈ l0 by
        intro x
        rw [List.mem_append, (srt_sorted _).2, (srt_sorted _).2, ← List.mem_append, hy272, hy279, List.take_append_drop])
      have HLB := Aside0.mk hlB
      clear hy272 hy279 hlB
      generalize srt y272 = sa at *
      generalize srt y279 = sb at *
      have HTM := Aside0.mk (show srt x7_1 = srt l0 from sorted_uniq _ _ (srt_sorted _).1 (srt_sorted _).1 (fun x => by rw [(srt_sorted _).2, (srt_sorted _).2]; exact HX.out.2 x))
      have HPS := Aside0.mk (show srt (sa ++ sb) = srt l0 from sorted_uniq _ _ (srt_sorted _).1 (srt_sorted _).1 (fun x => by rw [(srt_sorted _).2, (srt_sorted _).2]; exact HPM.out x))
      have HW1 := Aside0.mk (srt_sorted l0)
      generalize srt l0 = want at *
      have hl8 : sa.length + sb.length ≤ 2000000 := by have := HLB.out; omega
      go_wp2_with (go_at_call 26; refine (scholiastlaw20_among.calls a2 ((l0.length : Int) + 1) t271 _ A24.out).mono ?_; rintro e w' ⟨rfl, ⟨nd, rfl⟩⟩)
      (try rw [drewN_self wr])
      generalize hq_ : World.drewN wr _ = w5
      have HB5 : Aside0 (Below w.heap.size w w5) := ⟨by rw [← hq_]; exact pw_below_drewN HB.out _⟩
      have HC5 : Aside0 (x7_1.length ≤ co11 ∧ Kd.C k36 w5 Ao11 x7_1.length x7_1) := ⟨by rw [← hq_]; exact ⟨HC7.out.1, Kd.C_drewN HC7.out.2 _⟩⟩
      clear HB HC7 hq_
      have q34 : (t271 : Int) ≤ ((l0.length : Int) : Int) := of_decide_eq_true (by first | (with_reducible assumption) | assumption)
      obtain ⟨i034, hi034, _, hsz34, _⟩ := info_parts info36
      have hroom34 : l0.length ≤ c0 := HC0.out
      have hC34 : Kd.C k36 _ A0 l0.length l0 := HR0.out
      have hcut34 := cut_to (P := Tryd.prog) 23 36 .i64 Tryd.underlying23 hi034 A0 l0.length c0 t271 (of_decide_eq_true (by first | (with_reducible assumption) | assumption)) q34 hroom34
      have hr34 := Kd.C_take (m := (t271 : Int).toNat) hC34 (by omega)
      have hy34 : y272.length = (t271 : Int).toNat := (by rw [Ny272.out, List.length_take]; omega)
      rw [← Ny272.out] at hr34
      rw [← hy34] at hcut34
      have HR275 := Aside0.mk hr34
      have HC275 := Aside0.mk (show y272.length ≤ c0 from by omega)
      clear hr34 hC34 hroom34 hi034 hsz34
      have KY34 := Aside0.mk hy34
      clear hy34
      replace q34 := eq_true q34
      have q35 : (t271 : Int) ≤ ((l0.length : Int) : Int) := of_decide_eq_true (by first | (with_reducible assumption) | assumption)
      obtain ⟨i035, hi035, _, hsz35, _⟩ := info_parts info36
      have hroom35 : l0.length ≤ c0 := HC0.out
      have hC35 : Kd.C k36 _ A0 l0.length l0 := HR0.out
      have q035 : (0 : Int) ≤ (t271 : Int) := of_decide_eq_true (by first | (with_reducible assumption) | assumption)
      have hcut35 := cut_from (P := Tryd.prog) 23 36 .i64 Tryd.underlying23 hi035 3 hsz35 A0 l0.length c0 t271 q035 q35
      have hr35 := Kd.C_drop (m := (t271 : Int).toNat) (c := c0) hC35 (by omega) hroom35
      obtain ⟨A35, hA35⟩ : ∃ A1, A1 = (if c0 = (t271 : Int).toNat then A0 else (A0 : Option Addr).map (·.add ((t271 : Int).toNat * 3))) := ⟨_, rfl⟩
      obtain ⟨c35, hc35⟩ : ∃ cz_, cz_ = c0 - (t271 : Int).toNat := ⟨_, rfl⟩
      have hy35 : y279.length = l0.length - (t271 : Int).toNat := (by rw [Ny279.out, List.length_drop] <;> omega)
      rw [show (l0).drop (t271 : Int).toNat = y279 from Ny279.out.symm] at hr35
      replace hr35 : Kd.C k36 _ A35 y279.length y279 := (by rw [hA35]; exact hr35)
      rw [← hy35, ← hA35, ← hc35] at hcut35
      have HR282 := Aside0.mk hr35
      have HC282 := Aside0.mk (show y279.length ≤ c35 from by rw [hy35, hc35]; exact Nat.sub_le_sub_right hroom35 _)
      clear hr35 hC35 hroom35 hi035 hsz35 hc35
      have KY35 := Aside0.mk hy35
      have KA35 := Aside0.mk hA35
      clear hy35 hA35
      refine start_ (n := 10) (S := fun w' => True) (ds := []) #[false, false, false, false, false, false, false, false, false, false] (by kernel_rfl) rfl rfl trivial (fun hHeld => ?_); refine with_tabW scholiastlaw20_DiagOrder.tab12 scholiastlaw20_DiagOrder.bits12 (fun HT_ HW_ => ?_)
      refine pure_ (i := 0) (N := some 63) (v := ?_) (a' := ?_) #[true, false, false, false, false, false, false, false, false, false] rfl rfl (any_of HT_.out (by kernel_rfl)) (fun _ _ _ h => h) (Or.inl ⟨by rfl, ?_⟩) ?_ ?_
      rotate_left
      · intro w'
        go_simp
        with_reducible rfl
      rotate_left
      · simp only [Act.put, List.setIfInBounds_toArray, List.set_cons_zero, List.set_cons_succ, i64_w, i32_w]
        rfl
      refine pure_ (i := 1) (N := some 64) (v := ?_) (a' := ?_) #[true, true, false, false, false, false, false, false, false, false] rfl rfl (any_of HT_.out (by kernel_rfl)) (fun _ _ _ h => h) (Or.inl ⟨by rfl, ?_⟩) ?_ ?_
      rotate_left
      · intro w'
        go_simp
        with_reducible rfl
      rotate_left
      · simp only [Act.put, List.setIfInBounds_toArray, List.set_cons_zero, List.set_cons_succ, i64_w, i32_w]
        rfl
      refine pure_ (i := 2) (N := some 65) (v := ?_) (a' := ?_) #[true, true, true, false, false, false, false, false, false, false] rfl rfl (any_of HT_.out (by kernel_rfl)) (fun _ _ _ h => h) (Or.inl ⟨by rfl, ?_⟩) ?_ ?_
      rotate_left
      · intro w'
        go_simp
        with_reducible rfl
      rotate_left
      · simp only [Act.put, List.setIfInBounds_toArray, List.set_cons_zero, List.set_cons_succ, i64_w, i32_w]
        rfl
      refine pure_ (i := 4) (N := some 67) (v := ?_) (a' := ?_) #[true, true, true, false, true, false, false, false, false, false] rfl rfl (any_of HT_.out (by kernel_rfl)) (fun _ _ _ h => h) (Or.inl ⟨by rfl, ?_⟩) ?_ ?_
      rotate_left
      · intro w'
        go_simp
        with_reducible rfl
      rotate_left
      · simp only [Act.put, List.setIfInBounds_toArray, List.set_cons_zero, List.set_cons_succ, i64_w, i32_w]
        rfl
      refine pure_ (i := 5) (N := some 68) (v := ?_) (a' := ?_) #[true, true, true, false, true, true, false, false, false, false] rfl rfl (any_of HT_.out (by kernel_rfl)) (fun _ _ _ h => h) (Or.inl ⟨by rfl, ?_⟩) ?_ ?_
      rotate_left
      · intro w'
        go_simp
        with_reducible rfl
      rotate_left
      · simp only [Act.put, List.setIfInBounds_toArray, List.set_cons_zero, List.set_cons_succ, i64_w, i32_w]
        rfl
      refine pure_ (i := 6) (N := some 69) (v := ?_) (a' := ?_) #[true, true, true, false, true, true, true, false, false, false] rfl rfl (any_of HT_.out (by kernel_rfl)) (fun _ _ _ h => h) (Or.inl ⟨by rfl, ?_⟩) ?_ ?_
      rotate_left
      · intro w'
        go_simp
        with_reducible rfl
      rotate_left
      · simp only [Act.put, List.setIfInBounds_toArray, List.set_cons_zero, List.set_cons_succ, i64_w, i32_w]
        rfl
      refine one_ (i := 3) (N := some 66) #[true, true, true, true, true, true, true, false, false, false] rfl rfl (one_of HT_.out (by kernel_rfl)) (by decide) (fun K hK => ?_)
      refine goes_ Tryd.func21 (by kernel_rfl) rfl #[.slice A0 y272.length c0] (by rfl) rfl rfl (by (try simp only [List.map_toArray, List.map_cons, List.map_nil]); first | done | rfl | (simp only [List.length_drop, List.length_take]; rfl)) ?_
      refine (diag_Sort.calls A0 c0 y272 sa _ (Kd.C_below HR275.out (below_drew1 HB5.out)) HC275.out HSA.out).mono ?_
      rintro e w6 ⟨va, rfl, hR, hB⟩
      refine ⟨_, rfl, ?_⟩
      have HRA := Aside0.mk hR
      have HB6 : Aside0 (Below w5.heap.size w5 w6) := ⟨⟨hB.os, hB.tape, hB.output, hB.size, hB.block⟩⟩
      clear hR hB
      refine hK.out _ _ trivial (fun hHeld => ?_)
      clear hK K
      refine norm_ (a' := ?_) ?_ ?_
      rotate_left
      · show Act.put _ (some 66) _ = _
        simp only [Act.put, List.setIfInBounds_toArray, List.set_cons_zero, List.set_cons_succ, i64_w, i32_w]
        rfl
      refine one_ (i := 7) (N := some 70) #[true, true, true, true, true, true, true, true, false, false] rfl rfl (one_of HT_.out (by kernel_rfl)) (by decide) (fun K hK => ?_)
      refine goes_ Tryd.func21 (by kernel_rfl) rfl #[.slice A35 y279.length c35] (by rfl) rfl rfl (by (try simp only [List.map_toArray, List.map_cons, List.map_nil]); first | done | rfl | (simp only [List.length_drop, List.length_take]; rfl)) ?_
      refine (diag_Sort.calls A35 c35 y279 sb _ (Kd.C_below HR282.out (below_then HB5.out HB5.out.size HB6.out)) HC282.out HSB.out).mono ?_
      rintro e w7 ⟨vb, rfl, hR, hB⟩
      refine ⟨_, rfl, ?_⟩
      obtain ⟨Ab, cb, rfl⟩ := Kd.R_slice hR
      have HCB := Aside0.mk (Kd.R_reads' hR).2
      have HB7 := Aside0.mk (below_then HB6.out HB6.out.size hB)
      have HRA7 := Aside0.mk (Kd.R_below HRA.out hB)
      clear hR hB
      refine hK.out _ _ trivial (fun hHeld => ?_)
      clear hK K
      refine norm_ (a' := ?_) ?_ ?_
      rotate_left
      · show Act.put _ (some 70) _ = _
        simp only [Act.put, List.setIfInBounds_toArray, List.set_cons_zero, List.set_cons_succ, i64_w, i32_w]
        rfl
      refine one_ (i := 8) (N := some 71) #[true, true, true, true, true, true, true, true, true, false] rfl rfl (one_of HT_.out (by kernel_rfl)) (by decide) (fun K hK => ?_)
      refine Kd.R_append_rows_step k36 (w0 := w5) w5.heap.size (by rfl) (.tmp 66) (.tmp 70) 23 36 (.agg #[(.int .i64 0), (.int .i64 0), (.int .i64 0)]) 24 rfl Tryd.underlying23 info36 rfl (by decide) (by omega) va sa sb _ _ _ (fun _ => True) (fun _ => False) rfl rfl ?aO ?aR (fun _ _ h => h) (fun _ h => h.elim) ?aF ?aB ?aS ?aL ?_
      (case aR => exact HCB.out.2)
      (case aB => exact HB7.out)
      (case aF => exact (fun _ _ => trivial))
      (case aO => exact HRA7.out)
      (case aS => exact (below_size HB7.out))
      (case aL => omega)
      intro vp w8 ho hb hg hat
      have HRP := Aside0.mk ho
      clear HB7
      have HB7 := Aside0.mk hb
      clear ho hb hg hat
      refine hK.out _ _ trivial (fun hHeld => ?_)
      clear hK K
      refine norm_ (a' := ?_) ?_ ?_
      rotate_left
      · show Act.put _ (some 71) _ = _
        simp only [Act.put, List.setIfInBounds_toArray, List.set_cons_zero, List.set_cons_succ, i64_w, i32_w]
        rfl
      refine pure_ (i := 9) (N := some 11) (v := ?_) (a' := ?_) #[true, true, true, true, true, true, true, true, true, true] rfl rfl (any_of HT_.out (by kernel_rfl)) (fun _ _ _ h => h) (Or.inl ⟨by rfl, ?_⟩) ?_ ?_
      rotate_left
      · intro w'
        go_simp
        with_reducible rfl
      rotate_left
      · simp only [Act.put, List.setIfInBounds_toArray, List.set_cons_zero, List.set_cons_succ, i64_w, i32_w]
        rfl
      refine done_ (done_of HT_.out (by kernel_rfl)) ?_
      have HB8 := HB7
      clear HB7
      obtain ⟨Ap, cp, rfl⟩ := Kd.R_slice HRP.out
      have HCP := Aside0.mk (Kd.R_reads' HRP.out).2
      clear HRA7 HCB HRP HRA
      go_upto_region 14 with (go_at_call 21; refine (diag_Sort.calls A0 c0 l0 want _ (Kd.C_below HR0.out (below_then HB5.out HB5.out.size HB8.out)) HC0.out HSW.out).mono ?_; rintro e w9 ⟨vw, rfl, hR, hB⟩; obtain ⟨Aw, cw, rfl⟩ := Kd.R_slice hR; have HCW := Aside0.mk (Kd.R_reads' hR).2; have HB9 := Aside0.mk (below_then HB8.out HB8.out.size hB); have HCP9 := Aside0.mk (Kd.C_below HCP.out.2 hB); clear hR hB)
      have HW9 := Aside0.mk (below_then HB5.out HB5.out.size HB9.out)
      obtain ⟨ks, hks⟩ := same_reflS want (by omega)
      have HKS := Aside0.mk hks
      have HT9 := Aside0.mk (Kd.C_below HC5.out.2 HB9.out)
      have HTC := Aside0.mk HC5.out.1
      have HTL := Aside0.mk (show x7_1.length ≤ 4000000 by omega)
      clear HB5 HB8 hks HC5
      go_wp2
      go_loopg [13] (want.length + 2) (fun kq v13 w' => ∃ (j : Int), v13 = .int .i64 j ∧ Aside0 (1 ≤ j ∧ j ≤ (want.length : Int) + 1 ∧ (want.length : Int) + 1 - j < kq) ∧ Aside0 (Below w9.heap.size w9 w'))
      case atStart => exact ⟨1, rfl, ⟨by omega⟩, ⟨Below.refl _ _⟩⟩
      case round =>
        obtain ⟨j, rfl, HJ, HBj⟩ := hrel
        obtain ⟨k2, rfl⟩ : ∃ k2, gk = k2 + 1 := ⟨gk - 1, by have := HJ.out; omega⟩
        by_cases c41 : j < (want.length : Int)
        · have c41b := decide_eq_true c41
          obtain ⟨j0, j1, j2⟩ := HJ.out
          have HLT := Aside0.mk (pair_rd want j HW1.out.1 j0 c41)
          obtain ⟨ad, ead, hx0, hx1, hx2⟩ := at_T36 HCW.out.2 (j - 1) (by omega) (by omega)
          obtain ⟨ad', ead', hy0, hy1, hy2⟩ := at_T36 HCW.out.2 j (by omega) c41
          subst ead
          obtain rfl : ad = ad' := by injection ead'
          rw [show (j - 1).toNat = j.toNat - 1 by omega] at hx0 hx1 hx2
          have p1 := eq_true (show (0 : Int) ≤ j - 1 by omega)
          have p2 := eq_true (show j - 1 < (want.length : Int) by omega)
          have p3 := eq_true (show (0 : Int) ≤ j by omega)
          have p4 := eq_true c41
          have p5 := eq_true (show (1 : Int) ≤ j by omega)
          have p6 : IntKind.i64.wrap (j - 1) = j - 1 := IntWalk.i64_in _ ⟨by omega, by omega⟩
          generalize rd_T36 want (j - 1) = xa at hx0 hx1 hx2 HLT
          generalize rd_T36 want j = xb at hy0 hy1 hy2 HLT
          go_wp2
          refine start_ (n := 13) (S := fun w' => Below w9.heap.size w9 w') (ds := []) #[false, false, false, false, false, false, false, false, false, false, false, false, false] (by kernel_rfl) rfl rfl (below_drew1 HBj.out) (fun hHeld => ?_); refine with_tabW scholiastlaw20_DiagOrder.tab17 scholiastlaw20_DiagOrder.bits17 (fun HT_ HW_ => ?_)
          refine pure_ (i := 0) (N := some 80) (v := ?_) (a' := ?_) #[true, false, false, false, false, false, false, false, false, false, false, false, false] rfl rfl (any_of HT_.out (by kernel_rfl)) (fun _ _ _ h => h) (Or.inl ⟨by rfl, ?_⟩) ?_ ?_
          rotate_left
          · intro w'
            go_simp
            with_reducible rfl
          rotate_left
          · simp only [Act.put, List.setIfInBounds_toArray, List.set_cons_zero, List.set_cons_succ, i64_w, i32_w]
            rfl
          refine pure_ (i := 1) (N := some 81) (v := ?_) (a' := ?_) #[true, true, false, false, false, false, false, false, false, false, false, false, false] rfl rfl (any_of HT_.out (by kernel_rfl)) (fun _ _ _ h => h) (Or.inl ⟨by rfl, ?_⟩) ?_ ?_
          rotate_left
          · intro w'
            go_simp
            with_reducible rfl
          rotate_left
          · simp only [Act.put, List.setIfInBounds_toArray, List.set_cons_zero, List.set_cons_succ, i64_w, i32_w]
            rfl
          refine pure_ (i := 2) (N := some 82) (v := ?_) (a' := ?_) #[true, true, true, false, false, false, false, false, false, false, false, false, false] rfl rfl (any_of HT_.out (by kernel_rfl)) (fun _ _ _ h => h) (Or.inl ⟨by rfl, ?_⟩) ?_ ?_
          rotate_left
          · intro w'
            go_simp
            with_reducible rfl
          rotate_left
          · simp only [Act.put, List.setIfInBounds_toArray, List.set_cons_zero, List.set_cons_succ, i64_w, i32_w]
            rfl
          refine pure_ (i := 3) (N := some 83) (v := ?_) (a' := ?_) #[true, true, true, true, false, false, false, false, false, false, false, false, false] rfl rfl (any_of HT_.out (by kernel_rfl)) (fun _ _ _ h => h) (Or.inl ⟨by rfl, ?_⟩) ?_ ?_
          rotate_left
          · intro w'
            go_simp
            with_reducible rfl
          rotate_left
          · simp only [Act.put, List.setIfInBounds_toArray, List.set_cons_zero, List.set_cons_succ, i64_w, i32_w]
            rfl
          refine pure_ (i := 5) (N := some 85) (v := ?_) (a' := ?_) #[true, true, true, true, false, true, false, false, false, false, false, false, false] rfl rfl (any_of HT_.out (by kernel_rfl)) (fun _ _ _ h => h) (Or.inl ⟨by rfl, ?_⟩) ?_ ?_
          rotate_left
          · intro w'
            go_simp
            with_reducible rfl
          rotate_left
          · simp only [Act.put, List.setIfInBounds_toArray, List.set_cons_zero, List.set_cons_succ, i64_w, i32_w]
            rfl
          refine pure_ (i := 6) (N := some 86) (v := ?_) (a' := ?_) #[true, true, true, true, false, true, true, false, false, false, false, false, false] rfl rfl (any_of HT_.out (by kernel_rfl)) (fun _ _ _ h => h) (Or.inl ⟨by rfl, ?_⟩) ?_ ?_
          rotate_left
          · intro w'
            go_simp
            with_reducible rfl
          rotate_left
          · simp only [Act.put, List.setIfInBounds_toArray, List.set_cons_zero, List.set_cons_succ, i64_w, i32_w]
            rfl
          refine pure_ (i := 7) (N := some 87) (v := ?_) (a' := ?_) #[true, true, true, true, false, true, true, true, false, false, false, false, false] rfl rfl (any_of HT_.out (by kernel_rfl)) (fun _ _ _ h => h) (Or.inl ⟨by rfl, ?_⟩) ?_ ?_
          rotate_left
          · intro w'
            go_simp
            with_reducible rfl
          rotate_left
          · simp only [Act.put, List.setIfInBounds_toArray, List.set_cons_zero, List.set_cons_succ, i64_w, i32_w]
            rfl
          refine take_ (i := 4) (N := some 84) (v := ?_) (a' := ?_) #[true, true, true, true, true, true, true, true, false, false, false, false, false] rfl rfl (take_ofW HT_.out HW_.out (by kernel_rfl)) (fun _ _ _ h => h) (Or.inl ⟨by rfl, ?_⟩) hHeld ?_ ?_
          rotate_left
          · intro w' hS_
            have s0 := pw_cell_below hS_ hx0
            have s1 := pw_cell_below hS_ hx1
            have s2 := pw_cell_below hS_ hx2
            have s3 := pw_cell_below hS_ hy0
            have s4 := pw_cell_below hS_ hy1
            have s5 := pw_cell_below hS_ hy2
            go_simp
            with_reducible rfl
          rotate_left
          · simp only [Act.put, List.setIfInBounds_toArray, List.set_cons_zero, List.set_cons_succ, i64_w, i32_w]
            rfl
          refine take_ (i := 8) (N := some 88) (v := ?_) (a' := ?_) #[true, true, true, true, true, true, true, true, true, false, false, false, false] rfl rfl (take_ofW HT_.out HW_.out (by kernel_rfl)) (fun _ _ _ h => h) (Or.inl ⟨by rfl, ?_⟩) hHeld ?_ ?_
          rotate_left
          · intro w' hS_
            have s0 := pw_cell_below hS_ hx0
            have s1 := pw_cell_below hS_ hx1
            have s2 := pw_cell_below hS_ hx2
            have s3 := pw_cell_below hS_ hy0
            have s4 := pw_cell_below hS_ hy1
            have s5 := pw_cell_below hS_ hy2
            go_simp
            with_reducible rfl
          rotate_left
          · simp only [Act.put, List.setIfInBounds_toArray, List.set_cons_zero, List.set_cons_succ, i64_w, i32_w]
            rfl
          clear hx0 hx1 hx2 hy0 hy1 hy2
          refine two_ (i := 9) (j := 10) (Ni := some 14) (Nj := some 15) #[true, true, true, true, true, true, true, true, true, true, false, false, false] #[true, true, true, true, true, true, true, true, true, false, true, false, false] rfl rfl rfl rfl (two_of HT_.out (by kernel_rfl)) (by decide) (by decide) (fun K hK => ?_) (fun K hK => ?_)
          · refine box_step ?hg (N := 14) ?hd (cs := #[.int .i64 0, .int .i64 0, .int .i64 0]) (t := 36) ?hr ?_; (case hd => rfl); (case hg => rfl); (case hr => first | (go_simp; done) | (go_simp; rfl))
            intro gA hg w10 hbox hb
            have BKgA := Aside0.mk hbox
            have GEgA := Aside0.mk ((by rw [hg]; exact hHeld.size) : w9.heap.size ≤ gA)
            refine hK.out _ _ (below_step hHeld hb) (fun hHeld => ?_)
            clear hK K hg hbox hb
            refine norm_ (a' := ?_) ?_ ?_
            rotate_left
            · show Act.put _ (some 14) _ = _
              simp only [Act.put, List.setIfInBounds_toArray, List.set_cons_zero, List.set_cons_succ, i64_w, i32_w]
              rfl
            refine one_ (i := 10) (N := some 15) #[true, true, true, true, true, true, true, true, true, true, true, false, false] rfl rfl (one_of HT_.out (by kernel_rfl)) (by decide) (fun K hK => ?_)
            refine box_step ?hg (N := 15) ?hd (cs := #[.int .i64 0, .int .i64 0, .int .i64 0]) (t := 36) ?hr ?_; (case hd => rfl); (case hg => rfl); (case hr => first | (go_simp; done) | (go_simp; rfl))
            intro gB hg w11 hbox hb
            have BKgB := Aside0.mk hbox
            have GEgB := Aside0.mk ((by rw [hg]; exact hHeld.size) : w9.heap.size ≤ gB)
            have NEgB := Aside0.mk ((by rw [hg]; exact Nat.ne_of_lt (blk_lt BKgA.out)) : gA ≠ gB)
            have n0_ := Aside0.mk (blk_below BKgA.out hb)
            clear BKgA
            have BKgA := n0_
            clear n0_
            refine hK.out _ _ (below_step hHeld hb) (fun hHeld => ?_)
            clear hK K hg hbox hb
            refine norm_ (a' := ?_) ?_ ?_
            rotate_left
            · show Act.put _ (some 15) _ = _
              simp only [Act.put, List.setIfInBounds_toArray, List.set_cons_zero, List.set_cons_succ, i64_w, i32_w]
              rfl
            have NEQgB : Aside0 (gB ≠ gA) := ⟨fun e_ => NEgB.out e_.symm⟩
            have NEQgA := NEgB
            refine one_ (i := 11) (N := none) #[true, true, true, true, true, true, true, true, true, true, true, true, false] rfl rfl (one_of HT_.out (by kernel_rfl)) (by decide) (fun K hK => ?_)
            have hs0 : w11.cell? ⟨gA, 0, none⟩ = some (.int .i64 0) := (blk_cell BKgA.out 0).trans rfl
            have hs1 : w11.cell? ⟨gA, 1, none⟩ = some (.int .i64 0) := (blk_cell BKgA.out 1).trans rfl
            have hs2 : w11.cell? ⟨gA, 2, none⟩ = some (.int .i64 0) := (blk_cell BKgA.out 2).trans rfl
            have hf0 := blk_frozen BKgA.out 0
            have hf1 := blk_frozen BKgA.out 1
            have hf2 := blk_frozen BKgA.out 2
            refine skip_ (w1 := ?_) (by rfl) rfl ?_ ?_
            rotate_left
            · go_simp
              rfl
            refine hK.out _ _ (below_set (below_set (below_set hHeld GEgA.out) GEgA.out) GEgA.out) (fun hHeld => ?_)
            clear hK K hs0 hs1 hs2 hf0 hf1 hf2
            have n0_ : Aside0 ((((w11.setCell ⟨gA, 0, none⟩ (.int .i64 xa.f0)).setCell ⟨gA, 1, none⟩ (.int .i64 xa.f1)).setCell ⟨gA, 2, none⟩ (.int .i64 xa.f2)).heap[gA]? = some (.cells #[.int .i64 xa.f0, .int .i64 xa.f1, .int .i64 xa.f2] 36 (0, 0))) := ⟨blk_put (blk_put (blk_put BKgA.out 0 _ rfl) 1 _ rfl) 2 _ rfl⟩
            have n1_ := Aside0.mk (blk_far (p := ⟨gA, 2, none⟩) (blk_far (p := ⟨gA, 1, none⟩) (blk_far (p := ⟨gA, 0, none⟩) BKgB.out (NEQgB.out) (.int .i64 xa.f0)) (NEQgB.out) (.int .i64 xa.f1)) (NEQgB.out) (.int .i64 xa.f2))
            clear BKgA BKgB
            generalize (((w11.setCell ⟨gA, 0, none⟩ (.int .i64 xa.f0)).setCell ⟨gA, 1, none⟩ (.int .i64 xa.f1)).setCell ⟨gA, 2, none⟩ (.int .i64 xa.f2)) = w12 at n0_ n1_ hHeld ⊢
            have BKgA := n0_
            have BKgB := n1_
            clear n0_ n1_
            refine one_ (i := 12) (N := none) #[true, true, true, true, true, true, true, true, true, true, true, true, true] rfl rfl (one_of HT_.out (by kernel_rfl)) (by decide) (fun K hK => ?_)
            have hs0 : w12.cell? ⟨gB, 0, none⟩ = some (.int .i64 0) := (blk_cell BKgB.out 0).trans rfl
            have hs1 : w12.cell? ⟨gB, 1, none⟩ = some (.int .i64 0) := (blk_cell BKgB.out 1).trans rfl
            have hs2 : w12.cell? ⟨gB, 2, none⟩ = some (.int .i64 0) := (blk_cell BKgB.out 2).trans rfl
            have hf0 := blk_frozen BKgB.out 0
            have hf1 := blk_frozen BKgB.out 1
            have hf2 := blk_frozen BKgB.out 2
            refine skip_ (w1 := ?_) (by rfl) rfl ?_ ?_
            rotate_left
            · go_simp
              rfl
            refine hK.out _ _ (below_set (below_set (below_set hHeld GEgB.out) GEgB.out) GEgB.out) (fun hHeld => ?_)
            clear hK K hs0 hs1 hs2 hf0 hf1 hf2
            have n0_ : Aside0 ((((w12.setCell ⟨gB, 0, none⟩ (.int .i64 xb.f0)).setCell ⟨gB, 1, none⟩ (.int .i64 xb.f1)).setCell ⟨gB, 2, none⟩ (.int .i64 xb.f2)).heap[gB]? = some (.cells #[.int .i64 xb.f0, .int .i64 xb.f1, .int .i64 xb.f2] 36 (0, 0))) := ⟨blk_put (blk_put (blk_put BKgB.out 0 _ rfl) 1 _ rfl) 2 _ rfl⟩
            have n1_ := Aside0.mk (blk_far (p := ⟨gB, 2, none⟩) (blk_far (p := ⟨gB, 1, none⟩) (blk_far (p := ⟨gB, 0, none⟩) BKgA.out (NEQgA.out) (.int .i64 xb.f0)) (NEQgA.out) (.int .i64 xb.f1)) (NEQgA.out) (.int .i64 xb.f2))
            clear BKgB BKgA
            generalize (((w12.setCell ⟨gB, 0, none⟩ (.int .i64 xb.f0)).setCell ⟨gB, 1, none⟩ (.int .i64 xb.f1)).setCell ⟨gB, 2, none⟩ (.int .i64 xb.f2)) = w13 at n0_ n1_ hHeld ⊢
            have BKgB := n0_
            have BKgA := n1_
            clear n0_ n1_
            refine done_ (done_of HT_.out (by kernel_rfl)) ?_
            clear HT_ HW_
            have hk0 := (blk_cell BKgA.out 0).trans rfl
            have hk1 := (blk_cell BKgA.out 1).trans rfl
            have hk2 := (blk_cell BKgA.out 2).trans rfl
            have hm0 := (blk_cell BKgB.out 0).trans rfl
            have hm1 := (blk_cell BKgB.out 1).trans rfl
            have hm2 := (blk_cell BKgB.out 2).trans rfl
            have HH := Aside0.mk hHeld
            obtain ⟨a0, b0, d0⟩ := xa
            obtain ⟨a1, b1, d1⟩ := xb
            rcases HLT.out with h | ⟨h, h3 | ⟨h3, h4⟩⟩
            · dsimp only at h
              have t1 : decide (b1 < b0) = false := decide_eq_false (by omega)
              have t2 : (b0 == b1) = false := beq_eq_false_iff_ne.mpr (by omega)
              clear h hHeld
              go_wp2
              go_roundg k2
              case measure => omega
              case rel => exact ⟨j + 1, by first | rfl | (congr 1; unfold wrap64; omega), ⟨by omega⟩, HH⟩
            · dsimp only at h h3
              subst h
              have t1 : decide (b0 < b0) = false := decide_eq_false (by omega)
              have t3 : decide (d1 < d0) = false := decide_eq_false (by omega)
              have t4 : (d0 == d1) = false := beq_eq_false_iff_ne.mpr (by omega)
              clear h3 hHeld
              go_wp2
              go_roundg k2
              case measure => omega
              case rel => exact ⟨j + 1, by first | rfl | (congr 1; unfold wrap64; omega), ⟨by omega⟩, HH⟩
            · dsimp only at h h3 h4
              subst h
              subst h3
              have t1 : decide (b0 < b0) = false := decide_eq_false (by omega)
              have t3 : decide (d0 < d0) = false := decide_eq_false (by omega)
              have t5 : decide (a0 ≥ a1) = false := decide_eq_false (by omega)
              clear h4 hHeld
              go_wp2
              go_roundg k2
              case measure => omega
              case rel => exact ⟨j + 1, by first | rfl | (congr 1; unfold wrap64; omega), ⟨by omega⟩, HH⟩
          · refine box_step ?hg (N := 15) ?hd (cs := #[.int .i64 0, .int .i64 0, .int .i64 0]) (t := 36) ?hr ?_; (case hd => rfl); (case hg => rfl); (case hr => first | (go_simp; done) | (go_simp; rfl))
            intro gB hg w10 hbox hb
            have BKgB := Aside0.mk hbox
            have GEgB := Aside0.mk ((by rw [hg]; exact hHeld.size) : w9.heap.size ≤ gB)
            refine hK.out _ _ (below_step hHeld hb) (fun hHeld => ?_)
            clear hK K hg hbox hb
            refine norm_ (a' := ?_) ?_ ?_
            rotate_left
            · show Act.put _ (some 15) _ = _
              simp only [Act.put, List.setIfInBounds_toArray, List.set_cons_zero, List.set_cons_succ, i64_w, i32_w]
              rfl
            refine one_ (i := 9) (N := some 14) #[true, true, true, true, true, true, true, true, true, true, true, false, false] rfl rfl (one_of HT_.out (by kernel_rfl)) (by decide) (fun K hK => ?_)
            refine box_step ?hg (N := 14) ?hd (cs := #[.int .i64 0, .int .i64 0, .int .i64 0]) (t := 36) ?hr ?_; (case hd => rfl); (case hg => rfl); (case hr => first | (go_simp; done) | (go_simp; rfl))
            intro gA hg w11 hbox hb
            have BKgA := Aside0.mk hbox
            have GEgA := Aside0.mk ((by rw [hg]; exact hHeld.size) : w9.heap.size ≤ gA)
            have NEgA := Aside0.mk ((by rw [hg]; exact Nat.ne_of_lt (blk_lt BKgB.out)) : gB ≠ gA)
            have n0_ := Aside0.mk (blk_below BKgB.out hb)
            clear BKgB
            have BKgB := n0_
            clear n0_
            refine hK.out _ _ (below_step hHeld hb) (fun hHeld => ?_)
            clear hK K hg hbox hb
            refine norm_ (a' := ?_) ?_ ?_
            rotate_left
            · show Act.put _ (some 14) _ = _
              simp only [Act.put, List.setIfInBounds_toArray, List.set_cons_zero, List.set_cons_succ, i64_w, i32_w]
              rfl
            have NEQgA : Aside0 (gA ≠ gB) := ⟨fun e_ => NEgA.out e_.symm⟩
            have NEQgB := NEgA
            refine one_ (i := 11) (N := none) #[true, true, true, true, true, true, true, true, true, true, true, true, false] rfl rfl (one_of HT_.out (by kernel_rfl)) (by decide) (fun K hK => ?_)
            have hs0 : w11.cell? ⟨gA, 0, none⟩ = some (.int .i64 0) := (blk_cell BKgA.out 0).trans rfl
            have hs1 : w11.cell? ⟨gA, 1, none⟩ = some (.int .i64 0) := (blk_cell BKgA.out 1).trans rfl
            have hs2 : w11.cell? ⟨gA, 2, none⟩ = some (.int .i64 0) := (blk_cell BKgA.out 2).trans rfl
            have hf0 := blk_frozen BKgA.out 0
            have hf1 := blk_frozen BKgA.out 1
            have hf2 := blk_frozen BKgA.out 2
            refine skip_ (w1 := ?_) (by rfl) rfl ?_ ?_
            rotate_left
            · go_simp
              rfl
            refine hK.out _ _ (below_set (below_set (below_set hHeld GEgA.out) GEgA.out) GEgA.out) (fun hHeld => ?_)
            clear hK K hs0 hs1 hs2 hf0 hf1 hf2
            have n0_ : Aside0 ((((w11.setCell ⟨gA, 0, none⟩ (.int .i64 xa.f0)).setCell ⟨gA, 1, none⟩ (.int .i64 xa.f1)).setCell ⟨gA, 2, none⟩ (.int .i64 xa.f2)).heap[gA]? = some (.cells #[.int .i64 xa.f0, .int .i64 xa.f1, .int .i64 xa.f2] 36 (0, 0))) := ⟨blk_put (blk_put (blk_put BKgA.out 0 _ rfl) 1 _ rfl) 2 _ rfl⟩
            have n1_ := Aside0.mk (blk_far (p := ⟨gA, 2, none⟩) (blk_far (p := ⟨gA, 1, none⟩) (blk_far (p := ⟨gA, 0, none⟩) BKgB.out (NEQgB.out) (.int .i64 xa.f0)) (NEQgB.out) (.int .i64 xa.f1)) (NEQgB.out) (.int .i64 xa.f2))
            clear BKgA BKgB
            generalize (((w11.setCell ⟨gA, 0, none⟩ (.int .i64 xa.f0)).setCell ⟨gA, 1, none⟩ (.int .i64 xa.f1)).setCell ⟨gA, 2, none⟩ (.int .i64 xa.f2)) = w12 at n0_ n1_ hHeld ⊢
            have BKgA := n0_
            have BKgB := n1_
            clear n0_ n1_
            refine one_ (i := 12) (N := none) #[true, true, true, true, true, true, true, true, true, true, true, true, true] rfl rfl (one_of HT_.out (by kernel_rfl)) (by decide) (fun K hK => ?_)
            have hs0 : w12.cell? ⟨gB, 0, none⟩ = some (.int .i64 0) := (blk_cell BKgB.out 0).trans rfl
            have hs1 : w12.cell? ⟨gB, 1, none⟩ = some (.int .i64 0) := (blk_cell BKgB.out 1).trans rfl
            have hs2 : w12.cell? ⟨gB, 2, none⟩ = some (.int .i64 0) := (blk_cell BKgB.out 2).trans rfl
            have hf0 := blk_frozen BKgB.out 0
            have hf1 := blk_frozen BKgB.out 1
            have hf2 := blk_frozen BKgB.out 2
            refine skip_ (w1 := ?_) (by rfl) rfl ?_ ?_
            rotate_left
            · go_simp
              rfl
            refine hK.out _ _ (below_set (below_set (below_set hHeld GEgB.out) GEgB.out) GEgB.out) (fun hHeld => ?_)
            clear hK K hs0 hs1 hs2 hf0 hf1 hf2
            have n0_ : Aside0 ((((w12.setCell ⟨gB, 0, none⟩ (.int .i64 xb.f0)).setCell ⟨gB, 1, none⟩ (.int .i64 xb.f1)).setCell ⟨gB, 2, none⟩ (.int .i64 xb.f2)).heap[gB]? = some (.cells #[.int .i64 xb.f0, .int .i64 xb.f1, .int .i64 xb.f2] 36 (0, 0))) := ⟨blk_put (blk_put (blk_put BKgB.out 0 _ rfl) 1 _ rfl) 2 _ rfl⟩
            have n1_ := Aside0.mk (blk_far (p := ⟨gB, 2, none⟩) (blk_far (p := ⟨gB, 1, none⟩) (blk_far (p := ⟨gB, 0, none⟩) BKgA.out (NEQgA.out) (.int .i64 xb.f0)) (NEQgA.out) (.int .i64 xb.f1)) (NEQgA.out) (.int .i64 xb.f2))
            clear BKgB BKgA
            generalize (((w12.setCell ⟨gB, 0, none⟩ (.int .i64 xb.f0)).setCell ⟨gB, 1, none⟩ (.int .i64 xb.f1)).setCell ⟨gB, 2, none⟩ (.int .i64 xb.f2)) = w13 at n0_ n1_ hHeld ⊢
            have BKgB := n0_
            have BKgA := n1_
            clear n0_ n1_
            refine done_ (done_of HT_.out (by kernel_rfl)) ?_
            clear HT_ HW_
            have hk0 := (blk_cell BKgA.out 0).trans rfl
            have hk1 := (blk_cell BKgA.out 1).trans rfl
            have hk2 := (blk_cell BKgA.out 2).trans rfl
            have hm0 := (blk_cell BKgB.out 0).trans rfl
            have hm1 := (blk_cell BKgB.out 1).trans rfl
            have hm2 := (blk_cell BKgB.out 2).trans rfl
            have HH := Aside0.mk hHeld
            obtain ⟨a0, b0, d0⟩ := xa
            obtain ⟨a1, b1, d1⟩ := xb
            rcases HLT.out with h | ⟨h, h3 | ⟨h3, h4⟩⟩
            · dsimp only at h
              have t1 : decide (b1 < b0) = false := decide_eq_false (by omega)
              have t2 : (b0 == b1) = false := beq_eq_false_iff_ne.mpr (by omega)
              clear h hHeld
              go_wp2
              go_roundg k2
              case measure => omega
              case rel => exact ⟨j + 1, by first | rfl | (congr 1; unfold wrap64; omega), ⟨by omega⟩, HH⟩
            · dsimp only at h h3
              subst h
              have t1 : decide (b0 < b0) = false := decide_eq_false (by omega)
              have t3 : decide (d1 < d0) = false := decide_eq_false (by omega)
              have t4 : (d0 == d1) = false := beq_eq_false_iff_ne.mpr (by omega)
              clear h3 hHeld
              go_wp2
              go_roundg k2
              case measure => omega
              case rel => exact ⟨j + 1, by first | rfl | (congr 1; unfold wrap64; omega), ⟨by omega⟩, HH⟩
            · dsimp only at h h3 h4
              subst h
              subst h3
              have t1 : decide (b0 < b0) = false := decide_eq_false (by omega)
              have t3 : decide (d0 < d0) = false := decide_eq_false (by omega)
              have t5 : decide (a0 ≥ a1) = false := decide_eq_false (by omega)
              clear h4 hHeld
              go_wp2
              go_roundg k2
              case measure => omega
              case rel => exact ⟨j + 1, by first | rfl | (congr 1; unfold wrap64; omega), ⟨by omega⟩, HH⟩
        · have c41b := decide_eq_false c41
          go_wp2
          go_loopg [124] (l0.length + 1) (fun kq v124 w' => ∃ (i : Int), v124 = .int .i64 i ∧ Aside0 (0 ≤ i ∧ i ≤ (l0.length : Int) ∧ (l0.length : Int) - i < kq) ∧ Aside0 (Below w9.heap.size w9 w'))
          case atStart => exact ⟨0, rfl, ⟨by omega⟩, HBj⟩
          case round =>
            obtain ⟨i, rfl, HI2, HB2⟩ := hrel
            obtain ⟨k3, rfl⟩ : ∃ k3, gk = k3 + 1 := ⟨gk - 1, by have := HI2.out; omega⟩
            by_cases c51 : i < (l0.length : Int)
            · have c51b := decide_eq_true c51
              obtain ⟨i0, i1, i2⟩ := HI2.out
              obtain ⟨ad, ead, hx0, hx1, hx2⟩ := at_T36 (Kd.C_below HR0.out (below_then HW9.out HW9.out.size HB2.out)) i i0 c51
              subst ead
              have HDM := Aside0.mk (show want.any (fun y => ds_eq y (rd_T36 l0 i)) = true from List.any_eq_true.2 ⟨_, (HW1.out.2 _).2 (rd_mem l0 i i0 c51), ds_refl _⟩)
              generalize rd_T36 l0 i = d at *
              obtain ⟨d0, u, v⟩ := d
              dsimp only at hx0 hx1 hx2
              have p1 := eq_true i0
              have q1 := eq_true c51
              go_upto_region 23 with ((with_reducible refine gate_dst (N := 17) rfl ?_); refine box_event ?hg (N := 17) ?hd (cs := #[.int .i64 0, .int .i64 0, .int .i64 0]) (t := 36) ?hr ?_; (case hd => rfl); (case hg => rfl); (case hr => first | (go_simp; done) | (go_simp; rfl)); intro gd hg w11 hbox hb; have n0_ := Aside0.mk (below_step HB2.out hb); have BK := Aside0.mk hbox; have GE := Aside0.mk ((by rw [hg]; exact (below_size HB2.out)) : w9.heap.size ≤ gd); have HBx := n0_; clear n0_; clear hb hbox hg; have hcz0 : w11.cell? ⟨gd, 0, none⟩ = some (.int .i64 0) := (blk_cell BK.out 0).trans rfl; have hfz0 := blk_frozen BK.out 0; have hcz1 : w11.cell? ⟨gd, 1, none⟩ = some (.int .i64 0) := (blk_cell BK.out 1).trans rfl; have hfz1 := blk_frozen BK.out 1; have hcz2 : w11.cell? ⟨gd, 2, none⟩ = some (.int .i64 0) := (blk_cell BK.out 2).trans rfl; have hfz2 := blk_frozen BK.out 2)
              have BKd : Aside0 ((((w11.setCell ⟨gd, 0, none⟩ (.int .i64 d0)).setCell ⟨gd, 1, none⟩ (.int .i64 u)).setCell ⟨gd, 2, none⟩ (.int .i64 v)).heap[gd]? = some (.cells #[.int .i64 d0, .int .i64 u, .int .i64 v] 36 (0, 0))) := ⟨(blk_put (blk_put (blk_put BK.out 0 _ rfl) 1 _ rfl) 2 _ rfl)⟩
              have HB12 : Aside0 (Below w9.heap.size w9 (((w11.setCell ⟨gd, 0, none⟩ (.int .i64 d0)).setCell ⟨gd, 1, none⟩ (.int .i64 u)).setCell ⟨gd, 2, none⟩ (.int .i64 v))) := ⟨(below_set (below_set (below_set HBx.out GE.out) GE.out) GE.out)⟩
              clear HBx BK GE hcz0 hfz0 hcz1 hfz1 hcz2 hfz2
              generalize (((w11.setCell ⟨gd, 0, none⟩ (.int .i64 d0)).setCell ⟨gd, 1, none⟩ (.int .i64 u)).setCell ⟨gd, 2, none⟩ (.int .i64 v)) = w12 at BKd HB12 ⊢
              have hk0 := (blk_cell BKd.out 0).trans rfl
              have hk1 := (blk_cell BKd.out 1).trans rfl
              have hk2 := (blk_cell BKd.out 2).trans rfl
              have HK0 := Aside0.mk hk0
              have HK1 := Aside0.mk hk1
              have HK2 := Aside0.mk hk2
              clear hx0 hx1 hx2 hk0 hk1 hk2
              go_wp2
              go_loopg [18, 130] (want.length + 1) (fun kq v18 v130 w' => ∃ (j : Int), v130 = .int .i64 j ∧ v18 = .bool ((want.take j.toNat).any (fun y => ds_eq y ⟨d0, u, v⟩)) ∧ Aside0 (0 ≤ j ∧ j ≤ (want.length : Int) ∧ (want.length : Int) - j < kq) ∧ Aside0 (Below w12.heap.size w12 w'))
              case atStart => exact ⟨0, rfl, by simp, ⟨by omega⟩, ⟨Below.refl _ _⟩⟩
              case round =>
                obtain ⟨j, rfl, rfl, HJ3, HB3⟩ := hrel
                obtain ⟨k4, rfl⟩ : ∃ k4, gk = k4 + 1 := ⟨gk - 1, by have := HJ3.out; omega⟩
                by_cases c61 : j < (want.length : Int)
                · have c61b := decide_eq_true c61
                  obtain ⟨j0, j1, j2⟩ := HJ3.out
                  obtain ⟨ae, eae, hy0, hy1, hy2⟩ := at_T36 (Kd.C_below HCW.out.2 (below_then HB12.out HB12.out.size HB3.out)) j j0 c61
                  subst eae
                  have htk : (want.take (j + 1).toNat).any (fun y => ds_eq y ⟨d0, u, v⟩) = ((want.take j.toNat).any (fun y => ds_eq y ⟨d0, u, v⟩) || ds_eq (rd_T36 want j) ⟨d0, u, v⟩) := by
                    rw [show (j + 1).toNat = j.toNat + 1 by omega, List.take_add_one, List.any_append]
                    unfold rd_T36
                    rw [List.getD_eq_getElem?_getD, List.getElem?_eq_getElem (by omega)]
                    simp
                  generalize (want.take j.toNat).any (fun y => ds_eq y ⟨d0, u, v⟩) = bq at htk ⊢
                  generalize rd_T36 want j = x at *
                  obtain ⟨x0, x1, x2⟩ := x
                  dsimp only at hy0 hy1 hy2
                  have HTK := Aside0.mk htk
                  clear htk
                  have p2 := eq_true j0
                  have q2 := eq_true c61
                  go_upto_region 27 with ((with_reducible refine gate_dst (N := 20) rfl ?_); refine box_event ?hg (N := 20) ?hd (cs := #[.int .i64 0, .int .i64 0, .int .i64 0]) (t := 36) ?hr ?_; (case hd => rfl); (case hg => rfl); (case hr => first | (go_simp; done) | (go_simp; rfl)); intro ge hg w13 hbox hb; have n0_ := Aside0.mk (below_step HB3.out hb); have BK := Aside0.mk hbox; have GE := Aside0.mk ((by rw [hg]; exact (below_size HB3.out)) : w12.heap.size ≤ ge); have HBx := n0_; clear n0_; clear hb hbox hg; have hcz0 : w13.cell? ⟨ge, 0, none⟩ = some (.int .i64 0) := (blk_cell BK.out 0).trans rfl; have hfz0 := blk_frozen BK.out 0; have hcz1 : w13.cell? ⟨ge, 1, none⟩ = some (.int .i64 0) := (blk_cell BK.out 1).trans rfl; have hfz1 := blk_frozen BK.out 1; have hcz2 : w13.cell? ⟨ge, 2, none⟩ = some (.int .i64 0) := (blk_cell BK.out 2).trans rfl; have hfz2 := blk_frozen BK.out 2)
                  have BKe : Aside0 ((((w13.setCell ⟨ge, 0, none⟩ (.int .i64 x0)).setCell ⟨ge, 1, none⟩ (.int .i64 x1)).setCell ⟨ge, 2, none⟩ (.int .i64 x2)).heap[ge]? = some (.cells #[.int .i64 x0, .int .i64 x1, .int .i64 x2] 36 (0, 0))) := ⟨(blk_put (blk_put (blk_put BK.out 0 _ rfl) 1 _ rfl) 2 _ rfl)⟩
                  have HB14 : Aside0 (Below w12.heap.size w12 (((w13.setCell ⟨ge, 0, none⟩ (.int .i64 x0)).setCell ⟨ge, 1, none⟩ (.int .i64 x1)).setCell ⟨ge, 2, none⟩ (.int .i64 x2))) := ⟨(below_set (below_set (below_set HBx.out GE.out) GE.out) GE.out)⟩
                  clear HBx BK GE hcz0 hfz0 hcz1 hfz1 hcz2 hfz2
                  generalize (((w13.setCell ⟨ge, 0, none⟩ (.int .i64 x0)).setCell ⟨ge, 1, none⟩ (.int .i64 x1)).setCell ⟨ge, 2, none⟩ (.int .i64 x2)) = w14 at BKe HB14 ⊢
                  have hm0 := (blk_cell BKe.out 0).trans rfl
                  have hm1 := (blk_cell BKe.out 1).trans rfl
                  have hm2 := (blk_cell BKe.out 2).trans rfl
                  have hk0 := pw_cell_below HB14.out HK0.out
                  have hk1 := pw_cell_below HB14.out HK1.out
                  have hk2 := pw_cell_below HB14.out HK2.out
                  clear hy0 hy1 hy2
                  cases bq with
                  | true =>
                    have hv : (want.take (j + 1).toNat).any (fun y => ds_eq y ⟨d0, u, v⟩) = true := by rw [HTK.out, Bool.true_or]
                    have HV := Aside0.mk hv
                    clear hv
                    go_wp2
                    go_roundg k4
                    case measure => omega
                    case rel => exact ⟨j + 1, by first | rfl | (congr 1; unfold wrap64; omega), by rw [HV.out], ⟨by omega⟩, HB14⟩
                  | false =>
                    rw [Bool.false_or] at HTK
                    cases hq : ds_eq ⟨x0, x1, x2⟩ ⟨d0, u, v⟩ with
                    | true =>
                      have hqb : ((x0 == d0) && ((x1 == u) && (x2 == v))) = true := hq
                      rw [hq] at HTK
                      clear hq
                      go_wp2
                      go_roundg k4
                      case measure => omega
                      case rel => exact ⟨j + 1, by first | rfl | (congr 1; unfold wrap64; omega), by rw [HTK.out], ⟨by omega⟩, HB14⟩
                    | false =>
                      have hqb : ((x0 == d0) && ((x1 == u) && (x2 == v))) = false := hq
                      rw [hq] at HTK
                      clear hq
                      go_wp2
                      go_roundg k4
                      case measure => omega
                      case rel => exact ⟨j + 1, by first | rfl | (congr 1; unfold wrap64; omega), by rw [HTK.out], ⟨by omega⟩, HB14⟩
                · have c61b := decide_eq_false c61
                  have hj : (want.take j.toNat).any (fun y => ds_eq y ⟨d0, u, v⟩) = true := by rw [List.take_of_length_le (by have := HJ3.out; omega)]; exact HDM.out
                  rw [hj]
                  clear hj
                  have HB15 := Aside0.mk (below_then HB12.out HB12.out.size HB3.out)
                  go_wp2
                  go_roundg k3
                  case measure => omega
                  case rel => exact ⟨i + 1, by first | rfl | (congr 1; unfold wrap64; omega), ⟨by omega⟩, HB15⟩
            · have c51b := decide_eq_false c51
              have HSR1 := Aside0.mk (diag_Sort.calls Ao11 co11 x7_1 want _ (Kd.C_below HT9.out HB2.out) HTC.out (by rw [sort_ok x7_1 (by have := HTL.out; omega), HTM.out]))
              go_wp2_with (first
                | (go_at_call 23; refine HSS2.out.mono ?_; rintro e w20 ⟨rfl, hd⟩; have HB20 := Aside0.mk (below_then HB19.out HB19.out.size (drawn_below hd)); clear hd)
                | (go_at_call 21; refine HSR2.out.mono ?_; rintro e w19 ⟨vc, rfl, hR, hB⟩; obtain ⟨Ac, cc, rfl⟩ := Kd.R_slice hR; have HB19 := Aside0.mk (below_then HB18.out HB18.out.size hB); have HSS2 := Aside0.mk (scholiastlaw20_same.calls ks Ac cc want Aw cw want true w19 (Kd.R_reads' hR).2.2 (Kd.R_reads' hR).2.1 (Kd.C_below HCW.out.2 (below_then HB18.out HB18.out.size hB)) HCW.out.1 HKS.out); clear hR hB)
                | (go_at_call 23; refine HSS1.out.mono ?_; rintro e w18 ⟨rfl, hd⟩; have HB18 := Aside0.mk (below_then HB17.out HB17.out.size (drawn_below hd)); have hs2 := diag_Sort.calls Ap cp (sa ++ sb) want w18 (Kd.C_below (HCP9.out) (below_then HB17.out HB17.out.size (drawn_below hd))) (by have h_ := HCP.out.1; simp only [List.length_append] at h_ ⊢; exact h_) (by rw [sort_ok (sa ++ sb) (by rw [List.length_append]; omega), HPS.out]); rw [List.length_append] at hs2; have HSR2 := Aside0.mk hs2; clear hd hs2)
                | (go_at_call 21; refine HSR1.out.mono ?_; rintro e w17 ⟨vb, rfl, hR, hB⟩; obtain ⟨Ab2, cb2, rfl⟩ := Kd.R_slice hR; have HB17 := Aside0.mk (below_then HB2.out HB2.out.size hB); have HSS1 := Aside0.mk (scholiastlaw20_same.calls ks Ab2 cb2 want Aw cw want true w17 (Kd.R_reads' hR).2.2 (Kd.R_reads' hR).2.1 (Kd.C_below HCW.out.2 (below_then HB2.out HB2.out.size hB)) HCW.out.1 HKS.out); clear hR hB))
              go_ret
              exact ⟨rfl, below_then HW9.out HW9.out.size HB20.out⟩

end Go.Proofs.YtcbimnmpdpkefaaDoor.A

/- Arguments opened: what a reading of a value tells, as lists and structures of plain values. -/
set_option linter.unusedVariables false
set_option linter.unusedSimpArgs false
namespace Go.Proofs.YtcbimnmpdpkefaaDoorTB
open Go.RowKit Go.Deep Go.ChangeShapes Go.WideShapes Go.Proofs.YtcbimnmpdpkefaaDoorW.PrintWords

/-- Whatever reads as a value of type t is, in memory, a value of kind d, and B holds of it. -/
def Opn {α : Type} (P : Program) (w : World) (t : TypeId) (d : Kd α) (B : α → Prop) : Prop :=
  ∀ (H : Type) (enc : TypeId × Value → H) (base : Nat) (spare : Nat → Bool) (held : Bool) (fuel : Nat) (cs : List Value) (y : DataW H × List MemPlace),
    DataW.trod enc P w base spare held fuel t cs = some y → (y.1.weights P t).all (· ≤ reachBytes) = true → ∃ x, d.K w x cs ∧ B x
theorem Opn.mono {α : Type} {P : Program} {w : World} {t : TypeId} {d : Kd α} {B B' : α → Prop} (h : Opn P w t d B) (hb : ∀ x, B x → B' x) : Opn P w t d B' := by
  intro H enc base spare held fuel cs y hy hw
  obtain ⟨x, h1, h2⟩ := h H enc base spare held fuel cs y hy hw
  exact ⟨x, h1, hb x h2⟩
theorem Opn.int {P : Program} {w : World} {t : TypeId} {k : IntKind} (ht : P.underlying t = some (.int k)) : Opn P w t (Kd.int k) (fun n => (Lit.int k n).wf = true) := by
  intro H enc base spare held fuel cs y hy hw
  obtain ⟨n, rfl, rfl, hn⟩ := DataW.trod_int ht hy
  exact ⟨n, rfl, hn⟩
theorem Opn.bool {P : Program} {w : World} {t : TypeId} (ht : P.underlying t = some .bool) : Opn P w t Kd.bool (fun _ => True) := by
  intro H enc base spare held fuel cs y hy hw
  obtain ⟨n, rfl, rfl⟩ := DataW.trod_bool ht hy
  exact ⟨n, rfl, trivial⟩
theorem Opn.string {P : Program} {w : World} {t : TypeId} (ht : P.underlying t = some .string) : Opn P w t Kd.string (fun s => s.size ≤ 140737488351232) := by
  intro H enc base spare held fuel cs y hy hw
  obtain ⟨s, rfl, rfl, _⟩ := DataW.trod_string ht hy
  refine ⟨s, rfl, ?_⟩
  simp only [DataW.weights, List.all_cons, List.all_nil, Bool.and_true, decide_eq_true_eq, Array.length_toList] at hw
  exact hw
theorem list_choose {α : Type} {p : Nat → α → Prop} : ∀ (n : Nat), (∀ i, i < n → ∃ x, p i x) → ∃ xs : List α, xs.length = n ∧ ∀ i x, xs[i]? = some x → p i x
  | 0, _ => ⟨[], rfl, fun i x h => by simp at h⟩
  | n + 1, h => by
    obtain ⟨xs, hl, hx⟩ := list_choose n (fun i hi => h i (by omega))
    obtain ⟨z, hz⟩ := h n (by omega)
    refine ⟨xs ++ [z], by simp [hl], fun i x hix => ?_⟩
    rcases Nat.lt_or_ge i n with h1 | h1
    · rw [List.getElem?_append_left (by omega)] at hix
      exact hx i x hix
    · have : i = n := by
        have := (List.getElem?_eq_some_iff.1 hix).1
        simp at this; omega
      subst this
      rw [List.getElem?_append_right (by omega), hl, Nat.sub_self] at hix
      simp only [List.getElem?_cons_zero, Option.some.injEq] at hix
      exact hix ▸ hz
theorem weightsAll_get {H : Type} {P : Program} {e : TypeId} : ∀ (l : List (DataW H)) (i : Nat) (y : DataW H), (DataW.weightsAll P e l).all (· ≤ reachBytes) = true → l[i]? = some y → (y.weights P e).all (· ≤ reachBytes) = true
  | [], i, y, _, hi => by simp at hi
  | d :: r, 0, y, h, hi => by
    simp only [List.getElem?_cons_zero, Option.some.injEq] at hi
    subst hi
    simp only [DataW.weightsAll, List.all_append, Bool.and_eq_true] at h
    exact h.1
  | d :: r, i + 1, y, h, hi => by
    simp only [DataW.weightsAll, List.all_append, Bool.and_eq_true] at h
    exact weightsAll_get r i y h.2 (by simpa using hi)
theorem Opn.slice {α : Type} {P : Program} {w : World} {t e : TypeId} {d : Kd α} {B : α → Prop} (hd : Opn P w e d B) (ht : P.underlying t = some (.slice e)) (hc : P.cellsOf e = d.sz) {nb : Nat} (hnb : P.bytesOf e = nb) :
    Opn P w t (Kd.slice e d) (fun xs => xs.length * nb ≤ 140737488351232 ∧ ∀ x ∈ xs, B x) := by
  intro H enc base spare held fuel cs y hy hw
  rcases open_slice ht hy with ⟨rfl, rfl⟩ | ⟨a, len, cap, m, n, D, Pl, rfl, hb, hl, hm, hmm, rfl, hx⟩
  · exact ⟨[], ⟨none, 0, rfl, Nat.le_refl _, rfl, by simp, fun h => absurd h (by simp)⟩, by simp, by simp⟩
  · simp only [DataW.weights, ht, List.all_cons, List.all_append, Bool.and_eq_true, decide_eq_true_eq, List.length_map, List.length_range] at hw
    obtain ⟨hw1, hw2, _⟩ := hw
    have hlm : len ≤ m := by rw [hmm]; split <;> omega
    obtain ⟨xs, hxl, hxs⟩ := list_choose (p := fun i x => ∃ cs', w.cells? base (a.add (i * P.cellsOf e)) (P.cellsOf e) = some cs' ∧ d.K w x cs' ∧ B x) len (fun i hi => by
      obtain ⟨cs', h1, h2⟩ := hx i (by omega)
      obtain ⟨x, h3, h4⟩ := hd H enc base spare held n cs' (D i, Pl i) h2 (weightsAll_get _ i _ hw2 (by simp [hi]))
      exact ⟨x, cs', h1, h3, h4⟩)
    have hmx : maxLen ≤ 9223372036854775807 := by decide
    refine ⟨xs, ⟨some a, cap, by rw [hxl], by omega, rfl, by rw [hxl]; omega, fun _ => ⟨a, rfl, fun j x hj => ?_⟩⟩, ?_, fun x hx' => ?_⟩
    · obtain ⟨cs', h1, h2, _⟩ := hxs j x hj
      have hlen := d.K_len h2
      refine ⟨cs', hlen, h2, fun i u hu => ?_⟩
      obtain ⟨_, _, h3⟩ := World.cells?_some h1
      rw [hc] at h3
      have := h3 i (by rw [← hlen]; exact (List.getElem?_eq_some_iff.1 hu).1)
      rw [Go.Deep.add_add] at this
      rw [this, hu]
    · have hz : len * P.bytesOf e ≤ 140737488351232 := Nat.le_trans (Nat.mul_le_mul_right _ (by omega)) hw1
      rw [hxl, ← hnb]; exact hz
    · obtain ⟨i, hi, rfl⟩ := List.mem_iff_getElem.1 hx'
      obtain ⟨_, _, _, h⟩ := hxs i _ (List.getElem?_eq_getElem hi)
      exact h
/-- The fields of a struct, from one on. -/
def OpnF {α : Type} (P : Program) (w : World) (fs : List Field) (off : Nat) (d : Kd α) (B : α → Prop) : Prop :=
  ∀ (H : Type) (enc : TypeId × Value → H) (base : Nat) (spare : Nat → Bool) (held : Bool) (n : Nat) (cs : List Value) (xs : List (DataW H × List MemPlace)), xs.length = fs.length →
    (∀ (i : Nat) (f : Field), fs[i]? = some f → DataW.trod enc P w base spare held n f.type ((cs.drop f.offset).take (P.cellsOf f.type)) = xs[i]?) →
    (DataW.weightsEach P (fs.map (·.type)) (xs.map (·.1))).all (· ≤ reachBytes) = true → ∃ x, d.K w x ((cs.drop off).take d.sz) ∧ B x
theorem OpnF.one {α : Type} {P : Program} {w : World} {f : Field} {off : Nat} {d : Kd α} {B : α → Prop} (h : Opn P w f.type d B) (ho : f.offset = off) (hc : P.cellsOf f.type = d.sz) : OpnF P w [f] off d B := by
  intro H enc base spare held n cs xs hl hx hw
  match xs, hl with
  | [x], _ =>
    have h0 := hx 0 f rfl
    simp only [List.getElem?_cons_zero] at h0
    rw [ho, hc] at h0
    simp only [List.map_cons, List.map_nil, DataW.weightsEach, List.append_nil] at hw
    exact h H enc base spare held n _ x h0 hw
theorem OpnF.cons {α β : Type} {P : Program} {w : World} {f : Field} {fs : List Field} {off : Nat} {d : Kd α} {d' : Kd β} {B : α → Prop} {B' : β → Prop} (h : Opn P w f.type d B) (ho : f.offset = off) (hc : P.cellsOf f.type = d.sz) (hr : OpnF P w fs (off + d.sz) d' B') :
    OpnF P w (f :: fs) off (Kd.pair d d') (fun x => B x.1 ∧ B' x.2) := by
  intro H enc base spare held n cs xs hl hx hw
  match xs, hl with
  | x :: xs, hl =>
    have h0 := hx 0 f rfl
    simp only [List.getElem?_cons_zero] at h0
    rw [ho, hc] at h0
    simp only [List.map_cons, DataW.weightsEach, List.all_append, Bool.and_eq_true] at hw
    obtain ⟨p, hp1, hp2⟩ := h H enc base spare held n _ x h0 hw.1
    obtain ⟨q, hq1, hq2⟩ := hr H enc base spare held n cs xs (by simpa using hl) (fun i f' hf => by simpa using hx (i + 1) f' (by simpa using hf)) hw.2
    refine ⟨(p, q), ⟨_, _, ?_, hp1, hq1⟩, hp2, hq2⟩
    show (cs.drop off).take (d.sz + d'.sz) = _
    rw [List.take_add, List.drop_drop]
theorem Opn.struct {α : Type} {P : Program} {w : World} {t : TypeId} {fs : Array Field} {d : Kd α} {B : α → Prop} (ht : P.underlying t = some (.struct fs)) (hc : P.cellsOf t = d.sz) (h : OpnF P w fs.toList 0 d B) : Opn P w t d B := by
  intro H enc base spare held fuel cs y hy hw
  obtain ⟨xs, n, _, rfl, hl, hxl, hx⟩ := DataW.trod_struct ht hy
  simp only [DataW.weights, ht] at hw
  obtain ⟨x, h1, h2⟩ := h H enc base spare held n cs xs (by simpa using hxl) (fun i f hf => hx i f (by simpa using hf)) hw
  refine ⟨x, ?_, h2⟩
  rwa [List.drop_zero, ← hc, ← hl, List.take_length] at h1
theorem Opn.iso {α β : Type} {P : Program} {w : World} {t : TypeId} {d : Kd α} {B : α → Prop} (h : Opn P w t d B) (f : β → α) (g : α → β) (hg : ∀ x, f (g x) = x) : Opn P w t (Kd.iso d f) (fun x => B (f x)) := by
  intro H enc base spare held fuel cs y hy hw
  obtain ⟨x, h1, h2⟩ := h H enc base spare held fuel cs y hy hw
  exact ⟨g x, by show d.K w (f (g x)) cs; rwa [hg], by show B (f (g x)); rwa [hg]⟩
theorem Opn.arg {α H : Type} {P : Program} {w : World} {t : TypeId} {d : Kd α} {B : α → Prop} {enc : TypeId × Value → H} {base : Nat} {spare : Nat → Bool} {held : Bool} {v : Value} {y : DataW H} {ps : List MemPlace} (h : Opn P w t d B) (hT : DataW.Trod enc P w base spare held t v y ps)
    (hw : (y.weights P t).all (· ≤ reachBytes) = true) : ∃ x, d.K w x v.cells.toList ∧ B x := by
  obtain ⟨fuel, hf⟩ := hT
  exact h H enc base spare held fuel _ _ hf hw
end Go.Proofs.YtcbimnmpdpkefaaDoorTB

/- Arguments opened, with how much they hold: what the bound of the second form gives. -/
set_option linter.unusedVariables false
set_option linter.unusedSimpArgs false
namespace Go.Proofs.YtcbimnmpdpkefaaDoorTB
open Go.RowKit Go.Deep Go.ChangeShapes Go.WideShapes Go.Proofs.YtcbimnmpdpkefaaDoorW.PrintWords Go.Proofs.YtcbimnmpdpkefaaDoor

/-- As 'Opn', with a measure that is at most the reading's bulk. -/
def Opm {α : Type} (P : Program) (w : World) (t : TypeId) (d : Kd α) (B : α → Prop) (m : α → Nat) : Prop :=
  ∀ (H : Type) (enc : TypeId × Value → H) (base : Nat) (spare : Nat → Bool) (held : Bool) (fuel : Nat) (cs : List Value) (y : DataW H × List MemPlace),
    DataW.trod enc P w base spare held fuel t cs = some y → (y.1.weights P t).all (· ≤ reachBytes) = true → ∃ x, d.K w x cs ∧ B x ∧ m x ≤ Rows.uptoBulk y.1
theorem Opm.zero {α : Type} {P : Program} {w : World} {t : TypeId} {d : Kd α} {B : α → Prop} (h : Opn P w t d B) : Opm P w t d B (fun _ => 0) := by
  intro H enc base spare held fuel cs y hy hw
  obtain ⟨x, h1, h2⟩ := h H enc base spare held fuel cs y hy hw
  exact ⟨x, h1, h2, Nat.zero_le _⟩
theorem Opm.string {P : Program} {w : World} {t : TypeId} (ht : P.underlying t = some .string) : Opm P w t Kd.string (fun s => s.size ≤ 140737488351232) (fun s => s.size) := by
  intro H enc base spare held fuel cs y hy hw
  obtain ⟨s, rfl, rfl, _⟩ := DataW.trod_string ht hy
  refine ⟨s, rfl, ?_, ?_⟩
  · simp only [DataW.weights, List.all_cons, List.all_nil, Bool.and_true, decide_eq_true_eq, Array.length_toList] at hw
    exact hw
  · show s.size ≤ Rows.uptoBulk (DataW.lit (.string s.data.toList))
    rw [Rows.uptoBulk, Array.length_toList]
    exact Nat.le_succ _
theorem bulk_sum {α H : Type} (m : α → Nat) : ∀ (xs : List α) (ds : List (DataW H)), xs.length = ds.length → (∀ (i : Nat) x y, xs[i]? = some x → ds[i]? = some y → m x ≤ Rows.uptoBulk y) → (xs.map m).sum ≤ Rows.uptoBulkAll ds
  | [], _, _, _ => Nat.zero_le _
  | x :: xs, [], h, _ => by simp at h
  | x :: xs, y :: ds, h, hi => by
    have h1 := hi 0 x y rfl rfl
    have h2 := bulk_sum m xs ds (by simpa using h) (fun i a b ha hb => hi (i + 1) a b (by simpa using ha) (by simpa using hb))
    simp only [List.map_cons, List.sum_cons, Rows.uptoBulkAll]
    omega
theorem Opm.slice {α : Type} {P : Program} {w : World} {t e : TypeId} {d : Kd α} {B : α → Prop} {m : α → Nat} (hd : Opm P w e d B m) (ht : P.underlying t = some (.slice e)) (hc : P.cellsOf e = d.sz) {nb : Nat} (hnb : P.bytesOf e = nb) :
    Opm P w t (Kd.slice e d) (fun xs => xs.length * nb ≤ 140737488351232 ∧ ∀ x ∈ xs, B x) (fun xs => (xs.map m).sum) := by
  intro H enc base spare held fuel cs y hy hw
  rcases open_slice ht hy with ⟨rfl, rfl⟩ | ⟨a, len, cap, mm, n, D, Pl, rfl, hb, hl, hm, hmm, rfl, hx⟩
  · exact ⟨[], ⟨none, 0, rfl, Nat.le_refl _, rfl, by simp, fun h => absurd h (by simp)⟩, ⟨by simp, by simp⟩, by simp⟩
  · simp only [DataW.weights, ht, List.all_cons, List.all_append, Bool.and_eq_true, decide_eq_true_eq, List.length_map, List.length_range] at hw
    obtain ⟨hw1, hw2, _⟩ := hw
    have hlm : len ≤ mm := by rw [hmm]; split <;> omega
    obtain ⟨xs, hxl, hxs⟩ := list_choose (p := fun i x => (∃ cs', w.cells? base (a.add (i * P.cellsOf e)) (P.cellsOf e) = some cs' ∧ d.K w x cs' ∧ B x) ∧ m x ≤ Rows.uptoBulk (D i)) len (fun i hi => by
      obtain ⟨cs', h1, h2⟩ := hx i (by omega)
      obtain ⟨x, h3, h4, h5⟩ := hd H enc base spare held n cs' (D i, Pl i) h2 (weightsAll_get _ i _ hw2 (by simp [hi]))
      exact ⟨x, ⟨cs', h1, h3, h4⟩, h5⟩)
    have hmx : maxLen ≤ 9223372036854775807 := by decide
    refine ⟨xs, ⟨some a, cap, by rw [hxl], by omega, rfl, by rw [hxl]; omega, fun _ => ⟨a, rfl, fun j x hj => ?_⟩⟩, ⟨?_, fun x hx' => ?_⟩, ?_⟩
    · obtain ⟨⟨cs', h1, h2, _⟩, _⟩ := hxs j x hj
      have hlen := d.K_len h2
      refine ⟨cs', hlen, h2, fun i u hu => ?_⟩
      obtain ⟨_, _, h3⟩ := World.cells?_some h1
      rw [hc] at h3
      have := h3 i (by rw [← hlen]; exact (List.getElem?_eq_some_iff.1 hu).1)
      rw [Go.Deep.add_add] at this
      rw [this, hu]
    · have hz : len * P.bytesOf e ≤ 140737488351232 := Nat.le_trans (Nat.mul_le_mul_right _ (by omega)) hw1
      rw [hxl, ← hnb]; exact hz
    · obtain ⟨i, hi, rfl⟩ := List.mem_iff_getElem.1 hx'
      obtain ⟨⟨_, _, _, h⟩, _⟩ := hxs i _ (List.getElem?_eq_getElem hi)
      exact h
    · have hs := bulk_sum m xs ((List.range len).map D) (by simp [hxl]) (fun i x y hxi hyi => by
        have hil : i < len := by rw [← hxl]; exact (List.getElem?_eq_some_iff.1 hxi).1
        simp [hil] at hyi
        subst hyi
        exact (hxs i x hxi).2)
      refine Nat.le_trans hs ?_
      simp only [Rows.uptoBulk]
      omega
/-- The fields of a struct, from one on. -/
def OpmF {α : Type} (P : Program) (w : World) (fs : List Field) (off : Nat) (d : Kd α) (B : α → Prop) (m : α → Nat) : Prop :=
  ∀ (H : Type) (enc : TypeId × Value → H) (base : Nat) (spare : Nat → Bool) (held : Bool) (n : Nat) (cs : List Value) (xs : List (DataW H × List MemPlace)), xs.length = fs.length →
    (∀ (i : Nat) (f : Field), fs[i]? = some f → DataW.trod enc P w base spare held n f.type ((cs.drop f.offset).take (P.cellsOf f.type)) = xs[i]?) →
    (DataW.weightsEach P (fs.map (·.type)) (xs.map (·.1))).all (· ≤ reachBytes) = true → ∃ x, d.K w x ((cs.drop off).take d.sz) ∧ B x ∧ m x ≤ Rows.uptoBulkAll (xs.map (·.1))
theorem OpmF.one {α : Type} {P : Program} {w : World} {f : Field} {off : Nat} {d : Kd α} {B : α → Prop} {m : α → Nat} (h : Opm P w f.type d B m) (ho : f.offset = off) (hc : P.cellsOf f.type = d.sz) : OpmF P w [f] off d B m := by
  intro H enc base spare held n cs xs hl hx hw
  match xs, hl with
  | [x], _ =>
    have h0 := hx 0 f rfl
    simp only [List.getElem?_cons_zero] at h0
    rw [ho, hc] at h0
    simp only [List.map_cons, List.map_nil, DataW.weightsEach, List.append_nil] at hw
    obtain ⟨z, z1, z2, z3⟩ := h H enc base spare held n _ x h0 hw
    exact ⟨z, z1, z2, by simp only [List.map_cons, List.map_nil, Rows.uptoBulkAll]; omega⟩
theorem OpmF.cons {α β : Type} {P : Program} {w : World} {f : Field} {fs : List Field} {off : Nat} {d : Kd α} {d' : Kd β} {B : α → Prop} {B' : β → Prop} {m : α → Nat} {m' : β → Nat} (h : Opm P w f.type d B m) (ho : f.offset = off) (hc : P.cellsOf f.type = d.sz) (hr : OpmF P w fs (off + d.sz) d' B' m') :
    OpmF P w (f :: fs) off (Kd.pair d d') (fun x => B x.1 ∧ B' x.2) (fun x => m x.1 + m' x.2) := by
  intro H enc base spare held n cs xs hl hx hw
  match xs, hl with
  | x :: xs, hl =>
    have h0 := hx 0 f rfl
    simp only [List.getElem?_cons_zero] at h0
    rw [ho, hc] at h0
    simp only [List.map_cons, DataW.weightsEach, List.all_append, Bool.and_eq_true] at hw
    obtain ⟨p, hp1, hp2, hp3⟩ := h H enc base spare held n _ x h0 hw.1
    obtain ⟨q, hq1, hq2, hq3⟩ := hr H enc base spare held n cs xs (by simpa using hl) (fun i f' hf => by simpa using hx (i + 1) f' (by simpa using hf)) hw.2
    refine ⟨(p, q), ⟨_, _, ?_, hp1, hq1⟩, ⟨hp2, hq2⟩, ?_⟩
    · show (cs.drop off).take (d.sz + d'.sz) = _
      rw [List.take_add, List.drop_drop]
    · simp only [List.map_cons, Rows.uptoBulkAll]
      omega
theorem Opm.struct {α : Type} {P : Program} {w : World} {t : TypeId} {fs : Array Field} {d : Kd α} {B : α → Prop} {m : α → Nat} (ht : P.underlying t = some (.struct fs)) (hc : P.cellsOf t = d.sz) (h : OpmF P w fs.toList 0 d B m) : Opm P w t d B m := by
  intro H enc base spare held fuel cs y hy hw
  obtain ⟨xs, n, _, rfl, hl, hxl, hx⟩ := DataW.trod_struct ht hy
  simp only [DataW.weights, ht] at hw
  obtain ⟨x, h1, h2, h3⟩ := h H enc base spare held n cs xs (by simpa using hxl) (fun i f hf => hx i f (by simpa using hf)) hw
  refine ⟨x, ?_, h2, ?_⟩
  · rwa [List.drop_zero, ← hc, ← hl, List.take_length] at h1
  · simp only [Rows.uptoBulk]; omega
theorem Opm.iso {α β : Type} {P : Program} {w : World} {t : TypeId} {d : Kd α} {B : α → Prop} {m : α → Nat} (h : Opm P w t d B m) (f : β → α) (g : α → β) (hg : ∀ x, f (g x) = x) : Opm P w t (Kd.iso d f) (fun x => B (f x)) (fun x => m (f x)) := by
  intro H enc base spare held fuel cs y hy hw
  obtain ⟨x, h1, h2, h3⟩ := h H enc base spare held fuel cs y hy hw
  exact ⟨g x, by show d.K w (f (g x)) cs; rwa [hg], by show B (f (g x)); rwa [hg], by show m (f (g x)) ≤ _; rwa [hg]⟩
theorem Opm.arg {α H : Type} {P : Program} {w : World} {t : TypeId} {d : Kd α} {B : α → Prop} {m : α → Nat} {enc : TypeId × Value → H} {base : Nat} {spare : Nat → Bool} {held : Bool} {v : Value} {y : DataW H} {ps : List MemPlace} (h : Opm P w t d B m) (hT : DataW.Trod enc P w base spare held t v y ps)
    (hw : (y.weights P t).all (· ≤ reachBytes) = true) : ∃ x, d.K w x v.cells.toList ∧ B x ∧ m x ≤ Rows.uptoBulk y := by
  obtain ⟨fuel, hf⟩ := hT
  exact h H enc base spare held fuel _ _ hf hw
end Go.Proofs.YtcbimnmpdpkefaaDoorTB

/- DiagOrder: diagnostics turned, doubled, or cut in two parts that are sorted apart, come to the same order, each once, none lost. Conditions: the second form's own bound on how much the arguments hold together. -/
namespace Go.Proofs.YtcbimnmpdpkefaaDoor.diagOrder
open Go.ChangeShapes Go.WideShapes Go.ChangeAt Go.RowKit Go.Lib Go.Proofs.YtcbimnmpdpkefaaDoorW.PrintWords Go.Proofs.YtcbimnmpdpkefaaDoor.A Go.Proofs.YtcbimnmpdpkefaaDoorTB
set_option linter.unusedVariables false
set_option linter.unusedSimpArgs false
theorem laidOut : laidOutB Tryd.prog = true := by kernel_rfl
theorem own : ownKnob Tryd.prog.godebug = none := by kernel_rfl
theorem pow_eq : (Rows.laid_internal_strconv_uint64pow10 : DataW Unit) = tabData .u64 pow10Tab := by kernel_rfl
theorem tabs {W : World} (hL : laidMet Tryd.prog Rows.diagOrderUptoRow.laid W) : GlobP W := ⟨by
  have h := Lib.laidMet.reads hL (n := "internal/strconv.uint64pow10") (.tail _ (.tail _ (.head _)))
  rw [pow_eq] at h
  obtain ⟨g', t', cs, fuel, p, hg', ht', hvar, hd⟩ := h
  obtain rfl := Option.some.inj ((show Tryd.prog.globalNamed "internal/strconv.uint64pow10" = some 2 by kernel_rfl).symm.trans hg')
  obtain rfl := Option.some.inj ((show (Tryd.prog.globals[2]?).map (·.type) = some 145 by kernel_rfl).symm.trans ht')
  unfold TabIs
  rw [hvar, ← cells_of_tab Tryd.underlying145 Tryd.underlying121 (by kernel_rfl) (by kernel_rfl) hd]⟩
theorem opnDiag (w : World) : Opn Tryd.prog w 36 k36 (fun _ => True) :=
  ((Opn.struct (d := Kd.pair (Kd.int .i64) (Kd.pair (Kd.int .i64) (Kd.int .i64))) Tryd.underlying36 (by kernel_rfl) (OpnF.cons (Opn.int Tryd.underlying3) rfl (by kernel_rfl) (OpnF.cons (Opn.int Tryd.underlying3) rfl (by kernel_rfl) (OpnF.one (Opn.int Tryd.underlying3) rfl (by kernel_rfl))))).iso (fun x : S36 => (x.f0, x.f1, x.f2)) (fun p => ⟨p.1, p.2.1, p.2.2⟩) (fun _ => rfl)).mono (fun _ _ => trivial)
theorem bulk_pos {H : Type} (y : DataW H) : 1 ≤ Rows.uptoBulk y := by
  cases y with
  | lit l => cases l <;> simp [Rows.uptoBulk]
  | _ => simp [Rows.uptoBulk]
theorem Opm.one {α : Type} {P : Program} {w : World} {t : TypeId} {d : Kd α} {B : α → Prop} (h : Opn P w t d B) : Opm P w t d B (fun _ => 1) := by
  intro H enc base spare held fuel cs y hy hw
  obtain ⟨x, h1, h2⟩ := h H enc base spare held fuel cs y hy hw
  exact ⟨x, h1, h2, bulk_pos _⟩
theorem opmDiags (w : World) : Opm Tryd.prog w 23 (Kd.slice 36 k36) (fun xs => xs.length * 24 ≤ 140737488351232 ∧ ∀ x ∈ xs, True) (fun xs => (xs.map (fun _ => 1)).sum) :=
  Opm.slice (Opm.one (opnDiag w)) Tryd.underlying23 (by kernel_rfl) (by kernel_rfl)
theorem opmInts (w : World) : Opm Tryd.prog w 33 (Kd.slice 3 (Kd.int .i64)) (fun xs => xs.length * 8 ≤ 140737488351232 ∧ ∀ x ∈ xs, (Lit.int .i64 x).wf = true) (fun xs => (xs.map (fun _ => 1)).sum) :=
  Opm.slice (Opm.one (Opn.int Tryd.underlying3)) Tryd.underlying33 (by kernel_rfl) (by kernel_rfl)
theorem sum_ones {α : Type} : ∀ (l : List α), (l.map (fun _ => 1)).sum = l.length
  | [] => rfl
  | x :: l => by simp only [List.map_cons, List.sum_cons, sum_ones l, List.length_cons]; omega
theorem reads (os : Os) {H : Type} (enc : TypeId × Value → H) : ∃ places, DataW.whole enc Tryd.prog ((World.laidAll Tryd.prog os Rows.diagOrderUptoRow.laid).forCall (fun _ _ => 0) ⟨#[], #[.slice none 0 0, .slice none 0 0, .int .i64 0], []⟩).memory Tryd.f6.params.toList Rows.diagOrderSpec.vars false #[Value.slice none 0 0, .slice none 0 0, .int .i64 0].toList 8 = some ([.nil, .nil, .lit (.int .i64 0)], [], places) :=
  ⟨[], by kernel_rfl⟩
set_option maxRecDepth 100000 in
theorem lifted (os : Os) (started : os.Started) (H : Type) (enc : TypeId × Value → H) (F : Stop.Interp) :
    ReturnsInHanded {} Tryd.checked os 6 .any ((Rows.OpenSpec.upto Rows.diagOrderSpec).preRow enc Tryd.prog Tryd.f6 Rows.diagOrderUptoRow.domain false Rows.diagOrderUptoRow.laid) (((Rows.OpenSpec.upto Rows.diagOrderSpec).at F).post enc Tryd.prog Tryd.f6 false true false false) := by
  obtain ⟨places, hx⟩ := reads os enc
  have hok : Input.okWideB Tryd.prog ((World.laidAll Tryd.prog os Rows.diagOrderUptoRow.laid).forCall (fun _ _ => 0) ⟨#[], #[.slice none 0 0, .slice none 0 0, .int .i64 0], []⟩) 6 ⟨#[], #[.slice none 0 0, .slice none 0 0, .int .i64 0], []⟩ = true := by kernel_rfl
  refine returnsInHanded_of_row (C := Tryd.checked) (s := Rows.OpenSpec.upto Rows.diagOrderSpec) own started (by kernel_rfl) Tryd.func6
    ⟨World.laidAll Tryd.prog os Rows.diagOrderUptoRow.laid, fun _ _ => 0, ⟨#[], #[.slice none 0 0, .slice none 0 0, .int .i64 0], []⟩, World.laidAll_os _ _ _, World.shaped_of_ZipB (by kernel_rfl) (by kernel_rfl), (Input.okWide_of_okWideB (base := 0) hok).1, (Input.okWide_of_okWideB hok).2,
      OpenSpec.preRow_of_cond 8 hx (by kernel_rfl) (fun k hk => by cases hk; kernel_rfl) (by kernel_rfl) (by rw [MakeChecks.laidMetH_plain _ _ _ (by kernel_rfl)]; exact laidMet_laidAll _ (by kernel_rfl) (by kernel_rfl)), by
      simp only [Assume.holds]
      exact ⟨by simp, by simp, fun _ => Modest.zero, by simp, by simp⟩⟩ ?_
  intro W base args ds gs before hval hW hconds hcond hsz hL _ _
  have hW' := hW
  obtain ⟨p, q, hA0, hV, rfl, hfz, hnd⟩ := hW
  have hA : DataW.TrodAll enc Tryd.prog W 0 (fun _ => true) true Tryd.f6.params.toList args.toList ds p := hA0
  rw [Tryd.params6] at hA hval hsz
  obtain ⟨v0, vs0, d0, ds0, p0, q0, hargs, rfl, rfl, h0, r0⟩ := trodAll_cons hA
  obtain ⟨v1, vs1, d1, ds1, p1, q1, rfl, rfl, rfl, h1, r1⟩ := trodAll_cons r0
  obtain ⟨v2, vs2, d2, ds2, p2, q2, rfl, rfl, rfl, h2, r2⟩ := trodAll_cons r1
  obtain ⟨rfl, rfl, rfl⟩ := trodAll_nil r2
  obtain rfl : args = #[v0, v1, v2] := by cases args; simp_all
  obtain ⟨rfl, rfl⟩ := trodVars_none hV
  obtain ⟨a0, len0, cap0, rfl⟩ := okWide_slice Tryd.underlying23 (hval 0 23 v0 rfl rfl)
  obtain ⟨a1, len1, cap1, rfl⟩ := okWide_slice Tryd.underlying33 (hval 1 33 v1 rfl rfl)
  have k0 := h0
  have k1 := h1
  have lt0 : ∀ x ∈ p0, x.block < W.heap.size := by obtain ⟨m, hm⟩ := k0; exact DataW.trod_lt m _ _ _ hm
  have lt1 : ∀ x ∈ p1, x.block < W.heap.size := by obtain ⟨m, hm⟩ := k1; exact DataW.trod_lt m _ _ _ hm
  have hws : (d0.weights Tryd.prog 23).all (· ≤ reachBytes) = true ∧ (d1.weights Tryd.prog 33).all (· ≤ reachBytes) = true := by
    have h := hsz
    simp only [List.cons_append, DataW.weightsEach, List.all_append, Bool.and_eq_true] at h
    exact ⟨h.1, h.2.1⟩
  have hbk : Rows.uptoBulkAll [d0, d1, d2] ≤ 1048576 := of_decide_eq_true (hcond _ rfl)
  obtain ⟨a2, rfl, rfl, rfl, y2⟩ := open_int Tryd.underlying3 (hval 2 3 v2 rfl rfl) h2
  obtain ⟨xs, hK0, _, hb0⟩ := Opm.arg (opmDiags W) h0 hws.1
  obtain ⟨zs, hK1, _, hb1⟩ := Opm.arg (opmInts W) h1 hws.2
  obtain ⟨A0, c0, hcs0, hc0, hC0⟩ := hK0
  obtain ⟨A1, c1, hcs1, hc1, hC1⟩ := hK1
  simp only [Value.cells, List.cons.injEq, Value.slice.injEq, and_true] at hcs0 hcs1
  obtain ⟨rfl, rfl, rfl⟩ := hcs0
  obtain ⟨rfl, rfl, rfl⟩ := hcs1
  rw [sum_ones] at hb0 hb1
  simp only [Rows.uptoBulkAll] at hbk
  rw [MakeChecks.laidMetH_plain _ _ _ (by kernel_rfl)] at hL
  refine (order_walk a0 cap0 xs a1 cap1 zs a2 W (tabs hL) hC0 hc0 (by omega) hC1 hc1 (by omega)).mono fun e W' ⟨he, hb⟩ => ?_
  subst he
  exact ⟨_, rfl, _, _, _, [], _, [], hW', trodAll_mk1 (shut_bool Tryd.underlying4 _), trodAll_cons_mk (Below.trod laidOut (by kernel_rfl) (of_decide_eq_true (by kernel_rfl)) k0 hb lt0) (trodAll_cons_mk (Below.trod laidOut (by kernel_rfl) (of_decide_eq_true (by kernel_rfl)) k1 hb lt1) (trodAll_cons_mk (shut_int Tryd.underlying3 y2) trodAll_mk0)), rfl, hb.frame _, fun h => by cases h⟩
theorem said : Rows.DiagOrderUptoSaid :=
  OpenClaim.holds_of_cond 6 Tryd.f6 rfl rfl rfl rfl rfl rfl rfl ⟨rfl, rfl, rfl, rfl, rfl⟩ rfl rfl rfl rfl rfl (by kernel_rfl) Tryd.func6 (by kernel_rfl)
    (of_decide_eq_true (by kernel_rfl)) (by unfold Func.isWrapper; first | (rw [if_pos (by decide +kernel)]; kernel_rfl) | (rw [if_neg (by decide +kernel)]; exact ⟨rfl, rfl⟩))
    (fun os started H enc _ F => by rw [OpenClaim.pre_eq_preRow]; exact lifted os started H enc F)
theorem plain (f : FuncId) (fn : Func) (hf : Tryd.pinned.checked.prog.funcNamed Rows.diagOrderUptoRow.func = some f) (hfn : Tryd.pinned.checked.prog.funcs[f]? = some fn) :
    false = Tryd.pinned.checked.prog.looks [] ∧ ∀ (j : Nat) t, fn.params[j]? = some t → Tryd.pinned.checked.prog.wantsStandIn t = false := by
  obtain rfl : f = 6 := Option.some.inj ((show Tryd.prog.funcNamed Rows.diagOrderUptoRow.func = some 6 by kernel_rfl).symm.trans hf) |>.symm
  obtain rfl : fn = Tryd.f6 := (Option.some.inj (Tryd.func6.symm.trans hfn)).symm
  refine ⟨by kernel_rfl, fun j t ht => ?_⟩
  rw [Tryd.params6] at ht
  have hm := Array.mem_of_getElem? ht
  simp only [List.mem_toArray, List.mem_cons, List.not_mem_nil, or_false] at hm
  rcases hm with rfl | rfl | rfl
  · exact (show Tryd.prog.wantsStandIn 23 = false by kernel_rfl)
  · exact (show Tryd.prog.wantsStandIn 33 = false by kernel_rfl)
  · exact (show Tryd.prog.wantsStandIn 3 = false by kernel_rfl)
theorem card : Rows.DiagOrderUptoCardSaid :=
  Claim7.holds_tied_plain_at .later [] _ _ _ _ said (fun _ h => by cases h) (by kernel_rfl) (fun _ h => by cases h) diagOrderUpto_row_tie rfl ⟨rfl, rfl⟩ (by kernel_rfl) rfl plain (by kernel_rfl)
end Go.Proofs.YtcbimnmpdpkefaaDoor.diagOrder
namespace Go.Proofs.YtcbimnmpdpkefaaDoor
/-- The card, under a short name, for the claim. -/
theorem diagOrderUpto_card : Rows.DiagOrderUptoCardSaid := diagOrder.card
#print axioms diagOrderUpto_card
end Go.Proofs.YtcbimnmpdpkefaaDoor
