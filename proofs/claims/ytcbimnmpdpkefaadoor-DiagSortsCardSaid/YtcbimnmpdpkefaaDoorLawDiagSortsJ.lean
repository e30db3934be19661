import Derived.Test.YtcbimnmpdpkefaaDoorAx20
import Derived.Test.YtcbimnmpdpkefaaDoorAx29
import Derived.Test.YtcbimnmpdpkefaaDoorAx30
import Derived.Test.YtcbimnmpdpkefaaDoorAx32
import Derived.Test.YtcbimnmpdpkefaaDoorPureShown
import Derived.Test.YtcbimnmpdpkefaaDoorCards
import Derived.Test.YtcbimnmpdpkefaaDoorTie
import Derived.Test.YtcbimnmpdpkefaaDoorOpen
import Derived.WalkKit
import Derived.ProofKit
import Derived.OpenShut
import Derived.ShutString
import Derived.ChangeOld
import Derived.Below
import Derived.SizedLaws
import Derived.PinnedBridge
import Derived.Lay
import Derived.Lib.LaidTab
import Derived.Deep.DeepHandedRow
import Derived.SevenTiedAt
/- diag.Sort and the document's, in plain words. -/
set_option linter.unusedVariables false
set_option linter.unusedSimpArgs false
namespace Go.Proofs.YtcbimnmpdpkefaaDoor.A
open Go.RowKit Go.Sort Go.Proofs.YtcbimnmpdpkefaaDoorW.PrintWords Go.Proofs.YtcbimnmpdpkefaaDoorW.PrintLast Go.Proofs.YtcbimnmpdpkefaaDoorW.PrintMore

abbrev Ds := S36
theorem lt_irr (x : Ds) : ¬ ds_lt x x := by unfold ds_lt; omega
theorem lt_trans (x y z : Ds) (h1 : ds_lt x y) (h2 : ds_lt y z) : ds_lt x z := by unfold ds_lt at *; omega
theorem lt_tri (x y : Ds) : ds_lt x y ∨ x = y ∨ ds_lt y x := by
  by_cases h1 : ds_lt x y
  · exact .inl h1
  · by_cases h2 : ds_lt y x
    · exact .inr (.inr h2)
    · exact .inr (.inl (ds_total x y (by rw [ds_ltOf]; exact decide_eq_false h1) (by rw [ds_ltOf]; exact decide_eq_false h2)))
/-- A list that is in order, each once, is told by what is in it. -/
theorem sorted_uniq : ∀ (l m : List Ds), l.Pairwise ds_lt → m.Pairwise ds_lt → (∀ x, x ∈ l ↔ x ∈ m) → l = m
  | [], m, _, _, h => by
    cases m with
    | nil => rfl
    | cons b m => exact absurd ((h b).2 List.mem_cons_self) (by simp)
  | a :: l, [], _, _, h => absurd ((h a).1 List.mem_cons_self) (by simp)
  | a :: l, b :: m, hl, hm, h => by
    obtain ⟨hl1, hl2⟩ := List.pairwise_cons.1 hl
    obtain ⟨hm1, hm2⟩ := List.pairwise_cons.1 hm
    have hab : a = b := by
      rcases List.mem_cons.1 ((h a).1 List.mem_cons_self) with e | e
      · exact e
      · rcases List.mem_cons.1 ((h b).2 List.mem_cons_self) with e' | e'
        · exact e'.symm
        · exact absurd (lt_trans _ _ _ (hl1 b e') (hm1 a e)) (lt_irr a)
    subst hab
    rw [sorted_uniq l m hl2 hm2 (fun x => ⟨fun hx => by
      rcases List.mem_cons.1 ((h x).1 (List.mem_cons_of_mem _ hx)) with e | e
      · subst e; exact absurd (hl1 x hx) (lt_irr x)
      · exact e, fun hx => by
      rcases List.mem_cons.1 ((h x).2 (List.mem_cons_of_mem _ hx)) with e | e
      · subst e; exact absurd (hm1 x hx) (lt_irr x)
      · exact e⟩)]
theorem eq_of_ds {x y : Ds} (h : ds_eq x y = true) : x = y := by
  unfold ds_eq at h
  simp only [Bool.and_eq_true, beq_iff_eq] at h
  obtain ⟨a, b, c⟩ := x
  obtain ⟨a', b', c'⟩ := y
  simp_all
theorem ds_refl (x : Ds) : ds_eq x x = true := by simp [ds_eq]
instance : DecidableEq Ds := fun x y => decidable_of_iff (ds_eq x y = true) ⟨eq_of_ds, fun h => h ▸ ds_refl x⟩
def leD (x y : Ds) : Prop := ¬ ds_lt y x
theorem dd_mem : ∀ (p : Option Ds) (l : List Ds) (x : Ds), x ∈ ds_dd p l → x ∈ l
  | _, [], x, h => by simp [ds_dd] at h
  | none, y :: l, x, h => by
    simp only [ds_dd] at h
    rcases List.mem_cons.1 h with rfl | h
    · exact List.mem_cons_self
    · exact List.mem_cons_of_mem _ (dd_mem (some y) l x h)
  | some p, y :: l, x, h => by
    simp only [ds_dd] at h
    split at h
    · exact List.mem_cons_of_mem _ (dd_mem (some y) l x h)
    · rcases List.mem_cons.1 h with rfl | h
      · exact List.mem_cons_self
      · exact List.mem_cons_of_mem _ (dd_mem (some y) l x h)
theorem dd_some : ∀ (l : List Ds) (p : Ds), (∀ y ∈ l, leD p y) → l.Pairwise leD → (ds_dd (some p) l).Pairwise ds_lt ∧ (∀ x ∈ ds_dd (some p) l, ds_lt p x) ∧ ∀ x ∈ l, x = p ∨ x ∈ ds_dd (some p) l
  | [], p, _, _ => by simp [ds_dd]
  | y :: l, p, h1, h2 => by
    obtain ⟨h3, h4⟩ := List.pairwise_cons.1 h2
    obtain ⟨i1, i2, i3⟩ := dd_some l y h3 h4
    simp only [ds_dd]
    by_cases e : ds_eq y p = true
    · obtain rfl := eq_of_ds e
      rw [if_pos e]
      exact ⟨i1, i2, fun x hx => by
        rcases List.mem_cons.1 hx with rfl | hx
        · exact .inl rfl
        · exact i3 x hx⟩
    · rw [if_neg e]
      have hpy : ds_lt p y := by
        rcases lt_tri p y with h | h | h
        · exact h
        · subst h; exact absurd (ds_refl p) e
        · exact absurd h (h1 y List.mem_cons_self)
      refine ⟨List.pairwise_cons.2 ⟨i2, i1⟩, fun x hx => ?_, fun x hx => ?_⟩
      · rcases List.mem_cons.1 hx with rfl | hx
        · exact hpy
        · exact lt_trans _ _ _ hpy (i2 x hx)
      · rcases List.mem_cons.1 hx with rfl | hx
        · exact .inr List.mem_cons_self
        · rcases i3 x hx with rfl | h
          · exact .inr List.mem_cons_self
          · exact .inr (List.mem_cons_of_mem _ h)
/-- In order, each once. -/
def srt (l : List Ds) : List Ds := ds_dd none (ds_srt l)
theorem srt_sorted (l : List Ds) : (srt l).Pairwise ds_lt ∧ ∀ x, x ∈ srt l ↔ x ∈ l := by
  have hp : (ds_srt l).Pairwise leD := by
    have h := List.pairwise_mergeSort (le := fun x y : Ds => !(ltOf ds_cmp) y x) (fun a b c h1 h2 => by
      simp only [Bool.not_eq_true', ds_ltOf, decide_eq_false_iff_not] at *
      unfold ds_lt at *; omega) (fun a b => by
      simp only [Bool.or_eq_true, Bool.not_eq_true', ds_ltOf, decide_eq_false_iff_not]
      unfold ds_lt; omega) l
    refine List.Pairwise.imp (fun {a b} h => ?_) h
    simp only [Bool.not_eq_true', ds_ltOf, decide_eq_false_iff_not] at h
    exact h
  have hm : ∀ x, x ∈ ds_srt l ↔ x ∈ l := fun x => by unfold ds_srt; exact List.mem_mergeSort
  unfold srt
  cases hs : ds_srt l with
  | nil =>
    rw [hs] at hm
    simp only [ds_dd]
    exact ⟨List.Pairwise.nil, hm⟩
  | cons y m =>
    rw [hs] at hp hm
    obtain ⟨h3, h4⟩ := List.pairwise_cons.1 hp
    obtain ⟨i1, i2, i3⟩ := dd_some m y h3 h4
    simp only [ds_dd]
    refine ⟨List.pairwise_cons.2 ⟨i2, i1⟩, fun x => ⟨fun hx => ?_, fun hx => ?_⟩⟩
    · rcases List.mem_cons.1 hx with rfl | hx
      · exact (hm x).1 List.mem_cons_self
      · exact (hm x).1 (List.mem_cons_of_mem _ (dd_mem _ _ _ hx))
    · rcases List.mem_cons.1 ((hm x).2 hx) with rfl | hx
      · exact List.mem_cons_self
      · rcases i3 x hx with rfl | h
        · exact List.mem_cons_self
        · exact List.mem_cons_of_mem _ h
theorem srt_srt (l : List Ds) : srt (srt l) = srt l :=
  sorted_uniq _ _ (srt_sorted _).1 (srt_sorted _).1 (fun x => (srt_sorted (srt l)).2 x)
theorem dd_length : ∀ (p : Option Ds) (l : List Ds), (ds_dd p l).length ≤ l.length
  | _, [] => by simp [ds_dd]
  | none, y :: l => by
    have := dd_length (some y) l
    simp only [ds_dd, List.length_cons]; omega
  | some p, y :: l => by
    have := dd_length (some y) l
    simp only [ds_dd]
    split <;> simp only [List.length_cons] <;> omega
theorem srt_length (l : List Ds) : (srt l).length ≤ l.length := by
  have := dd_length none (ds_srt l)
  rw [ds_srt_length] at this
  exact this
/-- One more put in. -/
def ins (d : Ds) : List Ds → List Ds
  | [] => [d]
  | x :: l => if ds_lt x d then x :: ins d l else if x = d then x :: l else d :: x :: l
theorem ins_mem (d : Ds) : ∀ (l : List Ds) (x : Ds), x ∈ ins d l ↔ x = d ∨ x ∈ l
  | [], x => by simp [ins]
  | y :: l, x => by
    simp only [ins]
    split
    · rw [List.mem_cons, List.mem_cons, ins_mem d l x]
      constructor
      · rintro (h | h | h)
        · exact .inr (.inl h)
        · exact .inl h
        · exact .inr (.inr h)
      · rintro (h | h | h)
        · exact .inr (.inl h)
        · exact .inl h
        · exact .inr (.inr h)
    · split
      · rename_i e
        subst e
        simp
      · simp
theorem ins_sorted (d : Ds) : ∀ (l : List Ds), l.Pairwise ds_lt → (ins d l).Pairwise ds_lt
  | [], h => by simp [ins]
  | y :: l, h => by
    obtain ⟨h1, h2⟩ := List.pairwise_cons.1 h
    simp only [ins]
    split
    · rename_i c
      refine List.pairwise_cons.2 ⟨fun x hx => ?_, ins_sorted d l h2⟩
      rcases (ins_mem d l x).1 hx with rfl | hx
      · exact c
      · exact h1 x hx
    · split
      · exact h
      · rename_i c e
        have hdy : ds_lt d y := by
          rcases lt_tri y d with q | q | q
          · exact absurd q c
          · exact absurd q e
          · exact q
        refine List.pairwise_cons.2 ⟨fun x hx => ?_, h⟩
        rcases List.mem_cons.1 hx with rfl | hx
        · exact hdy
        · exact lt_trans _ _ _ hdy (h1 x hx)
theorem less_eq (x y : Ds) : scholiastref20_less.f x.f0 x.f1 x.f2 y.f0 y.f1 y.f2 = some (decide (ds_lt x y)) := by
  unfold scholiastref20_less.f ds_lt
  split
  · rename_i h
    split
    · rename_i h2
      exact congrArg some (decide_eq_decide.2 (by omega))
    · rename_i h2
      exact congrArg some (decide_eq_decide.2 (by omega))
  · exact congrArg some (decide_eq_decide.2 (by omega))
theorem beq_ds (x y : Ds) : ((x.f0 == y.f0) && ((x.f1 == y.f1) && (x.f2 == y.f2))) = decide (x = y) := by
  obtain ⟨a, b, c⟩ := x
  obtain ⟨a', b', c'⟩ := y
  by_cases h1 : a = a' <;> by_cases h2 : b = b' <;> by_cases h3 : c = c' <;> simp [h1, h2, h3]
theorem wrap_inD {i : Int} {n : Nat} (h0 : 0 ≤ i) (h : i < (n : Int)) (hn : n ≤ 9223372036854775807) : wrap64 (i + 1) = i + 1 := by unfold wrap64; omega
theorem rsort_l1 (out l : List Ds) (len i : Int) (d : Ds) (R : List Ds) (ho : out.length < 5864062014804)
    (hnext : ∃ k, scholiastref20_Sort.l0 k (ins d out) l len (wrap64 (i + 1)) = some R) :
    ∀ (n : Nat) (j : Int), 0 ≤ j → j + n = out.length → ins d out = out.take j.toNat ++ ins d (out.drop j.toNat) →
    ∃ k, scholiastref20_Sort.l1 k out j l len i d.f0 d.f1 d.f2 = some R
  | 0, j, h0, h1, h => by
    obtain ⟨k, hk⟩ := hnext
    rw [h, List.drop_eq_nil_of_le (by omega), List.take_of_length_le (by omega)] at hk
    refine ⟨k + 1, ?_⟩
    simp only [scholiastref20_Sort.l1]
    rw [if_neg (by omega), if_pos h0, if_pos (by omega)]
    simp only [Option.bind_some, List.nil_append, List.length_nil, Nat.zero_add]
    rw [List.take_of_length_le (by omega), List.drop_eq_nil_of_le (by omega), if_pos (by omega), if_pos (by omega), if_pos (by simp; omega)]
    simpa [ins] using hk
  | n + 1, j, h0, h1, h => by
    have hd := ds_drop out j h0 (by omega)
    rw [hd] at h
    simp only [ins] at h
    by_cases c1 : ds_lt (rd_T36 out j) d
    · rw [if_pos c1] at h
      obtain ⟨k, hk⟩ := rsort_l1 out l len i d R ho hnext n (j + 1) (by omega) (by omega) (by
        rw [h]
        have hl : j.toNat < out.length := by omega
        rw [show (j + 1).toNat = j.toNat + 1 by omega, List.take_add_one]
        have hg : out[j.toNat]? = some (rd_T36 out j) := by
          rw [List.getElem?_eq_getElem hl]
          rw [List.drop_eq_getElem_cons hl] at hd
          rw [(List.cons.inj hd).1]
        rw [hg]
        simp)
      refine ⟨k + 1, ?_⟩
      simp only [scholiastref20_Sort.l1]
      rw [if_pos (by omega), if_pos h0, less_eq, decide_eq_true c1]
      simp only [Option.bind_some, if_true]
      rw [wrap_inD (n := out.length) h0 (by omega) (by omega)]; exact hk
    · rw [if_neg c1] at h
      obtain ⟨k, hk⟩ := hnext
      refine ⟨k + 1, ?_⟩
      simp only [scholiastref20_Sort.l1]
      rw [if_pos (by omega), if_pos h0, less_eq, decide_eq_false c1, beq_ds]
      simp only [Option.bind_some, Bool.false_eq_true, if_false]
      by_cases c2 : rd_T36 out j = d
      · rw [if_pos c2, ← hd, List.take_append_drop] at h
        rw [if_pos (decide_eq_true c2)]
        rw [h] at hk; exact hk
      · rw [if_neg c2, ← hd] at h
        rw [if_neg (by simp [c2]), if_pos (by omega)]
        simp only [Option.bind_some, List.nil_append, List.length_nil, Nat.zero_add]
        rw [if_pos (by rw [List.length_take]; omega), if_pos (by rw [List.length_take]; omega), if_pos (by simp only [List.length_append, List.length_take, List.length_drop, List.length_singleton]; omega)]
        rw [h] at hk
        simpa using hk
theorem ins_length (d : Ds) : ∀ (l : List Ds), (ins d l).length ≤ l.length + 1
  | [] => by simp [ins]
  | y :: l => by
    have := ins_length d l
    simp only [ins]
    split
    · simp only [List.length_cons]; omega
    · split <;> simp
theorem rsort_l0 (l : List Ds) (hl : l.length < 5864062014804) : ∀ (n : Nat) (i : Int) (out : List Ds), 0 ≤ i → i + n = l.length → (out.length : Int) ≤ i → out.Pairwise ds_lt →
    ∃ k m, scholiastref20_Sort.l0 k out l l.length i = some m ∧ m.Pairwise ds_lt ∧ ∀ x, x ∈ m ↔ x ∈ out ∨ x ∈ l.drop i.toNat
  | 0, i, out, h0, h1, h2, h3 => ⟨1, out, by simp only [scholiastref20_Sort.l0]; rw [if_neg (by omega)], h3, fun x => by rw [List.drop_eq_nil_of_le (by omega)]; simp⟩
  | n + 1, i, out, h0, h1, h2, h3 => by
    have hd := ds_drop l i h0 (by omega)
    have hil := ins_length (rd_T36 l i) out
    obtain ⟨k, m, hk, hm1, hm2⟩ := rsort_l0 l hl n (i + 1) (ins (rd_T36 l i) out) (by omega) (by omega) (by omega) (ins_sorted _ _ h3)
    obtain ⟨k2, hk2⟩ := rsort_l1 out l l.length i (rd_T36 l i) m (by omega) ⟨k, by rw [wrap_inD (n := l.length) h0 (by omega) (by omega)]; exact hk⟩ out.length 0 (by omega) (by omega) (by simp)
    refine ⟨k2 + 1, m, ?_, hm1, fun x => ?_⟩
    · simp only [scholiastref20_Sort.l0]
      rw [if_pos (by omega), if_pos h0, if_pos (by omega)]; exact hk2
    · rw [hm2 x, ins_mem, hd, List.mem_cons]
      constructor
      · rintro ((h | h) | h)
        · exact .inr (.inl h)
        · exact .inl h
        · exact .inr (.inr h)
      · rintro (h | h | h)
        · exact .inl (.inr h)
        · exact .inl (.inl h)
        · exact .inr h
theorem rsort_ok (l : List Ds) (hl : l.length < 5864062014804) : ∃ k, scholiastref20_Sort.f k l = some (srt l) := by
  obtain ⟨k, m, hk, h1, h2⟩ := rsort_l0 l hl l.length 0 [] (by omega) (by omega) (by simp) List.Pairwise.nil
  refine ⟨k, ?_⟩
  unfold scholiastref20_Sort.f
  rw [hk, sorted_uniq m (srt l) h1 (srt_sorted l).1 (fun x => by rw [h2 x, (srt_sorted l).2 x]; simp)]
theorem sort_ok (l : List Ds) (hl : l.length < 5864062014804) : diag_Sort.f l = some (srt l) := by
  unfold diag_Sort.f srt
  rw [if_pos (by omega)]
theorem marked_l : ∀ (n k : Nat) (x0 : List Ds) (i : Int), 0 ≤ i → i + n = x0.length → n < k → x0.length < 5864062014803 → scholiastlaw20_marked.l0 k x0 x0.length i = some ()
  | 0, k, x0, i, h0, h1, h2, h3 => by
    obtain ⟨k, rfl⟩ : ∃ m, k = m + 1 := ⟨k - 1, by omega⟩
    simp only [scholiastlaw20_marked.l0]
    rw [if_neg (by omega)]
    simp only [Option.bind_some, List.length_cons, List.length_nil]
    rw [if_pos (by omega), if_pos (by simp; omega)]
  | n + 1, k, x0, i, h0, h1, h2, h3 => by
    obtain ⟨k, rfl⟩ : ∃ m, k = m + 1 := ⟨k - 1, by omega⟩
    simp only [scholiastlaw20_marked.l0]
    rw [if_pos (by omega), if_pos h0, if_pos (by omega), wrap_inD (n := x0.length) h0 (by omega) (by omega)]
    have := marked_l n k (x0.set i.toNat ⟨-7, 0, 0⟩) (i + 1) (by omega) (by simp; omega) (by omega) (by simpa using h3)
    simpa using this
theorem marked_ok (l : List Ds) (hl : l.length < 5864062014803) : ∃ k, scholiastlaw20_marked.f k l = some () :=
  ⟨l.length + 1, marked_l l.length (l.length + 1) l 0 (by omega) (by omega) (by omega) hl⟩
end Go.Proofs.YtcbimnmpdpkefaaDoor.A

/- What is lent, with something behind its end; is it as it was? -/
set_option linter.unusedVariables false
set_option linter.unusedSimpArgs false
namespace Go.Proofs.YtcbimnmpdpkefaaDoor.A
open Go.RowKit Go.Proofs.YtcbimnmpdpkefaaDoorW.PrintWords Go.Proofs.YtcbimnmpdpkefaaDoorW.PrintLast Go.Proofs.YtcbimnmpdpkefaaDoorW.PrintMore

abbrev kD := k36
def m9 : Ds := ⟨-9, 0, 0⟩
/-- The head of a row. -/
theorem C_headD {α : Type} {d : Kd α} {w : World} {A : Option Addr} {l m : List α} (h : d.C w A (l ++ m).length (l ++ m)) : d.C w A l.length l := by
  obtain ⟨_, h2, h3⟩ := h
  refine ⟨rfl, by rw [List.length_append] at h2; omega, fun h0 => ?_⟩
  obtain ⟨ad, e, hc⟩ := h3 (by rw [List.length_append]; omega)
  exact ⟨ad, e, fun j p hj => hc j p (by rw [List.getElem?_append_left (List.getElem?_eq_some_iff.1 hj).1]; exact hj)⟩
set_option maxHeartbeats 4000000 in
set_option maxRecDepth 100000 in
theorem lentD (A0 : Option Addr) (c0 : Nat) (l0 : List Ds) (w : World) (hr0 : Kd.C kD w A0 l0.length l0) (hc0 : l0.length ≤ c0) (hl : l0.length < 5864062014803) :
    Calls Tryd.prog 20 #[.slice A0 l0.length c0] w fun e w' => ∃ g cap, e = .returned (.slice (some ⟨g, 0, none⟩) l0.length cap) ∧ Kd.R kD 36 w' w.heap.size (fun _ => True) (.slice (some ⟨g, 0, none⟩) (l0 ++ [m9]).length cap) (l0 ++ [m9]) ∧ (l0 ++ [m9]).length ≤ cap ∧ Below w.heap.size w w' := by
  have HR0 := Aside0.mk hr0
  have HB := Aside0.mk (Below.refl w.heap.size w)
  clear hr0
  go_enter Tryd.func20, Tryd.ntmps20
  go_wp2_with (first
    | ((with_reducible refine gate_builtin (b := .append) (xs := #[.const (.slice none 0 0), .tmp 3]) rfl ?_); at_builtin; refine Kd.R_append_rows kD (w0 := w) w.heap.size rfl (.const (.slice none 0 0)) (.tmp 3) 23 36 (.agg #[(.int .i64 0), (.int .i64 0), (.int .i64 0)]) 24 rfl Tryd.underlying23 info36 rfl (by decide) (by omega) (.slice none 0 0) ([] : List Ds) l0 _ _ _ (fun _ => True) (fun _ => False) rfl rfl ?aO ?aR (fun _ _ h => h) (fun _ h => h.elim) ?aF ?aB ?aS ?aL ?_; (case aR => exact HR0.out); (case aB => exact HB.out); (case aF => exact (fun _ _ => trivial)); (case aO => exact ((Kd.R_nil _ _ _ _ (fun _ => True)))); (case aS => exact (below_size HB.out)); (case aL => simp only [List.length_nil]; omega); intro v6 w6 ho hb hg hat; rw [List.nil_append] at ho; have HB6 := Aside0.mk hb; have HO6 := Aside0.mk ho; clear ho hb hg hat)
    | ((with_reducible refine gate_builtin (b := .append) (xs := #[.tmp 4, .tmp 6]) rfl ?_); at_builtin; refine Kd.R_append kD (w0 := w) w.heap.size rfl (.tmp 4) (.tmp 6) 23 36 (.agg #[(.int .i64 0), (.int .i64 0), (.int .i64 0)]) 24 rfl Tryd.underlying23 info36 rfl (by decide) (by omega) v6 l0 m9 [.int .i64 (-9), .int .i64 0, .int .i64 0] (fun _ => True) (fun _ => False) rfl rfl ?aP (fun _ hk => hk.elim) ?aF ?aO ?aB ?aS ?aL ?_; (case aP => exact k36_mkM _ _ _ m9); (case aB => exact (by repeat (first | (with_reducible first | exact HB6.out | apply below_alloc | apply pw_below_drewN | apply below_drew1) | exact HB6.out))); (case aF => exact (fun _ _ => trivial)); (case aO => exact (by (with_reducible repeat (first | apply Kd.R_alloc | apply Kd.R_drewN | apply Kd.R_drew)); exact HO6.out)); (case aS => exact (below_size (by repeat (first | (with_reducible first | exact HB6.out | apply below_alloc | apply pw_below_drewN | apply below_drew1) | exact HB6.out)))); (case aL => omega); intro v7 w7 ho hb hg hat; have HB7 := Aside0.mk hb; have HO7 := Aside0.mk ho; clear ho hb hg hat; obtain ⟨gx, cx, rfl, _, _, _⟩ := Kd.R_form HO7.out (by simp); have hcx : (l0 ++ [m9]).length ≤ cx := (by obtain ⟨_, _, e, h, _⟩ := Kd.R_reads HO7.out; cases e; exact h); have HCX := Aside0.mk hcx; have p6 := eq_true (show l0.length ≤ cx by rw [List.length_append] at hcx; omega); have p7 := eq_true (show (l0.length : Int) ≤ (cx : Int) by rw [List.length_append] at hcx; omega); clear hcx))
  go_ret
  exact ⟨gx, cx, rfl, HO7.out, HCX.out, HB7.out⟩
set_option maxHeartbeats 4000000 in
set_option maxRecDepth 100000 in
theorem keptD (k : Nat) (g cap : Nat) (A1 : Option Addr) (c1 : Nat) (l0 : List Ds) (w : World) (hr0 : Kd.C kD w (some ⟨g, 0, none⟩) (l0 ++ [m9]).length (l0 ++ [m9])) (hc : (l0 ++ [m9]).length ≤ cap) (hr1 : Kd.C kD w A1 l0.length l0) (hc1 : l0.length ≤ c1) (hl : l0.length < 5864062014803) (hs : scholiastlaw20_same.f k l0 l0 = some true) :
    Calls Tryd.prog 24 #[.slice (some ⟨g, 0, none⟩) l0.length cap, .slice A1 l0.length c1] w fun e w' => e = .returned (.bool true) ∧ Below w.heap.size w w' := by
  have hsame := scholiastlaw20_same.calls k (some ⟨g, 0, none⟩) cap l0 A1 c1 l0 true w (C_headD hr0) (by rw [List.length_append] at hc; omega) hr1 hc1 hs
  have HSAME := Aside0.mk hsame
  have HR0 := Aside0.mk hr0
  have hcap : l0.length + 1 ≤ cap := by rw [List.length_append] at hc; exact hc
  clear hsame hr0 hr1 hs
  go_enter Tryd.func24, Tryd.ntmps24
  have hw1 : wrap64 ((l0.length : Int) + 1) = (l0.length : Int) + 1 := by unfold wrap64; omega
  have p5 := eq_true (show (0 : Int) ≤ (l0.length : Int) + 1 by omega)
  have p6 := eq_true hcap
  have p7 := eq_true (show (l0.length : Int) + 1 ≤ (cap : Int) by omega)
  have p8 := eq_true (show (l0.length : Int) < (l0.length : Int) + 1 by omega)
  go_wp2_with (go_at_call 23; refine HSAME.out.mono ?_; rintro e w1 ⟨rfl, ⟨n_, rfl⟩⟩; obtain ⟨ad, ead, hx, _⟩ := at_T36 (Kd.C_drewN HR0.out n_) (l0.length : Int) (by omega) (by simp; omega); obtain rfl := Option.some.inj ead; rw [show (rd_T36 (l0 ++ [m9]) (l0.length : Int)).f0 = -9 by unfold rd_T36; rw [List.getD_eq_getElem?_getD, Int.toNat_natCast, List.getElem?_append_right (Nat.le_refl _), Nat.sub_self]; rfl, Int.toNat_natCast, add_plain] at hx)
  go_ret
  exact ⟨rfl, pw_below_drewN (Below.refl _ _) _⟩
end Go.Proofs.YtcbimnmpdpkefaaDoor.A

/- DiagSorts: the walk. -/
set_option linter.unusedVariables false
set_option linter.unusedSimpArgs false
namespace Go.Proofs.YtcbimnmpdpkefaaDoor.A
open Go.RowKit Go.Proofs.YtcbimnmpdpkefaaDoorW.PrintWords Go.Proofs.YtcbimnmpdpkefaaDoorW.PrintLast Go.Proofs.YtcbimnmpdpkefaaDoorW.PrintMore

theorem same_lS (l : List Ds) (hl : l.length ≤ 5864062014805) : ∀ (n : Nat) (i : Int), 0 ≤ i → i + n = l.length → ∃ k, scholiastlaw20_same.l0 k l l l.length i = some true
  | 0, i, h0, h1 => ⟨1, by simp only [scholiastlaw20_same.l0]; rw [if_neg (by omega)]⟩
  | n + 1, i, h0, h1 => by
    obtain ⟨k, hk⟩ := same_lS l hl n (i + 1) (by omega) (by omega)
    refine ⟨k + 1, ?_⟩
    simp only [scholiastlaw20_same.l0]
    rw [if_pos (by omega), if_pos h0, if_pos (by omega), if_pos (by omega), wrap_inD (n := l.length) h0 (by omega) (by omega), hk]
    simp
theorem same_reflS (l : List Ds) (hl : l.length ≤ 5864062014805) : ∃ k, scholiastlaw20_same.f k l l = some true := by
  obtain ⟨k, hk⟩ := same_lS l hl l.length 0 (by omega) (by omega)
  exact ⟨k, by unfold scholiastlaw20_same.f; rw [if_pos rfl, hk]⟩
theorem drawn_below {w w' : World} (h : Drawn0 w w') : Below w.heap.size w w' := by
  obtain ⟨n, rfl⟩ := h
  exact pw_below_drewN (Below.refl _ _) _
theorem R_C {w : World} {base : Nat} {ok : Nat → Prop} {A : Option Addr} {n c : Nat} {xs : List Ds} (h : Kd.R kD 36 w base ok (.slice A n c) xs) (e : xs.length = n) : Kd.C kD w A xs.length xs ∧ xs.length ≤ c := by
  subst e
  obtain ⟨_, _, e, h1, h2⟩ := Kd.R_reads h
  cases e
  exact ⟨h2, h1⟩
set_option maxHeartbeats 8000000 in
set_option maxRecDepth 100000 in
theorem sorts_walk (A0 : Option Addr) (c0 : Nat) (l : List Ds) (w : World) (hG : GlobP w) (hr0 : Kd.C kD w A0 l.length l) (hc0 : l.length ≤ c0) (hl : l.length < 5864062014800) :
    Calls Tryd.prog 5 #[.slice A0 l.length c0] w fun e w' => e = .returned (.bool true) ∧ Below w.heap.size w w' := by
  have hsl := srt_length l
  obtain ⟨kr, hkr⟩ := rsort_ok l (by omega)
  obtain ⟨ks, hks⟩ := same_reflS (srt l) (by omega)
  obtain ⟨kl, hkl⟩ := same_reflS l (by omega)
  obtain ⟨km, hkm⟩ := marked_ok (srt l) (by omega)
  have hso := sort_ok l (by omega)
  have hso2 : diag_Sort.f (srt l) = some (srt l) := by rw [sort_ok (srt l) (by omega), srt_srt]
  have HSH := Aside0.mk (scholiastlaw20_shown.calls 20 true w hG shown_true)
  have HR0 := Aside0.mk hr0
  have HS := Aside0.mk hso
  have HS2 := Aside0.mk hso2
  have HKR := Aside0.mk hkr
  have HKS := Aside0.mk hks
  have HKL := Aside0.mk hkl
  have HKM := Aside0.mk hkm
  clear hr0 hG hso hso2 hkr hks hkl hkm
  generalize srt l = sl at *
  go_enter Tryd.func5, Tryd.ntmps5
  go_upto_region 3 with (go_at_call 15; refine HSH.out.mono ?_; rintro e w1 ⟨rfl, hB⟩; have HB1 := Aside0.mk hB; clear hB)
  have HL1 := Aside0.mk (lentD A0 c0 l w1 (Kd.C_below HR0.out HB1.out) hc0 (by omega))
  go_upto_region 4 with (go_at_call 20; refine HL1.out.mono ?_; rintro e w2 ⟨g, cap, rfl, hR, hcap, hB⟩; have HO2 := Aside0.mk (R_C hR rfl).1; have HCAP := Aside0.mk hcap; have HB12 := Aside0.mk hB; have HB2 := Aside0.mk (below_then HB1.out HB1.out.size hB); clear hR hcap hB)
  have hcap2 : l.length ≤ cap := by have := HCAP.out; rw [List.length_append] at this; omega
  have HSA := Aside0.mk (diag_Sort.calls (some ⟨g, 0, none⟩) cap l sl w2 (C_headD HO2.out) hcap2 HS.out)
  go_upto_region 5 with (go_at_call 21; refine HSA.out.mono ?_; rintro e w3 ⟨va, rfl, hR, hB⟩; obtain ⟨Aa, ca, rfl⟩ := Kd.R_slice hR; have HRA := Aside0.mk hR; have HB23 := Aside0.mk hB; clear hR hB)
  have HSB := Aside0.mk (diag_Sort.calls (some ⟨g, 0, none⟩) cap l sl w3 (C_headD (Kd.C_below HO2.out HB23.out)) hcap2 HS.out)
  go_upto_region 6 with (go_at_call 21; refine HSB.out.mono ?_; rintro e w4 ⟨vb, rfl, hR, hB⟩; obtain ⟨Ab, cb, rfl⟩ := Kd.R_slice hR; have HRB := Aside0.mk hR; have HB34 := Aside0.mk hB; have HB24 := Aside0.mk (below_then HB23.out HB23.out.size hB); clear hR hB)
  have HB4 := Aside0.mk (below_then HB2.out HB2.out.size HB24.out)
  have HSW := Aside0.mk (scholiastref20_Sort.calls kr A0 c0 l sl w4 (Kd.C_below HR0.out HB4.out) hc0 HKR.out)
  go_upto_region 7 with (go_at_call 22; refine HSW.out.mono ?_; rintro e w5 ⟨vw, rfl, hR, hB⟩; obtain ⟨Aw, cw, rfl⟩ := Kd.R_slice hR; have HRW := Aside0.mk hR; have HB45 := Aside0.mk hB; have HB25 := Aside0.mk (below_then HB24.out HB24.out.size hB); clear hR hB)
  have HRA5 := Aside0.mk (Kd.R_below (Kd.R_below (Kd.R_mono (Kd.R_bound HRA.out) (ok' := fun k => w2.heap.size ≤ k ∧ k < w3.heap.size) (fun k hk => ⟨hk.2.1, hk.2.2.1⟩)) HB34.out) HB45.out)
  have HRB5 := Aside0.mk (Kd.R_below (Kd.R_mono (Kd.R_bound HRB.out) (ok' := fun k => w3.heap.size ≤ k ∧ k < w4.heap.size) (fun k hk => ⟨hk.2.1, hk.2.2.1⟩)) HB45.out)
  have HRW5 := Aside0.mk (Kd.R_mono (Kd.R_bound HRW.out) (ok' := fun k => w4.heap.size ≤ k ∧ k < w5.heap.size) (fun k hk => ⟨hk.2.1, hk.2.2.1⟩))
  have hSZ := And.intro HB23.out.size (And.intro HB34.out.size HB45.out.size)
  have HSZ := Aside0.mk hSZ
  have HS1 := Aside0.mk (scholiastlaw20_same.calls ks Aa ca sl Aw cw sl true w5 (R_C HRA5.out rfl).1 (R_C HRA5.out rfl).2 (R_C HRW5.out rfl).1 (R_C HRW5.out rfl).2 HKS.out)
  clear hSZ HRA HRB HRW HSA HSB HSW HL1 HSH HB34 HB45 HB23
  go_upto_region 9 with (first
    | (go_at_call 23; refine HS1.out.mono ?_; rintro e w6 ⟨rfl, hd⟩; have HB56 := Aside0.mk (drawn_below hd); have HB26 := Aside0.mk (below_then HB25.out HB25.out.size (drawn_below hd)); have HK6 := Aside0.mk (keptD kl g cap A0 c0 l w6 (Kd.C_below HO2.out (below_then HB25.out HB25.out.size (drawn_below hd))) HCAP.out (Kd.C_below HR0.out (below_then HB2.out HB2.out.size (below_then HB25.out HB25.out.size (drawn_below hd)))) hc0 (by omega) HKL.out); clear hd)
    | (go_at_call 24; refine HK6.out.mono ?_; rintro e w7 ⟨rfl, hB⟩; have HB57 := Aside0.mk (below_then HB56.out HB56.out.size hB); clear hB))
  have HB27 := Aside0.mk (below_then HB25.out HB25.out.size HB57.out)
  have HMK := Aside0.mk (scholiastlaw20_marked.calls km (fun k => w2.heap.size ≤ k ∧ k < w3.heap.size) (.slice Aa sl.length ca) sl w2 w7 HB27.out (Kd.R_below HRA5.out HB57.out) HKM.out)
  go_upto_region 10 with (go_at_call 25; refine HMK.out.mono ?_; rintro e w8 ⟨rfl, hB, hK⟩; have HB28 := Aside0.mk hB; have HK78 := Aside0.mk hK; clear hB hK)
  have HB8 := Aside0.mk (below_then HB2.out HB2.out.size HB28.out)
  have HRB8 := Aside0.mk (Kd.R_move (Kd.R_below HRB5.out HB57.out) (fun k hk => HK78.out.2 k (by have h1 := HSZ.out; have h2 := HB57.out.size; have h3 := hk.2; omega) (fun h => by have h1 := hk.1; have h2 := h.2; omega)))
  have HRW8 := Aside0.mk (Kd.R_move (Kd.R_below HRW5.out HB57.out) (fun k hk => HK78.out.2 k (by have h2 := HB57.out.size; have h3 := hk.2; omega) (fun h => by have h1 := hk.1; have h2 := h.2; have h3 := HSZ.out; omega)))
  have HS8 := Aside0.mk (scholiastlaw20_same.calls ks Ab cb sl Aw cw sl true w8 (R_C HRB8.out rfl).1 (R_C HRB8.out rfl).2 (R_C HRW8.out rfl).1 (R_C HRW8.out rfl).2 HKS.out)
  clear HMK HK6 HS1 HRA5 HRB5 HRW5
  go_wp2_with (first
    | (go_at_call 23; refine HS11.out.mono ?_; rintro e w12 ⟨rfl, hd⟩; have HB12_ := Aside0.mk (below_then HB11.out HB11.out.size (drawn_below hd)); clear hd)
    | (go_at_call 23; refine HS8.out.mono ?_; rintro e w9 ⟨rfl, hd⟩; have HB89 := Aside0.mk (drawn_below hd); have HB29 := Aside0.mk (below_then HB28.out HB28.out.size (drawn_below hd)); have HK9 := Aside0.mk (keptD kl g cap A0 c0 l w9 (Kd.C_below HO2.out (below_then HB28.out HB28.out.size (drawn_below hd))) HCAP.out (Kd.C_below HR0.out (below_then HB2.out HB2.out.size (below_then HB28.out HB28.out.size (drawn_below hd)))) hc0 (by omega) HKL.out); clear hd)
    | (go_at_call 24; refine HK9.out.mono ?_; rintro e w10 ⟨rfl, hB⟩; have HB810 := Aside0.mk (below_then HB89.out HB89.out.size hB); have HRB10 := Aside0.mk (Kd.R_below HRB8.out (below_then HB89.out HB89.out.size hB)); have HRW10 := Aside0.mk (Kd.R_below HRW8.out (below_then HB89.out HB89.out.size hB)); have HS10 := Aside0.mk (diag_Sort.calls Ab cb sl sl w10 (R_C (Kd.R_below HRB8.out (below_then HB89.out HB89.out.size hB)) rfl).1 (R_C (Kd.R_below HRB8.out (below_then HB89.out HB89.out.size hB)) rfl).2 HS2.out); clear hB)
    | (go_at_call 21; refine HS10.out.mono ?_; rintro e w11 ⟨vc, rfl, hR, hB⟩; obtain ⟨Ac, cc, rfl⟩ := Kd.R_slice hR; have HB811 := Aside0.mk (below_then HB810.out HB810.out.size hB); have HB11 := Aside0.mk (below_then HB8.out HB8.out.size (below_then HB810.out HB810.out.size hB)); have HS11 := Aside0.mk (scholiastlaw20_same.calls ks Ac cc sl Aw cw sl true w11 (R_C hR rfl).1 (R_C hR rfl).2 (R_C (Kd.R_below HRW10.out hB) rfl).1 (R_C (Kd.R_below HRW10.out hB) rfl).2 HKS.out); clear hR hB))
  repeat (go_quiet (fail); try go_wp2)
  go_ret
  exact ⟨rfl, HB12_.out⟩
end Go.Proofs.YtcbimnmpdpkefaaDoor.A

/- DiagSorts: any diagnostics are put in the document's order, each once; what came in stays, and the order is the caller's. Conditions: none beyond the card's own. -/
namespace Go.Proofs.YtcbimnmpdpkefaaDoor.diagSorts
open Go.ChangeShapes Go.WideShapes Go.ChangeAt Go.RowKit Go.Lib Go.Proofs.YtcbimnmpdpkefaaDoorW.PrintWords Go.Proofs.YtcbimnmpdpkefaaDoor.A Go.Proofs.YtcbimnmpdpkefaaDoorTB
set_option linter.unusedVariables false
set_option linter.unusedSimpArgs false
theorem laidOut : laidOutB Tryd.prog = true := by kernel_rfl
theorem own : ownKnob Tryd.prog.godebug = none := by kernel_rfl
theorem pow_eq : (Rows.laid_internal_strconv_uint64pow10 : DataW Unit) = tabData .u64 pow10Tab := by kernel_rfl
theorem tabs {W : World} (hL : laidMet Tryd.prog Rows.diagSortsRow.laid W) : GlobP W := ⟨by
  have h := Lib.laidMet.reads hL (n := "internal/strconv.uint64pow10") (.tail _ (.tail _ (.head _)))
  rw [pow_eq] at h
  obtain ⟨g', t', cs, fuel, p, hg', ht', hvar, hd⟩ := h
  obtain rfl := Option.some.inj ((show Tryd.prog.globalNamed "internal/strconv.uint64pow10" = some 2 by kernel_rfl).symm.trans hg')
  obtain rfl := Option.some.inj ((show (Tryd.prog.globals[2]?).map (·.type) = some 145 by kernel_rfl).symm.trans ht')
  unfold TabIs
  rw [hvar, ← cells_of_tab Tryd.underlying145 Tryd.underlying121 (by kernel_rfl) (by kernel_rfl) hd]⟩
theorem opnDiag (w : World) : Opn Tryd.prog w 36 k36 (fun _ => True) :=
  ((Opn.struct (d := Kd.pair (Kd.int .i64) (Kd.pair (Kd.int .i64) (Kd.int .i64))) Tryd.underlying36 (by kernel_rfl) (OpnF.cons (Opn.int Tryd.underlying3) rfl (by kernel_rfl) (OpnF.cons (Opn.int Tryd.underlying3) rfl (by kernel_rfl) (OpnF.one (Opn.int Tryd.underlying3) rfl (by kernel_rfl))))).iso (fun x : Ds => (x.f0, x.f1, x.f2)) (fun p => ⟨p.1, p.2.1, p.2.2⟩) (fun _ => rfl)).mono (fun _ _ => trivial)
theorem opnDiags (w : World) : Opn Tryd.prog w 23 (Kd.slice 36 k36) (fun xs => xs.length * 24 ≤ 140737488351232 ∧ ∀ x ∈ xs, True) :=
  Opn.slice (opnDiag w) Tryd.underlying23 (by kernel_rfl) (by kernel_rfl)
theorem reads (os : Os) {H : Type} (enc : TypeId × Value → H) : ∃ places, DataW.whole enc Tryd.prog ((World.laidAll Tryd.prog os Rows.diagSortsRow.laid).forCall (fun _ _ => 0) ⟨#[], #[.slice none 0 0], []⟩).memory Tryd.f5.params.toList Rows.diagSortsSpec.vars false #[Value.slice none 0 0].toList 8 = some ([.nil], [], places) :=
  ⟨[], by kernel_rfl⟩
set_option maxRecDepth 100000 in
theorem lifted (os : Os) (started : os.Started) (H : Type) (enc : TypeId × Value → H) (F : Stop.Interp) :
    ReturnsInHanded {} Tryd.checked os 5 .any ((OpenSpec.ofChange Rows.diagSortsSpec).preRow enc Tryd.prog Tryd.f5 Rows.diagSortsRow.domain false Rows.diagSortsRow.laid) (((OpenSpec.ofChange Rows.diagSortsSpec).at F).post enc Tryd.prog Tryd.f5 false true false false) := by
  obtain ⟨places, hx⟩ := reads os enc
  have hok : Input.okWideB Tryd.prog ((World.laidAll Tryd.prog os Rows.diagSortsRow.laid).forCall (fun _ _ => 0) ⟨#[], #[.slice none 0 0], []⟩) 5 ⟨#[], #[.slice none 0 0], []⟩ = true := by kernel_rfl
  refine returnsInHanded_of_row (C := Tryd.checked) (s := OpenSpec.ofChange Rows.diagSortsSpec) own started (by kernel_rfl) Tryd.func5
    ⟨World.laidAll Tryd.prog os Rows.diagSortsRow.laid, fun _ _ => 0, ⟨#[], #[.slice none 0 0], []⟩, World.laidAll_os _ _ _, World.shaped_of_ZipB (by kernel_rfl) (by kernel_rfl), (Input.okWide_of_okWideB (base := 0) hok).1, (Input.okWide_of_okWideB hok).2,
      OpenSpec.preRow_of_cond 8 hx (by kernel_rfl) (fun k hk => by cases hk) (by kernel_rfl) (by rw [MakeChecks.laidMetH_plain _ _ _ (by kernel_rfl)]; exact laidMet_laidAll _ (by kernel_rfl) (by kernel_rfl)), by
      simp only [Assume.holds]
      exact ⟨by simp, by simp, fun _ => Modest.zero, by simp, by simp⟩⟩ ?_
  intro W base args ds gs before hval hW hconds hcond hsz hL _ _
  have hW' := hW
  obtain ⟨p, q, hA0, hV, rfl, hfz, hnd⟩ := hW
  have hA : DataW.TrodAll enc Tryd.prog W 0 (fun _ => true) true Tryd.f5.params.toList args.toList ds p := hA0
  rw [Tryd.params5] at hA hval hsz
  obtain ⟨v0, vs0, d0, ds0, p0, q0, hargs, rfl, rfl, h0, r0⟩ := trodAll_cons hA
  obtain ⟨rfl, rfl, rfl⟩ := trodAll_nil r0
  obtain rfl : args = #[v0] := by cases args; simp_all
  obtain ⟨rfl, rfl⟩ := trodVars_none hV
  obtain ⟨a0, len0, cap0, rfl⟩ := okWide_slice Tryd.underlying23 (hval 0 23 v0 rfl rfl)
  have k0 := h0
  have lt0 : ∀ x ∈ p0, x.block < W.heap.size := by obtain ⟨m, hm⟩ := k0; exact DataW.trod_lt m _ _ _ hm
  have hws : (d0.weights Tryd.prog 23).all (· ≤ reachBytes) = true := by
    have h := hsz
    simp only [List.cons_append, DataW.weightsEach, List.all_append, Bool.and_eq_true] at h
    exact h.1
  obtain ⟨xs, hK0, hB0, _⟩ := Opn.arg (opnDiags W) h0 hws
  obtain ⟨A0, c0, hcs0, hc0, hC0⟩ := hK0
  simp only [Value.cells, List.cons.injEq, Value.slice.injEq, and_true] at hcs0
  obtain ⟨rfl, rfl, rfl⟩ := hcs0
  rw [MakeChecks.laidMetH_plain _ _ _ (by kernel_rfl)] at hL
  refine (sorts_walk a0 cap0 xs W (tabs hL) hC0 hc0 (by omega)).mono fun e W' ⟨he, hb⟩ => ?_
  subst he
  exact ⟨_, rfl, _, _, _, [], _, [], hW', trodAll_mk1 (shut_bool Tryd.underlying4 _), trodAll_cons_mk (Below.trod laidOut (by kernel_rfl) (of_decide_eq_true (by kernel_rfl)) k0 hb lt0) trodAll_mk0, rfl, hb.frame _, fun h => by cases h⟩
theorem said : Rows.DiagSortsSaid :=
  OpenClaim.holds_of_cond 5 Tryd.f5 rfl rfl rfl rfl rfl rfl rfl ⟨rfl, rfl, rfl, rfl, rfl⟩ rfl rfl rfl rfl rfl (by kernel_rfl) Tryd.func5 (by kernel_rfl)
    (of_decide_eq_true (by kernel_rfl)) (by unfold Func.isWrapper; first | (rw [if_pos (by decide +kernel)]; kernel_rfl) | (rw [if_neg (by decide +kernel)]; exact ⟨rfl, rfl⟩))
    (fun os started H enc _ F => by rw [OpenClaim.pre_eq_preRow]; exact lifted os started H enc F)
theorem plain (f : FuncId) (fn : Func) (hf : Tryd.pinned.checked.prog.funcNamed Rows.diagSortsRow.func = some f) (hfn : Tryd.pinned.checked.prog.funcs[f]? = some fn) :
    false = Tryd.pinned.checked.prog.looks [] ∧ ∀ (j : Nat) t, fn.params[j]? = some t → Tryd.pinned.checked.prog.wantsStandIn t = false := by
  obtain rfl : f = 5 := Option.some.inj ((show Tryd.prog.funcNamed Rows.diagSortsRow.func = some 5 by kernel_rfl).symm.trans hf) |>.symm
  obtain rfl : fn = Tryd.f5 := (Option.some.inj (Tryd.func5.symm.trans hfn)).symm
  refine ⟨by kernel_rfl, fun j t ht => ?_⟩
  rw [Tryd.params5] at ht
  have hm := Array.mem_of_getElem? ht
  simp only [List.mem_toArray, List.mem_cons, List.not_mem_nil, or_false] at hm
  subst hm
  exact (show Tryd.prog.wantsStandIn 23 = false by kernel_rfl)
theorem card : Rows.DiagSortsCardSaid :=
  Claim7.holds_tied_plain_at .later [] _ _ _ _ said (fun _ h => by cases h) (by kernel_rfl) (fun _ h => by cases h) diagSorts_row_tie rfl ⟨rfl, rfl⟩ (by kernel_rfl) rfl plain (by kernel_rfl)
end Go.Proofs.YtcbimnmpdpkefaaDoor.diagSorts
namespace Go.Proofs.YtcbimnmpdpkefaaDoor
/-- The card, under a short name, for the claim. -/
theorem diagSorts_card : Rows.DiagSortsCardSaid := diagSorts.card
#print axioms diagSorts_card
end Go.Proofs.YtcbimnmpdpkefaaDoor
