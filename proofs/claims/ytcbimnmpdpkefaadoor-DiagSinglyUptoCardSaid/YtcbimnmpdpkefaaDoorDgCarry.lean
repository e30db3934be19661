/- diag.Carry in plain words. -/
import Derived.Test.YtcbimnmpdpkefaaDoorAx21
import Derived.Test.YtcbimnmpdpkefaaDoorAx35
set_option linter.unusedVariables false
set_option linter.unusedSimpArgs false
namespace Go.Proofs.YtcbimnmpdpkefaaDoor.A
open Go.RowKit Go.Proofs.YtcbimnmpdpkefaaDoorW.PrintWords Go.Proofs.YtcbimnmpdpkefaaDoorW.PrintLast Go.Proofs.YtcbimnmpdpkefaaDoorW.PrintMore

abbrev Dg := S36
abbrev Eg := S43
/-- Edits one behind the other. -/
def okE : Int → List Eg → Bool
  | _, [] => true
  | e, x :: l => if x.f0 < e then false else if x.f1 < x.f0 then false else okE x.f1 l
/-- By how much a diagnostic moves; none: an edit meets it. -/
def cv (d : Dg) : List Eg → Int → Option Int
  | [], b => some b
  | x :: l, b => if x.f0 < d.f2 ∧ x.f1 > d.f1 then none else if x.f1 ≤ d.f1 then cv d l (wrap64 (b + wrap64 ((x.f2.size : Int) - wrap64 (x.f1 - x.f0)))) else cv d l b
def cd (es : List Eg) (d : Dg) : Option Dg := (cv d es 0).map fun b => ⟨d.f0, wrap64 (d.f1 + b), wrap64 (d.f2 + b)⟩
def carry (l : List Dg) (es : List Eg) : List Dg × Int := if okE 0 es = true then (l.filterMap (cd es), 0) else ([], 10)
theorem drop_D (l : List Dg) (i : Int) (h0 : 0 ≤ i) (h1 : i < (l.length : Int)) : l.drop i.toNat = rd_T36 l i :: l.drop (i + 1).toNat := by
  have hl : i.toNat < l.length := by omega
  rw [List.drop_eq_getElem_cons hl, show (i + 1).toNat = i.toNat + 1 by omega]
  unfold rd_T36
  rw [List.getD_eq_getElem?_getD, List.getElem?_eq_getElem hl]
  rfl
theorem drop_E (l : List Eg) (i : Int) (h0 : 0 ≤ i) (h1 : i < (l.length : Int)) : l.drop i.toNat = rd_T43 l i :: l.drop (i + 1).toNat := by
  have hl : i.toNat < l.length := by omega
  rw [List.drop_eq_getElem_cons hl, show (i + 1).toNat = i.toNat + 1 by omega]
  unfold rd_T43
  rw [List.getD_eq_getElem?_getD, List.getElem?_eq_getElem hl]
  rfl
theorem wrap_in {i : Int} {n : Nat} (h0 : 0 ≤ i) (h : i < (n : Int)) (hn : n ≤ 9223372036854775807) : wrap64 (i + 1) = i + 1 := by unfold wrap64; omega

theorem carry_l2 (es : List Eg) (he : es.length ≤ 4398046511104) (acc l : List Dg) (len i : Int) (d : Dg) (R : List Dg × Int) (next : List Dg → Prop)
    (hnext : ∀ a, next a → ∃ k, diag_Carry.l1 k es a l len (wrap64 (i + 1)) = some R) (hacc : acc.length < 5864062014805) :
    ∀ (n : Nat) (j b : Int), 0 ≤ j → j + n = es.length →
    (match cv d (es.drop j.toNat) b with | none => next acc | some b' => next (acc ++ [⟨d.f0, wrap64 (d.f1 + b'), wrap64 (d.f2 + b')⟩])) →
    ∃ k, diag_Carry.l2 k es acc b l len i es es.length j d.f0 d.f1 d.f2 = some R
  | 0, j, b, h0, h1, h => by
    rw [List.drop_eq_nil_of_le (by omega)] at h
    simp only [cv] at h
    obtain ⟨k, hk⟩ := hnext _ h
    exact ⟨k + 1, by simp only [diag_Carry.l2]; rw [if_neg (by omega), if_pos hacc]; exact hk⟩
  | n + 1, j, b, h0, h1, h => by
    rw [drop_E es j h0 (by omega)] at h
    simp only [cv] at h
    have ew := wrap_in (n := es.length) h0 (by omega) (by omega)
    by_cases c1 : (rd_T43 es j).f0 < d.f2 ∧ (rd_T43 es j).f1 > d.f1
    · rw [if_pos c1] at h
      obtain ⟨k, hk⟩ := hnext _ h
      refine ⟨k + 2, ?_⟩
      simp only [diag_Carry.l2]
      rw [if_pos (by omega), if_pos h0, if_pos (by omega), if_pos c1.1, decide_eq_true c1.2]
      simp only [diag_Carry.j3, if_true]
      exact hk
    · rw [if_neg c1] at h
      have hb : ∀ k, (if (rd_T43 es j).f0 < d.f2 then (diag_Carry.j3 (k + 1) es acc b l len i es es.length j (decide ((rd_T43 es j).f1 > d.f1)) d.f0 d.f1 d.f2 (rd_T43 es j).f0 (rd_T43 es j).f1 (rd_T43 es j).f2) else (diag_Carry.j3 (k + 1) es acc b l len i es es.length j false d.f0 d.f1 d.f2 (rd_T43 es j).f0 (rd_T43 es j).f1 (rd_T43 es j).f2)) = diag_Carry.j3 (k + 1) es acc b l len i es es.length j false d.f0 d.f1 d.f2 (rd_T43 es j).f0 (rd_T43 es j).f1 (rd_T43 es j).f2 := by
        intro k
        split
        · rename_i c2
          rw [decide_eq_false (by omega)]
        · rfl
      by_cases c3 : (rd_T43 es j).f1 ≤ d.f1
      · rw [if_pos c3] at h
        obtain ⟨k, hk⟩ := carry_l2 es he acc l len i d R next hnext hacc n (j + 1) _ (by omega) (by omega) h
        refine ⟨k + 2, ?_⟩
        simp only [diag_Carry.l2]
        rw [if_pos (by omega), if_pos h0, if_pos (by omega), hb]
        simp only [diag_Carry.j3, Bool.false_eq_true, if_false]
        rw [if_pos c3, ew]; exact hk
      · rw [if_neg c3] at h
        obtain ⟨k, hk⟩ := carry_l2 es he acc l len i d R next hnext hacc n (j + 1) _ (by omega) (by omega) h
        refine ⟨k + 2, ?_⟩
        simp only [diag_Carry.l2]
        rw [if_pos (by omega), if_pos h0, if_pos (by omega), hb]
        simp only [diag_Carry.j3, Bool.false_eq_true, if_false]
        rw [if_neg c3, ew]; exact hk
theorem carry_l1 (es : List Eg) (he : es.length ≤ 4398046511104) (l : List Dg) (hl : l.length ≤ 5864062014805) : ∀ (n : Nat) (i : Int) (acc : List Dg), 0 ≤ i → i + n = l.length → (acc.length : Int) ≤ i →
    ∃ k, diag_Carry.l1 k es acc l l.length i = some (acc ++ (l.drop i.toNat).filterMap (cd es), 0)
  | 0, i, acc, h0, h1, h2 => ⟨1, by simp only [diag_Carry.l1]; rw [if_neg (by omega), List.drop_eq_nil_of_le (by omega)]; simp⟩
  | n + 1, i, acc, h0, h1, h2 => by
    have hd := drop_D l i h0 (by omega)
    have ew := wrap_in (n := l.length) h0 (by omega) (by omega)
    have hR : ∃ k, diag_Carry.l2 k es acc 0 l l.length i es es.length 0 (rd_T36 l i).f0 (rd_T36 l i).f1 (rd_T36 l i).f2 = some (acc ++ (l.drop i.toNat).filterMap (cd es), 0) := by
      refine carry_l2 es he acc l l.length i (rd_T36 l i) _ (fun a => (a.length : Int) ≤ i + 1 ∧ a ++ (l.drop (i + 1).toNat).filterMap (cd es) = acc ++ (l.drop i.toNat).filterMap (cd es)) (fun a ha => ?_) (by omega) es.length 0 0 (by omega) (by omega) ?_
      · obtain ⟨k, hk⟩ := carry_l1 es he l hl n (i + 1) a (by omega) (by omega) ha.1
        exact ⟨k, by rw [ew, hk, ha.2]⟩
      · rw [hd]
        simp only [Int.toNat_zero, List.drop_zero, List.filterMap_cons, cd]
        cases cv (rd_T36 l i) es 0 with
        | none => exact ⟨by omega, rfl⟩
        | some b' => exact ⟨by simp; omega, by simp⟩
    obtain ⟨k, hk⟩ := hR
    exact ⟨k + 1, by simp only [diag_Carry.l1]; rw [if_pos (by omega), if_pos h0, if_pos (by omega)]; exact hk⟩
theorem carry_l0 (es : List Eg) (he : es.length ≤ 4398046511104) (l : List Dg) (hl : l.length ≤ 5864062014805) : ∀ (n : Nat) (j e : Int), 0 ≤ j → j + n = es.length →
    ∃ k, diag_Carry.l0 k l es e es es.length j = some (if okE e (es.drop j.toNat) = true then (l.filterMap (cd es), 0) else ([], 10))
  | 0, j, e, h0, h1 => by
    obtain ⟨k, hk⟩ := carry_l1 es he l hl l.length 0 [] (by omega) (by omega) (by simp)
    refine ⟨k + 1, ?_⟩
    simp only [diag_Carry.l0]
    rw [if_neg (by omega), List.drop_eq_nil_of_le (by omega : es.length ≤ j.toNat)]
    simp only [okE, if_true]
    simpa using hk
  | n + 1, j, e, h0, h1 => by
    rw [drop_E es j h0 (by omega)]
    simp only [okE]
    have ew := wrap_in (n := es.length) h0 (by omega) (by omega)
    by_cases c1 : (rd_T43 es j).f0 < e
    · exact ⟨1, by simp only [diag_Carry.l0]; rw [if_pos (by omega), if_pos h0, if_pos (by omega), if_pos c1]; simp [c1]⟩
    · by_cases c2 : (rd_T43 es j).f1 < (rd_T43 es j).f0
      · exact ⟨1, by simp only [diag_Carry.l0]; rw [if_pos (by omega), if_pos h0, if_pos (by omega), if_neg c1, if_pos c2]; simp [c1, c2]⟩
      · obtain ⟨k, hk⟩ := carry_l0 es he l hl n (j + 1) (rd_T43 es j).f1 (by omega) (by omega)
        refine ⟨k + 1, ?_⟩
        simp only [diag_Carry.l0]
        rw [if_pos (by omega), if_pos h0, if_pos (by omega), if_neg c1, if_neg c2, ew, hk]
        simp only [c1, c2, if_false]
theorem carry_ok (l : List Dg) (es : List Eg) (hl : l.length ≤ 5864062014805) (he : es.length ≤ 4398046511104) : ∃ k, diag_Carry.f k l es = some (carry l es) := by
  obtain ⟨k, hk⟩ := carry_l0 es he l hl es.length 0 0 (by omega) (by omega)
  refine ⟨k, ?_⟩
  unfold diag_Carry.f carry
  rw [hk]
  simp
theorem rcarry_l2m (es : List Eg) (he : es.length ≤ 4398046511104) (acc l : List Dg) (len i : Int) (d : Dg) (R : List Dg × Int) (hnext : ∃ k, scholiastref20_Carry.l1 k es acc l len (wrap64 (i + 1)) = some R) :
    ∀ (n : Nat) (j b : Int), 0 ≤ j → j + n = es.length → ∃ k, scholiastref20_Carry.l2 k es acc b true l len i es es.length j d.f0 d.f1 d.f2 = some R
  | 0, j, b, h0, h1 => by
    obtain ⟨k, hk⟩ := hnext
    exact ⟨k + 1, by simp only [scholiastref20_Carry.l2]; rw [if_neg (by omega)]; simpa using hk⟩
  | n + 1, j, b, h0, h1 => by
    have ew := wrap_in (n := es.length) h0 (by omega) (by omega)
    by_cases c3 : (rd_T43 es j).f1 ≤ d.f1
    · obtain ⟨k, hk⟩ := rcarry_l2m es he acc l len i d R hnext n (j + 1) (wrap64 (b + wrap64 (((rd_T43 es j).f2.size : Int) - wrap64 ((rd_T43 es j).f1 - (rd_T43 es j).f0)))) (by omega) (by omega)
      refine ⟨k + 1, ?_⟩
      simp only [scholiastref20_Carry.l2, if_true]
      rw [if_pos (by omega), if_pos h0, if_pos (by omega), if_pos c3, ew]; exact hk
    · obtain ⟨k, hk⟩ := rcarry_l2m es he acc l len i d R hnext n (j + 1) b (by omega) (by omega)
      refine ⟨k + 1, ?_⟩
      simp only [scholiastref20_Carry.l2, if_true]
      rw [if_pos (by omega), if_pos h0, if_pos (by omega), if_neg c3, ew]; exact hk
theorem rcarry_l2 (es : List Eg) (he : es.length ≤ 4398046511104) (acc l : List Dg) (len i : Int) (d : Dg) (R : List Dg × Int) (next : List Dg → Prop)
    (hnext : ∀ a, next a → ∃ k, scholiastref20_Carry.l1 k es a l len (wrap64 (i + 1)) = some R) (hacc : acc.length < 5864062014805) :
    ∀ (n : Nat) (j b : Int), 0 ≤ j → j + n = es.length →
    (match cv d (es.drop j.toNat) b with | none => next acc | some b' => next (acc ++ [⟨d.f0, wrap64 (d.f1 + b'), wrap64 (d.f2 + b')⟩])) →
    ∃ k, scholiastref20_Carry.l2 k es acc b false l len i es es.length j d.f0 d.f1 d.f2 = some R
  | 0, j, b, h0, h1, h => by
    rw [List.drop_eq_nil_of_le (by omega)] at h
    simp only [cv] at h
    obtain ⟨k, hk⟩ := hnext _ h
    exact ⟨k + 1, by simp only [scholiastref20_Carry.l2]; rw [if_neg (by omega)]; simp only [Bool.false_eq_true, if_false]; rw [if_pos hacc]; exact hk⟩
  | n + 1, j, b, h0, h1, h => by
    rw [drop_E es j h0 (by omega)] at h
    simp only [cv] at h
    have ew := wrap_in (n := es.length) h0 (by omega) (by omega)
    by_cases c1 : (rd_T43 es j).f0 < d.f2 ∧ (rd_T43 es j).f1 > d.f1
    · rw [if_pos c1] at h
      obtain ⟨k, hk⟩ := rcarry_l2m es he acc l len i d R (hnext _ h) n (j + 1) b (by omega) (by omega)
      refine ⟨k + 1, ?_⟩
      simp only [scholiastref20_Carry.l2, Bool.false_eq_true, if_false]
      rw [if_pos (by omega), if_pos h0, if_pos (by omega), if_pos c1.1, if_neg (by omega), decide_eq_true c1.2, ew]
      exact hk
    · rw [if_neg c1] at h
      by_cases c3 : (rd_T43 es j).f1 ≤ d.f1
      · rw [if_pos c3] at h
        obtain ⟨k, hk⟩ := rcarry_l2 es he acc l len i d R next hnext hacc n (j + 1) _ (by omega) (by omega) h
        refine ⟨k + 1, ?_⟩
        simp only [scholiastref20_Carry.l2, Bool.false_eq_true, if_false]
        rw [if_pos (by omega), if_pos h0, if_pos (by omega), if_pos c3, ew, decide_eq_false (by omega : ¬ (rd_T43 es j).f1 > d.f1)]
        simp only [if_pos c3, ite_self]
        exact hk
      · rw [if_neg c3] at h
        obtain ⟨k, hk⟩ := rcarry_l2 es he acc l len i d R next hnext hacc n (j + 1) _ (by omega) (by omega) h
        refine ⟨k + 1, ?_⟩
        simp only [scholiastref20_Carry.l2, Bool.false_eq_true, if_false]
        rw [if_pos (by omega), if_pos h0, if_pos (by omega), if_neg (fun c2 => c1 ⟨c2, by omega⟩), if_neg c3, ew]
        exact hk
theorem rcarry_l1 (es : List Eg) (he : es.length ≤ 4398046511104) (l : List Dg) (hl : l.length ≤ 5864062014805) : ∀ (n : Nat) (i : Int) (acc : List Dg), 0 ≤ i → i + n = l.length → (acc.length : Int) ≤ i →
    ∃ k, scholiastref20_Carry.l1 k es acc l l.length i = some (acc ++ (l.drop i.toNat).filterMap (cd es), 0)
  | 0, i, acc, h0, h1, h2 => ⟨1, by simp only [scholiastref20_Carry.l1]; rw [if_neg (by omega), List.drop_eq_nil_of_le (by omega)]; simp⟩
  | n + 1, i, acc, h0, h1, h2 => by
    have hd := drop_D l i h0 (by omega)
    have ew := wrap_in (n := l.length) h0 (by omega) (by omega)
    have hR : ∃ k, scholiastref20_Carry.l2 k es acc 0 false l l.length i es es.length 0 (rd_T36 l i).f0 (rd_T36 l i).f1 (rd_T36 l i).f2 = some (acc ++ (l.drop i.toNat).filterMap (cd es), 0) := by
      refine rcarry_l2 es he acc l l.length i (rd_T36 l i) _ (fun a => (a.length : Int) ≤ i + 1 ∧ a ++ (l.drop (i + 1).toNat).filterMap (cd es) = acc ++ (l.drop i.toNat).filterMap (cd es)) (fun a ha => ?_) (by omega) es.length 0 0 (by omega) (by omega) ?_
      · obtain ⟨k, hk⟩ := rcarry_l1 es he l hl n (i + 1) a (by omega) (by omega) ha.1
        exact ⟨k, by rw [ew, hk, ha.2]⟩
      · rw [hd]
        simp only [Int.toNat_zero, List.drop_zero, List.filterMap_cons, cd]
        cases cv (rd_T36 l i) es 0 with
        | none => exact ⟨by omega, rfl⟩
        | some b' => exact ⟨by simp; omega, by simp⟩
    obtain ⟨k, hk⟩ := hR
    exact ⟨k + 1, by simp only [scholiastref20_Carry.l1]; rw [if_pos (by omega), if_pos h0, if_pos (by omega)]; exact hk⟩
theorem rcarry_l0 (es : List Eg) (he : es.length ≤ 4398046511104) (l : List Dg) (hl : l.length ≤ 5864062014805) : ∀ (n : Nat) (j e : Int), 0 ≤ j → j + n = es.length →
    ∃ k, scholiastref20_Carry.l0 k l es e es es.length j = some (if okE e (es.drop j.toNat) = true then (l.filterMap (cd es), 0) else ([], 10))
  | 0, j, e, h0, h1 => by
    obtain ⟨k, hk⟩ := rcarry_l1 es he l hl l.length 0 [] (by omega) (by omega) (by simp)
    refine ⟨k + 1, ?_⟩
    simp only [scholiastref20_Carry.l0]
    rw [if_neg (by omega), List.drop_eq_nil_of_le (by omega : es.length ≤ j.toNat)]
    simp only [okE, if_true]
    simpa using hk
  | n + 1, j, e, h0, h1 => by
    rw [drop_E es j h0 (by omega)]
    simp only [okE]
    have ew := wrap_in (n := es.length) h0 (by omega) (by omega)
    by_cases c1 : (rd_T43 es j).f0 < e
    · exact ⟨1, by simp only [scholiastref20_Carry.l0]; rw [if_pos (by omega), if_pos h0, if_pos (by omega), if_pos c1]; simp [c1]⟩
    · by_cases c2 : (rd_T43 es j).f1 < (rd_T43 es j).f0
      · exact ⟨1, by simp only [scholiastref20_Carry.l0]; rw [if_pos (by omega), if_pos h0, if_pos (by omega), if_neg c1, if_pos c2]; simp [c1, c2]⟩
      · obtain ⟨k, hk⟩ := rcarry_l0 es he l hl n (j + 1) (rd_T43 es j).f1 (by omega) (by omega)
        refine ⟨k + 1, ?_⟩
        simp only [scholiastref20_Carry.l0]
        rw [if_pos (by omega), if_pos h0, if_pos (by omega), if_neg c1, if_neg c2, ew, hk]
        simp only [c1, c2, if_false]
theorem rcarry_ok (l : List Dg) (es : List Eg) (hl : l.length ≤ 5864062014805) (he : es.length ≤ 4398046511104) : ∃ k, scholiastref20_Carry.f k l es = some (carry l es) := by
  obtain ⟨k, hk⟩ := rcarry_l0 es he l hl es.length 0 0 (by omega) (by omega)
  refine ⟨k, ?_⟩
  unfold scholiastref20_Carry.f carry
  rw [hk]
  simp
end Go.Proofs.YtcbimnmpdpkefaaDoor.A
