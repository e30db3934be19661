/- DiagSingly in plain words. -/
import Derived.Test.YtcbimnmpdpkefaaDoorDgCarry
import Derived.Test.YtcbimnmpdpkefaaDoorAx37
import Derived.Test.YtcbimnmpdpkefaaDoorPureShown
set_option linter.unusedVariables false
set_option linter.unusedSimpArgs false
namespace Go.Proofs.YtcbimnmpdpkefaaDoor.A
open Go.RowKit Go.Proofs.YtcbimnmpdpkefaaDoorW.PrintWords Go.Proofs.YtcbimnmpdpkefaaDoorW.PrintLast Go.Proofs.YtcbimnmpdpkefaaDoorW.PrintMore

/-- How long the texts are together. -/
def tot : List Eg → Int
  | [] => 0
  | x :: l => (x.f2.size : Int) + tot l
theorem tot_nn : ∀ l, 0 ≤ tot l
  | [] => by simp [tot]
  | x :: l => by have := tot_nn l; simp only [tot]; omega
/-- By how much a diagnostic moves, without bounds. -/
def cz (d : Dg) : List Eg → Option Int
  | [] => some 0
  | x :: l => if x.f0 < d.f2 ∧ x.f1 > d.f1 then none else if x.f1 ≤ d.f1 then (cz d l).map (fun z => z + ((x.f2.size : Int) - (x.f1 - x.f0))) else cz d l
def lim : Int := 1099511627776
theorem cv_cz (d : Dg) : ∀ (es : List Eg) (e b : Int), 0 ≤ e → okE e es = true → (∀ x ∈ es, x.f1 ≤ lim) → b + tot es ≤ 1152921504606846976 → -1152921504606846976 ≤ b - (lim - e) → cv d es b = (cz d es).map (fun z => b + z)
  | [], e, b, h0, h1, h2, h3, h4 => by simp [cv, cz]
  | x :: l, e, b, h0, h1, h2, h3, h4 => by
    simp only [okE] at h1
    split at h1; · cases h1
    split at h1; · cases h1
    have hx := h2 x List.mem_cons_self
    have hn := tot_nn l
    simp only [tot] at h3
    unfold lim at *
    simp only [cv, cz]
    split
    · rfl
    · split
      · rw [show wrap64 (b + wrap64 ((x.f2.size : Int) - wrap64 (x.f1 - x.f0))) = b + ((x.f2.size : Int) - (x.f1 - x.f0)) by unfold wrap64; omega]
        rw [cv_cz d l x.f1 _ (by omega) h1 (fun y hy => h2 y (List.mem_cons_of_mem _ hy)) (by omega) (by unfold lim; omega)]
        cases cz d l with
        | none => rfl
        | some z => simp; omega
      · exact cv_cz d l x.f1 b (by omega) h1 (fun y hy => h2 y (List.mem_cons_of_mem _ hy)) (by omega) (by unfold lim; omega)
theorem cz_far (d : Dg) : ∀ (es : List Eg) (e S : Int), okE e es = true → d.f1 < e → cz d es = some S → S = 0
  | [], e, S, h0, h1, h2 => by simp only [cz, Option.some.injEq] at h2; omega
  | x :: l, e, S, h0, h1, h2 => by
    simp only [okE] at h0
    split at h0; · cases h0
    split at h0; · cases h0
    simp only [cz] at h2
    split at h2; · cases h2
    rw [if_neg (by omega)] at h2
    exact cz_far d l x.f1 S h0 (by omega) h2
theorem cz_low (d : Dg) : ∀ (es : List Eg) (e S : Int), okE e es = true → e ≤ d.f1 → cz d es = some S → e ≤ d.f1 + S ∧ S ≤ tot es
  | [], e, S, h0, h1, h2 => by simp only [cz, Option.some.injEq] at h2; simp only [tot]; omega
  | x :: l, e, S, h0, h1, h2 => by
    simp only [okE] at h0
    split at h0; · cases h0
    split at h0; · cases h0
    have hn := tot_nn l
    simp only [cz] at h2
    simp only [tot]
    split at h2; · cases h2
    split at h2
    · obtain ⟨z, hz, hz2⟩ := Option.map_eq_some_iff.1 h2
      have := cz_low d l x.f1 z h0 (by omega) hz
      omega
    · have := cz_far d l x.f1 S h0 (by omega) h2
      omega
theorem cd_cz (d : Dg) (es : List Eg) (hd0 : 0 ≤ d.f1) (hd1 : d.f1 ≤ d.f2) (hd2 : d.f2 ≤ lim) (e : Int) (h0 : 0 ≤ e) (h1 : okE e es = true) (h2 : ∀ x ∈ es, x.f1 ≤ lim) (h3 : tot es ≤ 4294967296) :
    cd es d = (cz d es).map (fun z => ⟨d.f0, d.f1 + z, d.f2 + z⟩) := by
  unfold cd
  rw [cv_cz d es e 0 h0 h1 h2 (by omega) (by unfold lim; omega)]
  have hn := tot_nn es
  cases hz : cz d es with
  | none => rfl
  | some z =>
    have hb : -lim ≤ z ∧ z ≤ tot es := by
      rcases Int.lt_or_le d.f1 e with h | h
      · have := cz_far d es e z h1 h hz
        unfold lim; omega
      · have := cz_low d es e z h1 h hz
        unfold lim at *; omega
    unfold lim at *
    simp only [Option.map_some, Int.zero_add]
    rw [show wrap64 (d.f1 + z) = d.f1 + z by unfold wrap64; omega, show wrap64 (d.f2 + z) = d.f2 + z by unfold wrap64; omega]
theorem cd_one (x : Eg) (d : Dg) (hx0 : 0 ≤ x.f0) (hx1 : x.f0 ≤ x.f1) (hx2 : x.f1 ≤ lim) (hs : (x.f2.size : Int) ≤ 4294967296) (h0 : -lim - lim ≤ d.f1) (h1 : d.f1 ≤ d.f2) (h2 : d.f2 ≤ lim + 4294967296) :
    cd [x] d = if x.f0 < d.f2 ∧ x.f1 > d.f1 then none else if x.f1 ≤ d.f1 then some ⟨d.f0, d.f1 + ((x.f2.size : Int) - (x.f1 - x.f0)), d.f2 + ((x.f2.size : Int) - (x.f1 - x.f0))⟩ else some d := by
  unfold lim at *
  simp only [cd, cv]
  split
  · rfl
  · split
    · simp only [Option.map_some, Int.zero_add]
      rw [show wrap64 (wrap64 ((x.f2.size : Int) - wrap64 (x.f1 - x.f0))) = (x.f2.size : Int) - (x.f1 - x.f0) by unfold wrap64; omega, show wrap64 (d.f1 + ((x.f2.size : Int) - (x.f1 - x.f0))) = d.f1 + ((x.f2.size : Int) - (x.f1 - x.f0)) by unfold wrap64; omega, show wrap64 (d.f2 + ((x.f2.size : Int) - (x.f1 - x.f0))) = d.f2 + ((x.f2.size : Int) - (x.f1 - x.f0)) by unfold wrap64; omega]
    · simp only [Option.map_some]
      rw [show wrap64 (d.f1 + 0) = d.f1 by unfold wrap64; omega, show wrap64 (d.f2 + 0) = d.f2 by unfold wrap64; omega]
/-- One edit more, ahead of the others. -/
theorem singly_step (d : Dg) (x : Eg) (l : List Eg) (hd0 : 0 ≤ d.f1) (hd1 : d.f1 ≤ d.f2) (hd2 : d.f2 ≤ lim) (e : Int) (h0 : 0 ≤ e) (h1 : okE e (x :: l) = true) (h2 : ∀ y ∈ x :: l, y.f1 ≤ lim) (h3 : tot (x :: l) ≤ 4294967296) :
    (cd l d).bind (cd [x]) = cd (x :: l) d := by
  rw [cd_cz d (x :: l) hd0 hd1 hd2 e h0 h1 h2 h3]
  simp only [okE] at h1
  split at h1; · cases h1
  split at h1; · cases h1
  have hx := h2 x List.mem_cons_self
  have hn := tot_nn l
  simp only [tot] at h3
  rw [cd_cz d l hd0 hd1 hd2 x.f1 (by omega) h1 (fun y hy => h2 y (List.mem_cons_of_mem _ hy)) (by omega)]
  simp only [cz]
  cases hz : cz d l with
  | none =>
    simp only [Option.map_none, Option.bind_none]
    split
    · rfl
    · split <;> rfl
  | some z =>
    simp only [Option.map_some, Option.bind_some]
    rcases Int.lt_or_le d.f1 x.f1 with h | h
    · obtain rfl := cz_far d l x.f1 z h1 h hz
      simp only [Int.add_zero]
      rw [cd_one x _ (by omega) (by omega) hx (by omega) (by unfold lim; simp only; omega) (by simp only; omega) (by simp only; unfold lim at *; omega)]
      simp only
      split
      · rfl
      · rw [if_neg (by omega), if_neg (by omega)]
        simp
    · have hl := cz_low d l x.f1 z h1 h hz
      rw [cd_one x _ (by omega) (by omega) hx (by omega) (by simp only; unfold lim at *; omega) (by simp only; omega) (by simp only; unfold lim at *; omega)]
      simp only
      rw [if_neg (by omega), if_pos (by omega), if_neg (by omega), if_pos h]
      simp only [Option.map_some, Option.some.injEq]
      congr 1 <;> omega
theorem okE_at : ∀ (i : Nat) (l : List Eg) (e : Int), 0 ≤ e → okE e l = true → ∃ e', 0 ≤ e' ∧ okE e' (l.drop i) = true
  | 0, l, e, h0, h => ⟨e, h0, by simpa using h⟩
  | i + 1, [], e, h0, h => ⟨e, h0, by simpa using h⟩
  | i + 1, x :: l, e, h0, h => by
    simp only [okE] at h
    split at h; · cases h
    split at h; · cases h
    simpa using okE_at i l x.f1 (by omega) h
theorem tot_drop : ∀ (i : Nat) (l : List Eg), tot (l.drop i) ≤ tot l
  | 0, l => by simp
  | i + 1, [] => by simp
  | i + 1, x :: l => by
    have := tot_drop i l
    simp only [List.drop_succ_cons, tot]; omega
theorem same_l (l : List Dg) (hl : l.length ≤ 5864062014805) : ∀ (n : Nat) (i : Int), 0 ≤ i → i + n = l.length → ∃ k, scholiastlaw20_same.l0 k l l l.length i = some true
  | 0, i, h0, h1 => ⟨1, by simp only [scholiastlaw20_same.l0]; rw [if_neg (by omega)]⟩
  | n + 1, i, h0, h1 => by
    obtain ⟨k, hk⟩ := same_l l hl n (i + 1) (by omega) (by omega)
    refine ⟨k + 1, ?_⟩
    simp only [scholiastlaw20_same.l0]
    rw [if_pos (by omega), if_pos h0, if_pos (by omega), if_pos (by omega), wrap_in (n := l.length) h0 (by omega) (by omega), hk]
    simp
theorem same_refl (l : List Dg) (hl : l.length ≤ 5864062014805) : ∃ k, scholiastlaw20_same.f k l l = some true := by
  obtain ⟨k, hk⟩ := same_l l hl l.length 0 (by omega) (by omega)
  exact ⟨k, by unfold scholiastlaw20_same.f; rw [if_pos rfl, hk]⟩
theorem fm_congr (f g : Dg → Option Dg) : ∀ (l : List Dg), (∀ x ∈ l, f x = g x) → l.filterMap f = l.filterMap g
  | [], _ => rfl
  | x :: l, h => by
    rw [List.filterMap_cons, List.filterMap_cons, h x List.mem_cons_self, fm_congr f g l (fun y hy => h y (List.mem_cons_of_mem _ hy))]
theorem filterMap_step (l : List Dg) (f g h : Dg → Option Dg) (e : ∀ d ∈ l, (f d).bind g = h d) : (l.filterMap f).filterMap g = l.filterMap h := by
  rw [List.filterMap_filterMap]
  exact fm_congr _ _ l e
def okD (d : Dg) : Prop := 0 ≤ d.f1 ∧ d.f1 ≤ d.f2 ∧ d.f2 ≤ lim
theorem singly_l1 (l : List Dg) (es : List Eg) (hl : l.length ≤ 5864062014805) (he : es.length ≤ 4398046511104) (hd : ∀ d ∈ l, okD d) (hok : okE 0 es = true) (ht : tot es ≤ 4294967296) :
    ∀ (n : Nat), n ≤ es.length → (∀ y ∈ es.drop n, y.f1 ≤ lim) → ∃ k, scholiastlaw20_DiagSingly.l1 k es (l.filterMap (cd es)) (l.filterMap (cd (es.drop n))) ((n : Int) - 1) = some true
  | 0, hn, hy => by
    obtain ⟨k, hk⟩ := same_refl (l.filterMap (cd es)) (Nat.le_trans (List.length_filterMap_le _ _) hl)
    refine ⟨k + 1, ?_⟩
    simp only [scholiastlaw20_DiagSingly.l1]
    rw [if_neg (by omega), List.drop_zero, hk]
    rfl
  | n + 1, hn, hy => by
    have hj : ((n + 1 : Nat) : Int) - 1 = n := by omega
    rw [hj]
    have hdr := drop_E es n (by omega) (by omega)
    rw [Int.toNat_natCast, show ((n : Int) + 1).toNat = n + 1 by omega] at hdr
    by_cases c : (rd_T43 es n).f1 > 1099511627776
    · exact ⟨1, by simp only [scholiastlaw20_DiagSingly.l1]; rw [if_pos (by omega), if_pos (by omega), if_pos (by omega), if_pos c]⟩
    · obtain ⟨e, e0, hoe⟩ := okE_at n es 0 (by omega) hok
      rw [hdr] at hoe
      have hyl : ∀ y ∈ rd_T43 es n :: es.drop (n + 1), y.f1 ≤ lim := fun y hm => by
        rcases List.mem_cons.1 hm with rfl | hm
        · unfold lim; omega
        · exact hy y hm
      have htd := tot_drop n es
      rw [hdr] at htd
      have hstep : (l.filterMap (cd (es.drop (n + 1)))).filterMap (cd [rd_T43 es n]) = l.filterMap (cd (es.drop n)) := by
        rw [hdr]
        refine filterMap_step l _ _ _ (fun d hm => ?_)
        obtain ⟨b0, b1, b2⟩ := hd d hm
        exact singly_step d _ _ b0 b1 b2 e e0 hoe hyl (by omega)
      obtain ⟨k1, hk1⟩ := singly_l1 l es hl he hd hok ht n (by omega) (by rw [hdr]; exact hyl)
      have hx : (es.take ((wrap64 ((n : Int) + 1)) : Int).toNat).drop (n : Int).toNat = [rd_T43 es n] := by
        rw [show wrap64 ((n : Int) + 1) = n + 1 by unfold wrap64; omega, Int.toNat_natCast, show ((n : Int) + 1).toNat = n + 1 by omega, List.drop_take, hdr, show n + 1 - n = 1 by omega]
        rfl
      have hoe1 : okE 0 [rd_T43 es n] = true := by
        simp only [okE] at hoe ⊢
        split at hoe; · cases hoe
        split at hoe; · cases hoe
        rw [if_neg (by omega), if_neg (by omega)]
      obtain ⟨k2, hk2⟩ := carry_ok (l.filterMap (cd (es.drop (n + 1)))) [rd_T43 es n] (Nat.le_trans (List.length_filterMap_le _ _) hl) (by simp)
      have hk1' := at_rounds (fun k => (scholiastlaw20_DiagSingly.mono_l k).2 es (l.filterMap (cd es)) (l.filterMap (cd (es.drop n))) ((n : Int) - 1)) (Nat.le_max_left k1 k2) hk1
      have hk2' := at_rounds (fun k => diag_Carry.mono (l.filterMap (cd (es.drop (n + 1)))) [rd_T43 es n] k) (Nat.le_max_right k1 k2) hk2
      refine ⟨max k1 k2 + 1, ?_⟩
      simp only [scholiastlaw20_DiagSingly.l1]
      rw [if_pos (by omega), if_pos (by omega), if_pos (by omega), if_neg c, if_pos (by unfold wrap64; omega), if_pos (by unfold wrap64; omega), hx, hk2']
      unfold carry
      rw [if_pos hoe1]
      simp only [Option.bind_some, if_true]
      rw [hstep, show wrap64 ((n : Int) - 1) = (n : Int) - 1 by unfold wrap64; omega]
      exact hk1'
theorem singly_l0 (l : List Dg) (es : List Eg) (hl : l.length < 5864062014805) (he : es.length ≤ 4398046511104) (hok : okE 0 es = true) (ht : tot es ≤ 4294967296) :
    ∀ (n : Nat) (i : Int), 0 ≤ i → i + n = l.length → (∀ d ∈ l.take i.toNat, okD d) → ∃ k, scholiastlaw20_DiagSingly.l0 k l es (l.filterMap (cd es)) l l.length i = some true
  | 0, i, h0, h1, h2 => by
    rw [show i.toNat = l.length by omega, List.take_length] at h2
    obtain ⟨k, hk⟩ := singly_l1 l es (by omega) he h2 hok ht es.length (Nat.le_refl _) (by simp)
    refine ⟨k + 1, ?_⟩
    simp only [scholiastlaw20_DiagSingly.l0]
    rw [if_neg (by omega), if_pos (by simpa using hl), List.nil_append, show wrap64 ((es.length : Int) - 1) = (es.length : Int) - 1 by unfold wrap64; omega]
    have hid : l.filterMap (cd (es.drop es.length)) = l := by
      rw [List.drop_length]
      have : ∀ d ∈ l, cd [] d = some d := fun d hm => by
        obtain ⟨b0, b1, b2⟩ := h2 d hm
        unfold lim at b2
        simp only [cd, cv, Option.map_some]
        rw [show wrap64 (d.f1 + 0) = d.f1 by unfold wrap64; omega, show wrap64 (d.f2 + 0) = d.f2 by unfold wrap64; omega]
      rw [fm_congr _ _ l this, List.filterMap_some]
    rw [hid] at hk
    exact hk
  | n + 1, i, h0, h1, h2 => by
    have hdr := drop_D l i h0 (by omega)
    by_cases c1 : (rd_T36 l i).f1 < 0
    · exact ⟨1, by simp only [scholiastlaw20_DiagSingly.l0]; rw [if_pos (by omega), if_pos h0, if_pos (by omega), if_pos c1]⟩
    · by_cases c2 : (rd_T36 l i).f1 > (rd_T36 l i).f2
      · exact ⟨1, by simp only [scholiastlaw20_DiagSingly.l0]; rw [if_pos (by omega), if_pos h0, if_pos (by omega), if_neg c1, if_pos c2]⟩
      · by_cases c3 : (rd_T36 l i).f2 > 1099511627776
        · exact ⟨1, by simp only [scholiastlaw20_DiagSingly.l0]; rw [if_pos (by omega), if_pos h0, if_pos (by omega), if_neg c1, if_neg c2, if_pos c3]⟩
        · obtain ⟨k, hk⟩ := singly_l0 l es hl he hok ht n (i + 1) (by omega) (by omega) (fun d hm => by
            have hl' : i.toNat < l.length := by omega
            rw [show (i + 1).toNat = i.toNat + 1 by omega, List.take_add_one] at hm
            rcases List.mem_append.1 hm with hm | hm
            · exact h2 d hm
            · rw [List.drop_eq_getElem_cons hl'] at hdr
              rw [List.getElem?_eq_getElem hl', (List.cons.inj hdr).1] at hm
              simp only [Option.toList_some, List.mem_singleton] at hm
              subst hm
              unfold okD lim; omega)
          refine ⟨k + 1, ?_⟩
          simp only [scholiastlaw20_DiagSingly.l0]
          rw [if_pos (by omega), if_pos h0, if_pos (by omega), if_neg c1, if_neg c2, if_neg c3, wrap_in (n := l.length) h0 (by omega) (by omega)]
          exact hk
theorem singly_pure (l : List Dg) (es : List Eg) (hl : l.length < 5864062014805) (he : es.length ≤ 4398046511104) (ht : tot es ≤ 4294967296) : ∃ k, scholiastlaw20_DiagSingly.f k l es = some true := by
  obtain ⟨k1, hk1⟩ := carry_ok l es (by omega) he
  by_cases hok : okE 0 es = true
  · obtain ⟨k2, hk2⟩ := singly_l0 l es hl he hok ht l.length 0 (by omega) (by omega) (by simp)
    have a1 := at_rounds (fun k => diag_Carry.mono l es k) (show k1 ≤ 20 + (k1 + k2) by omega) hk1
    have a2 := at_rounds (fun k => (scholiastlaw20_DiagSingly.mono_l k).1 l es (l.filterMap (cd es)) l l.length 0) (show k2 ≤ 20 + (k1 + k2) by omega) hk2
    refine ⟨20 + (k1 + k2), ?_⟩
    unfold scholiastlaw20_DiagSingly.f
    rw [shown_true_le, a1]
    simp only [Option.bind_some, if_true]
    unfold carry
    rw [if_pos hok]
    simp only [if_true]
    exact a2
  · have a1 := at_rounds (fun k => diag_Carry.mono l es k) (show k1 ≤ 20 + k1 by omega) hk1
    refine ⟨20 + k1, ?_⟩
    unfold scholiastlaw20_DiagSingly.f
    rw [shown_true_le, a1]
    simp only [Option.bind_some, if_true]
    unfold carry
    rw [if_neg hok]
    rfl
end Go.Proofs.YtcbimnmpdpkefaaDoor.A
