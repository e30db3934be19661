/- TextSingly: in plain words, and the walk. -/
import Derived.Test.YtcbimnmpdpkefaaTextRef
import Derived.Test.YtcbimnmpdpkefaaAx2
set_option linter.unusedVariables false
set_option linter.unusedSimpArgs false
namespace Go.Proofs.YtcbimnmpdpkefaaTB
open Go.RowKit Go.Proofs.YtcbimnmpdpkefaaW.PrintWords Go.Proofs.YtcbimnmpdpkefaaW.PrintLast Go.Proofs.YtcbimnmpdpkefaaW.PrintMore Go.Proofs.Ytcbimnmpdpkefaa.A

theorem edits_l (l : List Ed) (hl : l.length ≤ 4398046511104) : ∀ (d k : Nat) (z i : Int), 0 ≤ i → i + d = l.length → d < k → (l.length : Int) ≤ z → z ≤ 8796093022208 → ∃ r, scholiastlaw01_edits.l0 k l z i = some r ∧ (l.length : Int) ≤ r
  | 0, k, z, i, h0, h1, h2, h3, h4 => by
    obtain ⟨k, rfl⟩ : ∃ m, k = m + 1 := ⟨k - 1, by omega⟩
    exact ⟨z, by simp only [scholiastlaw01_edits.l0]; rw [if_neg (by omega)], h3⟩
  | d + 1, k, z, i, h0, h1, h2, h3, h4 => by
    obtain ⟨k, rfl⟩ : ∃ m, k = m + 1 := ⟨k - 1, by omega⟩
    simp only [scholiastlaw01_edits.l0]
    rw [if_pos (by omega)]
    by_cases c : z ≤ 1073741824
    · rw [if_pos c, if_pos h0]
      have hm : 0 ≤ mn (((rd_T34 l i).f2).size : Int) 1073741824 ∧ mn (((rd_T34 l i).f2).size : Int) 1073741824 ≤ 1073741824 := by unfold mn; omega
      rw [show wrap64 (z + mn (((rd_T34 l i).f2).size : Int) 1073741824) = z + mn (((rd_T34 l i).f2).size : Int) 1073741824 by unfold wrap64; omega, show wrap64 (i + 1) = i + 1 by unfold wrap64; omega]
      exact edits_l l hl d k _ (i + 1) (by omega) (by omega) (by omega) (by omega) (by omega)
    · rw [if_neg c]
      exact ⟨z, rfl, h3⟩
theorem edits_some (l : List Ed) (hl : l.length ≤ 4398046511104) : ∃ r, scholiastlaw01_edits.f (l.length + 1) l = some r ∧ (l.length : Int) ≤ r :=
  edits_l l hl l.length (l.length + 1) _ 0 (by omega) (by omega) (by omega) (by omega) (by omega)

theorem fit1_sub (n : Int) : ∀ (l m : List Ed) (e : Int), m.Sublist l → fit1 n e l = true → fit1 n e m = true
  | _, _, e, .slnil, h => h
  | _, _, e, .cons (l₂ := l) x hs, h => by
    have h' := h
    simp only [fit1] at h'
    split at h'; · cases h'
    split at h'; · cases h'
    split at h'; · cases h'
    exact fit1_weak n _ _ _ (fit1_sub n l _ x.f1 hs h') (by omega)
  | _, _, e, .cons_cons (l₂ := l) x hs, h => by
    simp only [fit1] at h ⊢
    split at h; · cases h
    split at h; · cases h
    split at h; · cases h
    rw [if_neg (by omega), if_neg (by omega), if_neg (by omega)]
    exact fit1_sub n l _ x.f1 hs h
/-- One edit more, at a text that has some of the later ones. -/
theorem one_more (s t : ByteArray) (l L : List Ed) (x : Ed) (j : Nat) (h : fit1 s.size 0 l = true) (hd : l.drop j = x :: l.drop (j + 1)) (hL : L.Sublist (l.drop (j + 1))) (ht : bys t = app (bys s) 0 L) (hts : t.size ≤ 16384) :
    (fitsE t.size [x] = 0 ∧ bys (applied t [x]) = app (bys s) 0 (x :: L)) ∨ (fitsE t.size [x] = 11 ∧ applied t [x] = t) := by
  obtain ⟨e, e0, e1, hf⟩ := fit1_at s.size j l 0 (by omega) (by omega) h
  rw [hd] at hf
  have hf2 := fit1_sub _ _ _ _ (hL.cons_cons x) hf
  have hb := bys_length s
  have hst := app_step (bys s) (bys t) x L ht e e0 (by omega) (by rw [hb]; exact hf2)
  rw [bys_length] at hst
  obtain ⟨t0, t1, t2, t3⟩ := hst
  have h1 : fit1 t.size 0 [x] = true := by
    simp only [fit1]; rw [if_neg (by omega), if_neg (by omega), if_neg (by omega)]
  rcases hq : fit2 ((t.size : Int) - gone [x]) [x] with _ | _
  · right
    have hz : fitsE t.size [x] = 11 := by unfold fitsE; rw [h1, hq]; rfl
    exact ⟨hz, by unfold applied; rw [hz, if_neg (by decide)]⟩
  · left
    have hz : fitsE t.size [x] = 0 := by unfold fitsE; rw [h1, hq]; rfl
    refine ⟨hz, ?_⟩
    unfold applied
    rw [if_pos hz, bys_appB]
    simp only [app, Int.toNat_zero, List.drop_zero]
    rw [← List.append_assoc, t3]
    simp [app]
end Go.Proofs.YtcbimnmpdpkefaaTB
