/- The document's answers about lines and places, in plain words. -/
import Derived.Test.YtcbimnmpdpkefaaTextRef
import Derived.Test.YtcbimnmpdpkefaaTextPiecesP
import Derived.Test.YtcbimnmpdpkefaaAx7
import Derived.Test.YtcbimnmpdpkefaaAx8
import Derived.Test.YtcbimnmpdpkefaaAx9
import Derived.Test.YtcbimnmpdpkefaaAx10
import Derived.Test.YtcbimnmpdpkefaaAx11
set_option linter.unusedVariables false
set_option linter.unusedSimpArgs false
namespace Go.Proofs.YtcbimnmpdpkefaaTB
open Go.RowKit Go.Proofs.YtcbimnmpdpkefaaW.PrintWords Go.Proofs.Ytcbimnmpdpkefaa.A

theorem rpiece (s : ByteArray) (a b : Int) : scholiastref01_Buffer_Piece.f s a b = some ((pcs s a b).1, (pcs s a b).2, s) := by
  unfold scholiastref01_Buffer_Piece.f pcs
  by_cases h1 : a < 0
  · rw [if_pos h1, if_pos (.inl h1)]
  · by_cases h2 : b < a
    · rw [if_neg h1, if_pos h2, if_pos (.inr (.inl h2))]
    · by_cases h3 : b > (s.size : Int)
      · rw [if_neg h1, if_neg h2, if_pos h3, if_pos (.inr (.inr h3))]
      · rw [if_neg h1, if_neg h2, if_neg h3, if_pos (by omega), if_pos (by omega), if_pos (by omega), if_neg (by omega), sub_extract]
theorem rlines_l (s : ByteArray) (hs : s.size ≤ 16384) : ∀ (d k : Nat) (c i : Int), 0 ≤ i → i + d = s.size → d < k → 0 ≤ c → c + d ≤ 20000 → scholiastref01_Buffer_Lines.l0 k c i s = some (c + ((stf i ((bys s).drop i.toNat)).length : Int), s)
  | 0, k, c, i, h0, h1, h2, h3, h4 => by
    obtain ⟨k, rfl⟩ : ∃ m, k = m + 1 := ⟨k - 1, by omega⟩
    simp only [scholiastref01_Buffer_Lines.l0]
    rw [if_neg (by omega), List.drop_eq_nil_of_le (by rw [bys_length]; omega)]
    simp [stf]
  | d + 1, k, c, i, h0, h1, h2, h3, h4 => by
    obtain ⟨k, rfl⟩ : ∃ m, k = m + 1 := ⟨k - 1, by omega⟩
    obtain ⟨u, hu, hb⟩ := bys_drop s i h0 (by omega)
    simp only [scholiastref01_Buffer_Lines.l0]
    rw [if_pos (by omega), if_pos h0, hb, hu]
    simp only [stf]
    have e1 : wrap64 (i + 1) = i + 1 := by unfold wrap64; omega
    have e2 : wrap64 (c + 1) = c + 1 := by unfold wrap64; omega
    by_cases h : (u.toNat : Int) = 10
    · rw [if_pos h, if_pos h, e1, e2, rlines_l s hs d k (c + 1) (i + 1) (by omega) (by omega) (by omega) (by omega) (by omega)]
      simp only [List.length_cons, Option.some.injEq, Prod.mk.injEq, and_true]
      omega
    · rw [if_neg h, if_neg h, e1, rlines_l s hs d k c (i + 1) (by omega) (by omega) (by omega) (by omega) (by omega)]
theorem rlines (s : ByteArray) (hs : s.size ≤ 16384) : scholiastref01_Buffer_Lines.f 16385 s = some (((st s).length : Int), s) := by
  unfold scholiastref01_Buffer_Lines.f
  rw [rlines_l s hs s.size 16385 1 0 (by omega) (by omega) (by omega) (by omega) (by omega)]
  simp only [Int.toNat_zero, List.drop_zero, st, List.length_cons, Option.some.injEq, Prod.mk.injEq, and_true]
  omega
/-- How many lines end ahead of a place. -/
def ln (s : ByteArray) (i : Int) : Int := ((stf 0 ((bys s).take i.toNat)).length : Int)
theorem ln_zero (s : ByteArray) : ln s 0 = 0 := by simp [ln, stf]
theorem stf_take (s : ByteArray) (i : Int) (h0 : 0 ≤ i) (h1 : i ≤ s.size) : stf 0 (bys s) = stf 0 ((bys s).take i.toNat) ++ stf i ((bys s).drop i.toNat) := by
  conv => lhs; rw [← List.take_append_drop i.toNat (bys s)]
  rw [stf_append, List.length_take, bys_length]
  congr 2
  omega
theorem ln_next (s : ByteArray) (i : Int) (h0 : 0 ≤ i) (h1 : i < s.size) : (bt s i = 10 → ln s (i + 1) = ln s i + 1 ∧ rd (st s) (ln s (i + 1)) = i + 1 ∧ ln s i + 1 < (st s).length) ∧ (bt s i ≠ 10 → ln s (i + 1) = ln s i) := by
  obtain ⟨u, hu, hb⟩ := bys_drop s i h0 h1
  have htk : (bys s).take (i + 1).toNat = (bys s).take i.toNat ++ [u] := by
    rw [show (i + 1).toNat = i.toNat + 1 by omega, List.take_add_one]
    have hl : i.toNat < (bys s).length := by rw [bys_length]; omega
    rw [List.drop_eq_getElem_cons hl] at hu
    rw [List.getElem?_eq_getElem hl, ← (List.cons.inj hu).1]
    rfl
  have hlen : ((bys s).take i.toNat).length = i.toNat := by rw [List.length_take, bys_length]; omega
  have hs2 : stf 0 ((bys s).take (i + 1).toNat) = stf 0 ((bys s).take i.toNat) ++ stf i [u] := by
    rw [htk, stf_append, hlen]
    congr 2
    omega
  refine ⟨fun h => ?_, fun h => ?_⟩
  · rw [hb] at h
    have he : stf i [u] = [i + 1] := by simp only [stf]; rw [if_pos h]
    have h1' : ln s (i + 1) = ln s i + 1 := by
      unfold ln
      rw [hs2, he, List.length_append]; simp
    have hst : st s = 0 :: (stf 0 ((bys s).take i.toNat) ++ ([i + 1] ++ stf (i + 1) ((bys s).drop (i + 1).toNat))) := by
      unfold st
      rw [stf_take s (i + 1) (by omega) (by omega), hs2, he, List.append_assoc]
    refine ⟨h1', ?_, ?_⟩
    · rw [h1', hst]
      unfold rd ln
      rw [show (((stf 0 ((bys s).take i.toNat)).length : Int) + 1).toNat = (stf 0 ((bys s).take i.toNat)).length + 1 by omega, List.getD_cons_succ, List.getD_eq_getElem?_getD, List.getElem?_append_right (Nat.le_refl _)]
      simp
    · rw [hst]
      unfold ln
      simp only [List.length_cons, List.length_append, List.length_nil]
      omega
  · rw [hb] at h
    have he : stf i [u] = [] := by simp only [stf]; rw [if_neg h]
    unfold ln
    rw [hs2, he, List.append_nil]
theorem ln_all (s : ByteArray) : ln s s.size = ((st s).length : Int) - 1 := by
  unfold ln st
  rw [Int.toNat_natCast, ← bys_length, List.take_length]
  simp
theorem ln_lt (s : ByteArray) (i : Int) (h0 : 0 ≤ i) (h1 : i ≤ s.size) : 0 ≤ ln s i ∧ ln s i < (st s).length := by
  unfold ln st
  rw [stf_take s i h0 h1]
  simp only [List.length_cons, List.length_append]
  omega
theorem lineOf_ln (s : ByteArray) (i : Int) (h0 : 0 ≤ i) (h1 : i ≤ s.size) : lineOf s i = ln s i := by
  unfold lineOf st ln
  rw [stf_take s i h0 h1, List.countP_cons, List.countP_append]
  have e1 : (stf 0 ((bys s).take i.toNat)).countP (fun y => !decide (i + 1 ≤ y)) = (stf 0 ((bys s).take i.toNat)).length := List.countP_eq_length.2 (fun y hy => by
    have := stf_mem 0 _ y hy
    rw [List.length_take, bys_length] at this
    simp; omega)
  have e2 : (stf i ((bys s).drop i.toNat)).countP (fun y => !decide (i + 1 ≤ y)) = 0 := List.countP_eq_zero.2 (fun y hy => by
    have := stf_mem i _ y hy
    simp; omega)
  rw [e1, e2]
  have : (!decide (i + 1 ≤ 0)) = true := by simp; omega
  rw [if_pos this]
  omega
theorem rplace_l (s : ByteArray) (p : Int) (hs : s.size ≤ 16384) (hp : p ≤ s.size) : ∀ (d k : Nat) (i : Int), 0 ≤ i → i + d = p → d < k → scholiastref01_Buffer_Place.l0 k p (ln s i) (rd (st s) (ln s i)) i s = some (ln s p, p - rd (st s) (ln s p), 0, s)
  | 0, k, i, h0, h1, h2 => by
    obtain ⟨k, rfl⟩ : ∃ m, k = m + 1 := ⟨k - 1, by omega⟩
    obtain rfl : i = p := by omega
    have hm := st_mem s _ (rd_mem (st s) (ln s i) (ln_lt s i h0 hp).1 (ln_lt s i h0 hp).2)
    simp only [scholiastref01_Buffer_Place.l0]
    rw [if_neg (by omega), show wrap64 (i - rd (st s) (ln s i)) = i - rd (st s) (ln s i) by unfold wrap64; omega]
  | d + 1, k, i, h0, h1, h2 => by
    obtain ⟨k, rfl⟩ : ∃ m, k = m + 1 := ⟨k - 1, by omega⟩
    obtain ⟨hn1, hn2⟩ := ln_next s i h0 (by omega)
    have hlt := ln_lt s i h0 (by omega)
    have hsl := st_length s
    have e1 : wrap64 (i + 1) = i + 1 := by unfold wrap64; omega
    have e2 : wrap64 (ln s i + 1) = ln s i + 1 := by unfold wrap64; omega
    simp only [scholiastref01_Buffer_Place.l0]
    rw [if_pos (by omega), if_pos h0, if_pos (by omega)]
    by_cases h : bt s i = 10
    · obtain ⟨g1, g2, _⟩ := hn1 h
      rw [if_pos h, e1, e2, ← g1]
      conv => lhs; arg 4; rw [← g2]
      exact rplace_l s p hs hp d k (i + 1) (by omega) (by omega) (by omega)
    · rw [if_neg h, e1, ← hn2 h]
      exact rplace_l s p hs hp d k (i + 1) (by omega) (by omega) (by omega)
theorem rplace (s : ByteArray) (p : Int) (hs : s.size ≤ 16384) : scholiastref01_Buffer_Place.f 16386 s p = some ((plc s p).1, (plc s p).2.1, (plc s p).2.2, s) := by
  unfold scholiastref01_Buffer_Place.f plc
  by_cases h1 : p < 0
  · rw [if_pos h1, if_pos (.inl h1)]; rfl
  · by_cases h2 : p > (s.size : Int)
    · rw [if_neg h1, if_pos (.inr h2), decide_eq_true h2]; rfl
    · rw [if_neg h1, if_neg (by omega), decide_eq_false h2, lineOf_ln s p (by omega) (by omega)]
      have h := rplace_l s p hs (by omega) p.toNat 16385 0 (by omega) (by omega) (by omega)
      rw [ln_zero, st_zero] at h
      exact h
theorem rline_l (s : ByteArray) (n : Int) (hs : s.size ≤ 16384) : ∀ (d k : Nat) (i : Int), 0 ≤ i → i + d = s.size → 2 * d + 4 < k → ¬ (0 ≤ n ∧ n < ln s i) → scholiastref01_Buffer_Line.l0 k n (rd (st s) (ln s i)) (ln s i) i s = some ((lin s n).1, (lin s n).2.1, (lin s n).2.2, s) := by
  intro d
  induction d with
  | zero =>
    intro k i h0 h1 h2 hn
    obtain ⟨k, rfl⟩ : ∃ m, k = m + 3 := ⟨k - 3, by omega⟩
    obtain rfl : i = s.size := by omega
    have hal := ln_all s
    have hsl := st_length s
    simp only [scholiastref01_Buffer_Line.l0, scholiastref01_Buffer_Line.j1]
    rw [if_pos (by omega)]
    simp only [if_true]
    by_cases h : ln s s.size = n
    · rw [if_pos h, h]
      unfold lin
      rw [if_neg (by omega), if_neg (by omega)]
    · rw [if_neg h, show wrap64 ((s.size : Int) + 1) = s.size + 1 by unfold wrap64; omega, if_neg (by omega)]
      unfold lin
      rw [if_pos (by omega)]
  | succ d ih =>
    intro k i h0 h1 h2 hn
    obtain ⟨k, rfl⟩ : ∃ m, k = m + 2 := ⟨k - 2, by omega⟩
    obtain ⟨hn1, hn2⟩ := ln_next s i h0 (by omega)
    have hlt := ln_lt s i h0 (by omega)
    have hsl := st_length s
    have e1 : wrap64 (i + 1) = i + 1 := by unfold wrap64; omega
    have e2 : wrap64 (ln s i + 1) = ln s i + 1 := by unfold wrap64; omega
    simp only [scholiastref01_Buffer_Line.l0, scholiastref01_Buffer_Line.j1]
    rw [if_pos (by omega), if_neg (by omega), if_pos h0, if_pos (by omega)]
    by_cases h : bt s i = 10
    · obtain ⟨g1, g2, g3⟩ := hn1 h
      rw [h]
      simp only [beq_self_eq_true, if_true]
      by_cases hq : ln s i = n
      · rw [if_pos hq, hq]
        unfold lin
        rw [if_neg (by omega), if_pos (by omega), ← hq, ← g1, g2]
        simp
      · rw [if_neg hq, e1, e2, ← g1]
        conv => lhs; arg 3; rw [← g2]
        exact ih k (i + 1) (by omega) (by omega) (by omega) (by omega)
    · have hb : (bt s i == 10) = false := by simpa using h
      rw [hb]
      simp only [Bool.false_eq_true, if_false]
      rw [e1, ← hn2 h]
      exact ih k (i + 1) (by omega) (by omega) (by omega) (by rw [hn2 h]; exact hn)
theorem rline (s : ByteArray) (n : Int) (hs : s.size ≤ 16384) : scholiastref01_Buffer_Line.f 40000 s n = some ((lin s n).1, (lin s n).2.1, (lin s n).2.2, s) := by
  unfold scholiastref01_Buffer_Line.f
  have h := rline_l s n hs s.size 40000 0 (by omega) (by omega) (by omega) (by rw [ln_zero]; omega)
  rw [ln_zero, st_zero] at h
  exact h
/-- The place of a line and a column. -/
def atc (s : ByteArray) (n c : Int) : Int × Int := if (lin s n).2.2 = 0 then if c < 0 then (0, 10) else if c > (lin s n).2.1 - (lin s n).1 then (0, 10) else ((lin s n).1 + c, 0) else (0, 10)
theorem lin_range (s : ByteArray) (n : Int) : 0 ≤ (lin s n).1 ∧ (lin s n).1 ≤ (lin s n).2.1 ∧ (lin s n).2.1 ≤ s.size := by
  by_cases h : n < 0 ∨ n ≥ ((st s).length : Int)
  · unfold lin; rw [if_pos h]; simp
  · have := lend_range s n (by omega) (by omega)
    unfold lin; rw [if_neg h]; exact this
theorem rat (s : ByteArray) (n c : Int) (hs : s.size ≤ 16384) (hc : -9223372036854775808 ≤ c ∧ c ≤ 9223372036854775807) : scholiastref01_Buffer_At.f 40000 s n c = some ((atc s n c).1, (atc s n c).2, s) := by
  have hr := lin_range s n
  unfold scholiastref01_Buffer_At.f atc
  rw [rline s n hs]
  simp only [Option.bind_some]
  rw [show wrap64 ((lin s n).2.1 - (lin s n).1) = (lin s n).2.1 - (lin s n).1 by unfold wrap64; omega]
  split
  · split
    · rfl
    · split
      · rfl
      · rw [show wrap64 ((lin s n).1 + c) = (lin s n).1 + c by unfold wrap64; omega]
  · rfl
end Go.Proofs.YtcbimnmpdpkefaaTB
