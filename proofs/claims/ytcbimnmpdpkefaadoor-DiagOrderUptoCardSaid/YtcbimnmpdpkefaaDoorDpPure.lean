/- diag.Print: places as line and column, in plain words. -/
import Derived.Test.YtcbimnmpdpkefaaDoorTextPure
import Derived.Lib.ItoaNum
set_option linter.unusedVariables false
set_option linter.unusedSimpArgs false
namespace Go.Proofs.YtcbimnmpdpkefaaDoorTB
open Go.Proofs.YtcbimnmpdpkefaaDoorW.PrintWords

def dp_lc : List UInt8 → Int → Int → Int × Int
  | [], l, c => (l, c)
  | x :: xs, l, c => if (x.toNat : Int) = 10 then dp_lc xs (l + 1) 1 else dp_lc xs l (c + 1)
/-- Line and column of place p, from 1 on. -/
def dp_pos (s : ByteArray) (p : Int) : Int × Int := dp_lc ((bys s).take p.toNat) 1 1
theorem dp_lc_stf (a : Int) (xs : List UInt8) (l c : Int) : dp_lc xs l c = (l + (stf a xs).length, if h : stf a xs = [] then c + xs.length else a + xs.length - (stf a xs).getLast h + 1) := by
  induction xs generalizing a l c with
  | nil => simp [dp_lc, stf]
  | cons x xs ih =>
    unfold dp_lc stf
    split
    · rw [ih (a + 1) (l + 1) 1]
      simp only [List.length_cons, reduceCtorEq, ↓reduceDIte]
      refine Prod.ext (by simp; omega) ?_
      by_cases h : stf (a + 1) xs = []
      · rw [dif_pos h]
        simp [h]; omega
      · rw [dif_neg h, List.getLast_cons h]
        simp; omega
    · rw [ih (a + 1) l (c + 1)]
      refine Prod.ext rfl ?_
      by_cases h : stf (a + 1) xs = []
      · rw [dif_pos h, dif_pos h]; simp; omega
      · rw [dif_neg h, dif_neg h]; simp; omega
theorem dp_countP_le {xs : List Int} {p : Int} (h : ∀ y ∈ xs, y ≤ p) : xs.countP (fun y => !decide (p + 1 ≤ y)) = xs.length := by
  rw [List.countP_eq_length]
  intro y hy
  have := h y hy
  simp; omega
theorem dp_countP_gt {xs : List Int} {p : Int} (h : ∀ y ∈ xs, p < y) : xs.countP (fun y => !decide (p + 1 ≤ y)) = 0 := by
  rw [List.countP_eq_zero]
  intro y hy
  have := h y hy
  simp; omega
theorem dp_split (s : ByteArray) (p : Int) (h0 : 0 ≤ p) (h1 : p ≤ (s.size : Int)) : st s = (0 :: stf 0 ((bys s).take p.toNat)) ++ stf p ((bys s).drop p.toNat) := by
  unfold st
  rw [List.cons_append]
  congr 1
  conv => lhs; rw [← List.take_append_drop p.toNat (bys s)]
  rw [stf_append]
  congr 2
  rw [List.length_take, bys_length]; omega
theorem dp_line (s : ByteArray) (p : Int) (h0 : 0 ≤ p) (h1 : p ≤ (s.size : Int)) : lineOf s p = (stf 0 ((bys s).take p.toNat)).length := by
  unfold lineOf
  rw [dp_split s p h0 h1, List.countP_append, dp_countP_gt (fun y hy => (stf_mem p _ y hy).1), dp_countP_le]
  · simp
  · intro y hy
    rcases List.mem_cons.1 hy with rfl | hy
    · exact h0
    · have := (stf_mem 0 _ y hy).2
      rw [List.length_take, bys_length] at this
      omega
theorem dp_pos_eq (s : ByteArray) (p : Int) (h0 : 0 ≤ p) (h1 : p ≤ (s.size : Int)) : dp_pos s p = (lineOf s p + 1, p - rd (st s) (lineOf s p) + 1) := by
  unfold dp_pos
  rw [dp_lc_stf 0, dp_line s p h0 h1, dp_split s p h0 h1]
  have hl : ((bys s).take p.toNat).length = p.toNat := by rw [List.length_take, bys_length]; omega
  refine Prod.ext (by simp; omega) ?_
  have hget : rd ((0 :: stf 0 ((bys s).take p.toNat)) ++ stf p ((bys s).drop p.toNat)) ((stf 0 ((bys s).take p.toNat)).length : Int) = (0 :: stf 0 ((bys s).take p.toNat)).getLast (by simp) := by
    unfold rd
    rw [List.getD_eq_getElem?_getD, Int.toNat_natCast, List.getElem?_append_left (by simp), List.getElem?_eq_getElem (by simp), List.getLast_eq_getElem]
    simp
  rw [hget]
  by_cases h : stf 0 ((bys s).take p.toNat) = []
  · simp only [h, ↓reduceDIte, hl, List.getLast_singleton]; omega
  · simp only [h, ↓reduceDIte, hl, List.getLast_cons h]; omega
theorem dp_lc_bound (xs : List UInt8) (l c : Int) (hl : 1 ≤ l) (hc : 1 ≤ c) : 1 ≤ (dp_lc xs l c).1 ∧ (dp_lc xs l c).1 ≤ l + xs.length ∧ 1 ≤ (dp_lc xs l c).2 ∧ (dp_lc xs l c).2 ≤ c + xs.length := by
  induction xs generalizing l c with
  | nil => simp [dp_lc]; omega
  | cons x xs ih =>
    unfold dp_lc
    simp only [List.length_cons]
    split
    · have := ih (l + 1) 1 (by omega) (by omega); omega
    · have := ih l (c + 1) hl (by omega); omega
theorem dp_pos_bound (s : ByteArray) (p : Int) (h0 : 0 ≤ p) (h1 : p ≤ (s.size : Int)) : 1 ≤ (dp_pos s p).1 ∧ (dp_pos s p).1 ≤ p + 1 ∧ 1 ≤ (dp_pos s p).2 ∧ (dp_pos s p).2 ≤ p + 1 := by
  have h := dp_lc_bound ((bys s).take p.toNat) 1 1 (by omega) (by omega)
  have hl : ((bys s).take p.toNat).length = p.toNat := by rw [List.length_take, bys_length]; omega
  rw [hl] at h
  unfold dp_pos
  omega
/-- A number in digits. -/
def dp_it (n : Int) : ByteArray := ⟨(Lib.itoa n).toArray⟩
theorem dp_dec_len (k : Nat) : ∀ u : Nat, u < 10 ^ (k + 1) → (Lib.decDigits u).length ≤ k + 1 := by
  induction k with
  | zero =>
    intro u hu
    rw [Lib.decDigits, dif_pos (by simpa using hu)]
    simp
  | succ k ih =>
    intro u hu
    rw [Lib.decDigits]
    split
    · simp
    · rw [List.length_append, List.length_singleton]
      have := ih (u / 10) (by rw [Nat.pow_succ] at hu; omega)
      omega
theorem dp_it_size (n : Int) (h0 : 0 ≤ n) (h1 : n ≤ 9223372036854775807) : (dp_it n).size ≤ 20 := by
  have h2 : (dp_it n).size = (Lib.decDigits n.toNat).length := by
    unfold dp_it Lib.itoa
    rw [if_neg (by omega)]
    simp [ByteArray.size]
  rw [h2]
  exact dp_dec_len 19 n.toNat (by omega)
/-- A place in words. -/
def dp_loc (s : ByteArray) (p : Int) : ByteArray := (dp_it (dp_pos s p).1 ++ (⟨#[58]⟩ : ByteArray)) ++ dp_it (dp_pos s p).2
theorem dp_loc_size (s : ByteArray) (p : Int) (h0 : 0 ≤ p) (h1 : p ≤ (s.size : Int)) (h2 : p < 9223372036854775807) : (dp_loc s p).size ≤ 41 := by
  have h := dp_pos_bound s p h0 h1
  unfold dp_loc
  rw [ByteArray.size_append, ByteArray.size_append, show (⟨#[58]⟩ : ByteArray).size = 1 from rfl]
  have h3 := dp_it_size (dp_pos s p).1 (by omega) (by omega)
  have h4 := dp_it_size (dp_pos s p).2 (by omega) (by omega)
  omega
end Go.Proofs.YtcbimnmpdpkefaaDoorTB
