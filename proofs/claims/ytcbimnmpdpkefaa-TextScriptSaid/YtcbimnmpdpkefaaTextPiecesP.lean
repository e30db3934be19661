/- TextPieces, in plain words: parts put together, and lines with line feeds between. -/
import Derived.Test.YtcbimnmpdpkefaaTextBufE
set_option linter.unusedVariables false
set_option linter.unusedSimpArgs false
namespace Go.Proofs.YtcbimnmpdpkefaaTB
open Go.RowKit Go.Proofs.YtcbimnmpdpkefaaW.PrintWords

theorem bys_append (a b : ByteArray) : bys (a ++ b) = bys a ++ bys b := by simp [bys]
theorem sub_parts (s : ByteArray) (f m t : Int) (h0 : 0 ≤ f) (h1 : f ≤ m) (h2 : m ≤ t) : sub s f m ++ sub s m t = sub s f t := by
  apply bys_inj
  rw [bys_append, bys_sub, bys_sub, bys_sub]
  have e : (bys s).take m.toNat = ((bys s).take t.toNat).take m.toNat := by rw [List.take_take, Nat.min_eq_left (by omega)]
  rw [e]
  generalize (bys s).take t.toNat = l
  have e2 : l.drop f.toNat = (l.take m.toNat).drop f.toNat ++ l.drop m.toNat := by
    conv => lhs; rw [← List.take_append_drop m.toNat l]
    rw [List.drop_append, List.length_take]
    congr 1
    by_cases h : m.toNat ≤ l.length
    · rw [Nat.min_eq_left h, show f.toNat - m.toNat = 0 by omega, List.drop_zero]
    · rw [List.drop_eq_nil_of_le (by omega : l.length ≤ m.toNat)]; simp
  exact e2.symm
theorem sub_extract (s : ByteArray) (f t : Int) : s.extract f.toNat t.toNat = sub s f t := bys_inj (by rw [bys_extract, bys_sub])
theorem sub_size (s : ByteArray) (f t : Int) : (sub s f t).size ≤ s.size := by
  rw [← bys_length, bys_sub, List.length_drop, List.length_take, bys_length]; omega
theorem stf_nl (a : Int) (l : List UInt8) : ∀ y ∈ stf a l, l[(y - a - 1).toNat]? = some 10 := by
  induction l generalizing a with
  | nil => simp [stf]
  | cons c cs ih =>
    intro y hy
    unfold stf at hy
    split at hy
    · rename_i hc
      rcases List.mem_cons.1 hy with rfl | hy
      · rw [show (a + 1 - a - 1).toNat = 0 by omega]
        have : c = 10 := UInt8.toNat_inj.1 (by simpa using (by exact_mod_cast hc : c.toNat = 10))
        simp [this]
      · have h1 := (stf_mem (a + 1) cs y hy).1
        have h2 := ih (a + 1) y hy
        rw [show (y - a - 1).toNat = (y - (a + 1) - 1).toNat + 1 by omega]
        simpa using h2
    · have h1 := (stf_mem (a + 1) cs y hy).1
      have h2 := ih (a + 1) y hy
      rw [show (y - a - 1).toNat = (y - (a + 1) - 1).toNat + 1 by omega]
      simpa using h2
theorem rd_mem (xs : List Int) (n : Int) (h0 : 0 ≤ n) (h1 : n < xs.length) : rd xs n ∈ xs := by
  unfold rd
  rw [List.getD_eq_getElem?_getD, List.getElem?_eq_getElem (by omega)]
  exact List.getElem_mem _
theorem st_zero (s : ByteArray) : rd (st s) 0 = 0 := rfl
theorem st_pos (s : ByteArray) (n : Int) (h0 : 1 ≤ n) (h1 : n < (st s).length) : 1 ≤ rd (st s) n ∧ rd (st s) n ≤ s.size ∧ (bys s)[(rd (st s) n - 1).toNat]? = some 10 := by
  have h2 : rd (st s) n = rd (stf 0 (bys s)) (n - 1) := by
    unfold rd st
    rw [show n.toNat = (n - 1).toNat + 1 by omega, List.getD_cons_succ]
  have hl : ((st s).length : Int) = (stf 0 (bys s)).length + 1 := by simp [st]
  have hm := rd_mem (stf 0 (bys s)) (n - 1) (by omega) (by omega)
  rw [h2]
  have h3 := stf_mem 0 (bys s) _ hm
  have h4 := stf_nl 0 (bys s) _ hm
  rw [bys_length] at h3
  refine ⟨by omega, by omega, ?_⟩
  rwa [Int.sub_zero] at h4
theorem st_step (s : ByteArray) (n : Int) (h0 : 0 ≤ n) (h1 : n + 1 < (st s).length) : rd (st s) n < rd (st s) (n + 1) := by
  have := List.pairwise_iff_getElem.1 (st_lt s) n.toNat (n + 1).toNat (by omega) (by omega) (by omega)
  unfold rd
  rw [List.getD_eq_getElem?_getD, List.getD_eq_getElem?_getD, List.getElem?_eq_getElem (by omega), List.getElem?_eq_getElem (by omega)]
  exact this
/-- Where line n ends. -/
def lend (s : ByteArray) (n : Int) : Int := if n + 1 < ((st s).length : Int) then rd (st s) (n + 1) - 1 else (s.size : Int)
theorem lend_range (s : ByteArray) (n : Int) (h0 : 0 ≤ n) (h1 : n < (st s).length) : 0 ≤ rd (st s) n ∧ rd (st s) n ≤ lend s n ∧ lend s n ≤ s.size := by
  have h2 := st_mem s _ (rd_mem (st s) n h0 h1)
  unfold lend
  split
  · rename_i h
    have h3 := st_step s n h0 h
    have h4 := st_pos s (n + 1) (by omega) h
    omega
  · omega
/-- The first n lines, with line feeds between. -/
def lns (s : ByteArray) (n : Int) : ByteArray := if n ≤ 0 then ⟨#[]⟩ else sub s 0 (lend s (n - 1))
theorem bys_empty : bys (⟨#[]⟩ : ByteArray) = [] := rfl
theorem lns_first (s : ByteArray) : lns s 0 ++ sub s (rd (st s) 0) (lend s 0) = lns s 1 := by
  unfold lns
  rw [if_pos (Int.le_refl 0), if_neg (by omega), st_zero]
  apply bys_inj
  rw [bys_append, bys_empty, List.nil_append]
  rfl
theorem lns_next (s : ByteArray) (n : Int) (h0 : 1 ≤ n) (h1 : n < (st s).length) : (lns s n ++ (⟨#[10]⟩ : ByteArray)) ++ sub s (rd (st s) n) (lend s n) = lns s (n + 1) := by
  have hp := st_pos s n h0 h1
  have hr := lend_range s n (by omega) h1
  unfold lns
  rw [if_neg (by omega), if_neg (by omega), show n + 1 - 1 = n by omega]
  have he : lend s (n - 1) = rd (st s) n - 1 := by unfold lend; rw [show n - 1 + 1 = n by omega, if_pos h1]
  rw [he]
  have h10 : sub s 0 (rd (st s) n - 1) ++ (⟨#[10]⟩ : ByteArray) = sub s 0 (rd (st s) n) := by
    apply bys_inj
    rw [bys_append, bys_sub, bys_sub, show bys (⟨#[10]⟩ : ByteArray) = [10] from rfl]
    simp only [Int.toNat_zero, List.drop_zero]
    rw [show (rd (st s) n).toNat = (rd (st s) n - 1).toNat + 1 by omega, List.take_add_one, hp.2.2]
    rfl
  rw [h10]
  exact sub_parts s 0 _ _ (by omega) (by omega) (by omega)
theorem lns_all (s : ByteArray) : lns s ((st s).length : Int) = s := by
  have := st_length s
  unfold lns lend
  rw [if_neg (by omega), if_neg (by omega)]
  apply bys_inj
  rw [bys_sub, Int.toNat_zero, List.drop_zero, Int.toNat_natCast, ← bys_length, List.take_length]
theorem lns_size (s : ByteArray) (n : Int) : (lns s n).size ≤ s.size := by
  unfold lns
  split
  · show 0 ≤ _; omega
  · exact sub_size s _ _
end Go.Proofs.YtcbimnmpdpkefaaTB
