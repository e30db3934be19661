/- Texts in pieces, in plain words: what the pieces make together, and where its lines begin. -/
import Derived.Test.YtcbimnmpdpkefaaDoorWWords
set_option linter.unusedVariables false
set_option linter.unusedSimpArgs false
namespace Go.Proofs.YtcbimnmpdpkefaaDoorTB
open Go.Proofs.YtcbimnmpdpkefaaDoorW.PrintWords

/-- The bytes of a string, as whole numbers would be read: by 'bt'. -/
def bys (s : ByteArray) : List UInt8 := s.data.toList
theorem bys_length (s : ByteArray) : (bys s).length = s.size := by simp [bys]
theorem bys_bt (s : ByteArray) (i : Int) (h0 : 0 ≤ i) (h1 : i < (s.size : Int)) : ∃ c : UInt8, (bys s)[i.toNat]? = some c ∧ bt s i = (c.toNat : Int) := by
  have h : i.toNat < s.size := by omega
  refine ⟨s[i.toNat], ?_, ?_⟩
  · simp only [bys]
    rw [List.getElem?_eq_getElem (by simpa using h)]
    rfl
  · unfold bt
    rw [dif_pos h]
theorem bys_drop (s : ByteArray) (i : Int) (h0 : 0 ≤ i) (h1 : i < (s.size : Int)) : ∃ c : UInt8, (bys s).drop i.toNat = c :: (bys s).drop (i + 1).toNat ∧ bt s i = (c.toNat : Int) := by
  obtain ⟨c, hc, hb⟩ := bys_bt s i h0 h1
  refine ⟨c, ?_, hb⟩
  have hl : i.toNat < (bys s).length := by rw [bys_length]; omega
  rw [List.drop_eq_getElem_cons hl, show (i + 1).toNat = i.toNat + 1 by omega]
  rw [List.getElem?_eq_getElem hl] at hc
  rw [Option.some.inj hc]
/-- What pieces make together. -/
def catL (ps : List ByteArray) : List UInt8 := (ps.map bys).flatten
def cat (ps : List ByteArray) : ByteArray := ⟨(catL ps).toArray⟩
theorem bys_cat (ps : List ByteArray) : bys (cat ps) = catL ps := by simp [bys, cat]
theorem cat_size (ps : List ByteArray) : (cat ps).size = (catL ps).length := by rw [← bys_length, bys_cat]
theorem bys_inj {a b : ByteArray} (h : bys a = bys b) : a = b := by
  cases a; cases b
  simp only [bys, ByteArray.mk.injEq] at *
  exact Array.toList_inj.1 h
theorem catL_cons (p : ByteArray) (ps : List ByteArray) : catL (p :: ps) = bys p ++ catL ps := by simp [catL]
theorem catL_append (ps qs : List ByteArray) : catL (ps ++ qs) = catL ps ++ catL qs := by simp [catL]
theorem catL_nil : catL [] = [] := rfl
theorem cat_one (s : ByteArray) : cat [s] = s := bys_inj (by rw [bys_cat, catL_cons, catL_nil, List.append_nil])
/-- Where lines begin behind place 'at'. -/
def stf : Int → List UInt8 → List Int
  | _, [] => []
  | at_, c :: cs => if (c.toNat : Int) = 10 then (at_ + 1) :: stf (at_ + 1) cs else stf (at_ + 1) cs
def st (s : ByteArray) : List Int := 0 :: stf 0 (bys s)
theorem stf_length (a : Int) (l : List UInt8) : (stf a l).length ≤ l.length := by
  induction l generalizing a with
  | nil => simp [stf]
  | cons c cs ih =>
    unfold stf
    have := ih (a + 1)
    split <;> simp <;> omega
theorem stf_append (a : Int) (l m : List UInt8) : stf a (l ++ m) = stf a l ++ stf (a + l.length) m := by
  induction l generalizing a with
  | nil => simp [stf]
  | cons c cs ih =>
    have e : a + ((c :: cs).length : Int) = a + 1 + (cs.length : Int) := by simp; omega
    rw [e]
    simp only [List.cons_append, stf]
    split <;> rw [ih (a + 1)] <;> simp
theorem stf_mem (a : Int) (l : List UInt8) : ∀ y ∈ stf a l, a < y ∧ y ≤ a + l.length := by
  induction l generalizing a with
  | nil => simp [stf]
  | cons c cs ih =>
    intro y hy
    unfold stf at hy
    have h1 := ih (a + 1)
    simp only [List.length_cons]
    split at hy
    · rcases List.mem_cons.1 hy with rfl | hy
      · omega
      · have := h1 y hy; omega
    · have := h1 y hy; omega
theorem stf_lt (a : Int) (l : List UInt8) : (stf a l).Pairwise (· < ·) := by
  induction l generalizing a with
  | nil => simp [stf]
  | cons c cs ih =>
    unfold stf
    split
    · exact List.pairwise_cons.2 ⟨fun y hy => (stf_mem (a + 1) cs y hy).1, ih (a + 1)⟩
    · exact ih (a + 1)
theorem st_lt (s : ByteArray) : (st s).Pairwise (· < ·) := List.pairwise_cons.2 ⟨fun y hy => (stf_mem 0 _ y hy).1, stf_lt 0 _⟩
theorem st_mem (s : ByteArray) : ∀ y ∈ st s, 0 ≤ y ∧ y ≤ s.size := by
  intro y hy
  rcases List.mem_cons.1 hy with rfl | hy
  · omega
  · have := stf_mem 0 _ y hy; rw [bys_length] at this; omega
theorem st_length (s : ByteArray) : 1 ≤ (st s).length ∧ (st s).length ≤ s.size + 1 := by
  have := stf_length 0 (bys s)
  rw [bys_length] at this
  simp [st]; omega
/-- The line that a place is on. -/
def lineOf (s : ByteArray) (p : Int) : Int := ((st s).countP (fun y => !decide (p + 1 ≤ y)) : Nat) - 1
theorem lineOf_range (s : ByteArray) (p : Int) (h0 : 0 ≤ p) : 0 ≤ lineOf s p ∧ lineOf s p < (st s).length := by
  unfold lineOf
  have h1 : (st s).countP (fun y => !decide (p + 1 ≤ y)) ≤ (st s).length := List.countP_le_length
  have h2 : 0 < (st s).countP (fun y => !decide (p + 1 ≤ y)) := List.countP_pos_iff.2 ⟨0, List.mem_cons_self, by simp; omega⟩
  omega
end Go.Proofs.YtcbimnmpdpkefaaDoorTB
