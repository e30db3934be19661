import Derived.Test.YtcbimnmpdpkefaaDoorPureShown
import Derived.Test.YtcbimnmpdpkefaaDoorAx41
namespace Go.Proofs.YtcbimnmpdpkefaaDoor.A
open Go.RowKit Go.Proofs.YtcbimnmpdpkefaaDoorTB Go.Proofs.YtcbimnmpdpkefaaDoorW.PrintWords
set_option linter.unusedVariables false
set_option linter.unusedSimpArgs false
theorem wrap_in {n : Int} (h0 : -9223372036854775808 ≤ n) (h1 : n ≤ 9223372036854775807) : wrap64 n = n := by unfold wrap64; omega
theorem dig_one : ∀ a : Fin 10, ((⟨#[48, 49, 50, 51, 52, 53, 54, 55, 56, 57]⟩ : ByteArray).extract a.val (a.val + 1)).data.toList = [UInt8.ofNat (48 + a.val)] := by decide +kernel
theorem ba_ext {a b : ByteArray} (h : a.data.toList = b.data.toList) : a = b := by
  cases a; cases b
  simp at h
  rw [h]
theorem digits_eq : ∀ (j : Nat) (k : Nat) (n : Int), 0 ≤ n → n < 10 ^ (j + 1) → n ≤ 9223372036854775807 → scholiastref20_digits.f (j + 1 + k) n = some (dp_it n) := by
  intro j
  induction j with
  | zero =>
    intro k n h0 h1 _
    have h1' : n < 10 := by simpa using h1
    rw [show 0 + 1 + k = k + 1 by omega, scholiastref20_digits.f, if_pos h1', if_pos h0, wrap_in (by omega) (by omega), if_pos (by omega), if_pos (by omega)]
    congr 1
    apply ba_ext
    have := dig_one ⟨n.toNat, by omega⟩
    rw [show (n + 1).toNat = n.toNat + 1 by omega, this]
    unfold dp_it Lib.itoa
    rw [if_neg (by omega), Lib.decDigits, dif_pos (by omega)]
  | succ j ih =>
    intro k n h0 h1 h2
    rw [show j + 1 + 1 + k = (j + 1 + k) + 1 by omega, scholiastref20_digits.f]
    by_cases hn : n < 10
    · rw [if_pos hn, if_pos h0, wrap_in (by omega) (by omega), if_pos (by omega), if_pos (by omega)]
      congr 1
      apply ba_ext
      have := dig_one ⟨n.toNat, by omega⟩
      rw [show (n + 1).toNat = n.toNat + 1 by omega, this]
      unfold dp_it Lib.itoa
      rw [if_neg (by omega), Lib.decDigits, dif_pos (by omega)]
    · have e1 : Int.tdiv n 10 = n / 10 := Int.tdiv_eq_ediv_of_nonneg h0
      have e2 : Int.tmod n 10 = n % 10 := Int.tmod_eq_emod_of_nonneg h0
      have h3 : n / 10 < 10 ^ (j + 1) := by
        have : (10 : Int) ^ (j + 1 + 1) = 10 ^ (j + 1) * 10 := Int.pow_succ ..
        omega
      have hd := dig_one ⟨(n % 10).toNat, by omega⟩
      have hi := dp_it_size (n / 10) (by omega) (by omega)
      have hx : ((⟨#[48, 49, 50, 51, 52, 53, 54, 55, 56, 57]⟩ : ByteArray).extract ((n % 10).toNat) ((n % 10 + 1).toNat)).data.toList = [UInt8.ofNat (48 + (n % 10).toNat)] := by
        rw [show (n % 10 + 1).toNat = (n % 10).toNat + 1 by omega]; exact hd
      have hxs : ((⟨#[48, 49, 50, 51, 52, 53, 54, 55, 56, 57]⟩ : ByteArray).extract ((n % 10).toNat) ((n % 10 + 1).toNat)).size = 1 := by
        have := congrArg List.length hx
        simpa [ByteArray.size] using this
      rw [if_neg hn, e1, e2, wrap_in (by omega) (by omega), ih k (n / 10) (by omega) h3 (by omega), Option.bind_some, wrap_in (by omega) (by omega), if_pos (by omega), if_pos (by omega), if_pos (by omega), if_pos (by rw [hxs]; omega)]
      congr 1
      apply ba_ext
      rw [ByteArray.data_append, Array.toList_append, hx]
      unfold dp_it Lib.itoa
      rw [if_neg (by omega), if_neg (by omega), Lib.decDigits.eq_def n.toNat, dif_neg (by omega)]
      simp only []
      rw [show (n / 10).toNat = n.toNat / 10 by omega, show (n % 10).toNat = n.toNat % 10 by omega]
theorem digits_at (k : Nat) (n : Int) (h0 : 0 ≤ n) (h1 : n ≤ 9223372036854775807) : scholiastref20_digits.f (20 + k) n = some (dp_it n) := by
  have := digits_eq 19 k n h0 (by omega) h1
  simpa using this
theorem place_eq (s : ByteArray) (p : Int) (h0 : 0 ≤ p) (h1 : p ≤ (s.size : Int)) (h2 : p ≤ 4611686018427387904) : ∀ (m : Nat) (i l c : Int) (k : Nat), 0 ≤ i → i ≤ p → p - i ≤ m → 1 ≤ l → l ≤ i + 1 → 1 ≤ c → c ≤ i + 1 →
    dp_lc (((bys s).take p.toNat).drop i.toNat) l c = dp_pos s p → scholiastref20_place.l0 (m + 21 + k) s p l c i = some (dp_loc s p) := by
  intro m
  induction m with
  | zero =>
    intro i l c k i0 i1 i2 l0 l1 c0 c1 he
    rw [show 0 + 21 + k = (20 + k) + 1 by omega, scholiastref20_place.l0, if_neg (by omega)]
    rw [List.drop_eq_nil_of_le (by rw [List.length_take]; omega), dp_lc] at he
    have hz1 := dp_it_size l (by omega) (by omega)
    have hz2 := dp_it_size c (by omega) (by omega)
    rw [digits_at k l (by omega) (by omega), Option.bind_some, if_pos (by omega), digits_at k c (by omega) (by omega), Option.bind_some, if_pos (by rw [ByteArray.size_append, show (⟨#[58]⟩ : ByteArray).size = 1 from rfl]; omega)]
    unfold dp_loc
    rw [← he]
  | succ m ih =>
    intro i l c k i0 i1 i2 l0 l1 c0 c1 he
    by_cases hi : i < p
    · rw [show m + 1 + 21 + k = (m + 21 + k) + 1 by omega, scholiastref20_place.l0, if_pos hi, if_pos i0, if_pos (by omega)]
      have hdr : ((bys s).take p.toNat).drop i.toNat = ((bys s)[i.toNat]'(by rw [bys_length]; omega)) :: ((bys s).take p.toNat).drop (i + 1).toNat := by
        rw [List.drop_eq_getElem_cons (by rw [List.length_take, bys_length]; omega), show (i + 1).toNat = i.toNat + 1 by omega]
        simp
      have hbt : bt s i = (((bys s)[i.toNat]'(by rw [bys_length]; omega)).toNat : Int) := by
        obtain ⟨ch, hch, hbt⟩ := bys_bt s i i0 (by omega)
        rw [List.getElem?_eq_getElem (by rw [bys_length]; omega)] at hch
        rw [hbt, Option.some.inj hch]
      rw [hdr, dp_lc, ← hbt] at he
      by_cases hc : bt s i = 10
      · rw [if_pos hc] at he ⊢
        rw [wrap_in (by omega) (by omega), wrap_in (by omega) (by omega)]
        exact ih (i + 1) (l + 1) 1 k (by omega) (by omega) (by omega) (by omega) (by omega) (by omega) (by omega) he
      · rw [if_neg hc] at he ⊢
        rw [wrap_in (by omega) (by omega), wrap_in (by omega) (by omega)]
        exact ih (i + 1) l (c + 1) k (by omega) (by omega) (by omega) (by omega) (by omega) (by omega) (by omega) he
    · rw [show m + 1 + 21 + k = (20 + (m + 1 + k)) + 1 by omega, scholiastref20_place.l0, if_neg hi]
      rw [List.drop_eq_nil_of_le (by rw [List.length_take]; omega), dp_lc] at he
      have hz1 := dp_it_size l (by omega) (by omega)
      have hz2 := dp_it_size c (by omega) (by omega)
      rw [digits_at _ l (by omega) (by omega), Option.bind_some, if_pos (by omega), digits_at _ c (by omega) (by omega), Option.bind_some, if_pos (by rw [ByteArray.size_append, show (⟨#[58]⟩ : ByteArray).size = 1 from rfl]; omega)]
      unfold dp_loc
      rw [← he]
theorem place_at (s : ByteArray) (p : Int) (K : Nat) (h0 : 0 ≤ p) (h1 : p ≤ (s.size : Int)) (h2 : p ≤ 4611686018427387904) (hK : p.toNat + 21 ≤ K) : scholiastref20_place.f K s p = some (dp_loc s p) := by
  unfold scholiastref20_place.f
  have := place_eq s p h0 h1 h2 p.toNat 0 1 1 (K - (p.toNat + 21)) (by omega) h0 (by omega) (by omega) (by omega) (by omega) (by omega) (by simp [dp_pos])
  rwa [show p.toNat + 21 + (K - (p.toNat + 21)) = K by omega] at this
theorem print_eq (s : ByteArray) (c f t : Int) (hs : s.size ≤ 4611686018427387904) : ∃ r, diag_Print.f s c f t = some r ∧ scholiastref20_Print.f (s.size + 23) s c f t = some r := by
  obtain ⟨nm, hn, hz⟩ := name_some c
  unfold diag_Print.f scholiastref20_Print.f
  rw [name_eq, hn]
  simp only [Option.bind_some]
  by_cases c1 : nm.toList = ([] : List UInt8)
  · exact ⟨_, if_pos c1, if_pos c1⟩
  · rw [if_neg c1, if_neg c1]
    by_cases c2 : f < 0
    · rw [if_pos c2, if_pos c2]
      exact ⟨_, rfl, rfl⟩
    · rw [if_neg c2, if_neg c2]
      by_cases c3 : t < f
      · rw [if_pos c3, if_pos c3]
        exact ⟨_, rfl, rfl⟩
      · rw [if_neg c3, if_neg c3]
        by_cases c4 : t > (s.size : Int)
        · rw [if_pos c4, decide_eq_true c4]
          exact ⟨_, rfl, rfl⟩
        · rw [if_neg c4, decide_eq_false c4, if_pos ⟨hz, by omega⟩]
          refine ⟨_, rfl, ?_⟩
          have z1 := dp_loc_size s f (by omega) (by omega) (by omega)
          have z2 := dp_loc_size s t (by omega) (by omega) (by omega)
          have e1 : (⟨#[45]⟩ : ByteArray).size = 1 := rfl
          have e2 : (⟨#[32]⟩ : ByteArray).size = 1 := rfl
          rw [scholiastref20_Print.j0, if_neg (by simp), place_at s f _ (by omega) (by omega) (by omega) (by omega), Option.bind_some, if_pos (by omega), place_at s t _ (by omega) (by omega) (by omega) (by omega), Option.bind_some,
            if_pos (by rw [ByteArray.size_append, e1]; omega), if_pos (by rw [ByteArray.size_append, ByteArray.size_append, e1]; omega), hn, Option.bind_some, if_pos (by rw [ByteArray.size_append, ByteArray.size_append, ByteArray.size_append, e1, e2]; omega)]
theorem diagPrints_pure (s : ByteArray) (c f t : Int) (hs : s.size ≤ 4611686018427387904) : scholiastlaw20_DiagPrints.f (s.size + 23) s c f t = some true := by
  obtain ⟨r, h1, h2⟩ := print_eq s c f t hs
  have hsh := shown_true_le (s.size + 3)
  rw [show 20 + (s.size + 3) = s.size + 23 by omega] at hsh
  unfold scholiastlaw20_DiagPrints.f
  rw [hsh, h1, h2]
  simp
end Go.Proofs.YtcbimnmpdpkefaaDoor.A
