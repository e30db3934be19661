/- Printed by a changed copy of the kit's print.py for all laws of the seat at once (one namespace): functions and their contracts; some parts by hand. -/
import Derived.Test.YtcbimnmpdpkefaaDoorAx0
import Derived.Test.YtcbimnmpdpkefaaDoorAx6
import Derived.Test.YtcbimnmpdpkefaaDoorAx7
import Derived.Test.YtcbimnmpdpkefaaDoorAx8
namespace Go.Proofs.YtcbimnmpdpkefaaDoor.A
open Go.RowKit Go.Proofs.YtcbimnmpdpkefaaDoorW.PrintWords Go.Proofs.YtcbimnmpdpkefaaDoorW.PrintLast Go.Proofs.YtcbimnmpdpkefaaDoorW.PrintMore
attribute [local go_sem] max2_int min2_int max_two min_two max_three min_three max_four min_four   -- for this text's walks alone
set_option linter.unusedVariables false
set_option linter.unusedSimpArgs false

/-! ### text_Check: function 13 (by hand) -/
theorem tc_bt_lt (s : ByteArray) (i : Nat) (h : i < s.size) : bt s (i : Int) = ((s[i]'h).toNat : Int) := by
  unfold bt; simp [h]
theorem tc_bt_get (s : ByteArray) (i : Nat) (h : i < s.size) : bt s (i : Int) = ((s.get! i).toNat : Int) := by
  rw [tc_bt_lt s i h, Utf8W.get!_of_lt s i h]
theorem tc_more_eq (s : ByteArray) (j lo hi : Int) (h0 : 0 ≤ j) : scholiastref01_more.f s j lo hi = some (decide (j < (s.size : Int) ∧ lo ≤ bt s j ∧ bt s j ≤ hi)) := by
  unfold scholiastref01_more.f
  by_cases h1 : j < (s.size : Int)
  · rw [if_pos h1, if_pos h0]
    by_cases h2 : bt s j ≥ lo
    · rw [if_pos h2]; simp [h1, h2]
    · rw [if_neg h2]; simp; intro _ h; omega
  · rw [if_neg h1]; simp; intro h; omega

/-- How wide a character is, by numbers: n bytes are left, b0 .. b3 are the first four. -/
def tc_wid (n b0 b1 b2 b3 : Int) : Int :=
  if b0 < 128 then 1
  else if b0 < 194 ∨ b0 > 244 then 0
  else if b0 < 224 then (if 1 < n ∧ 128 ≤ b1 ∧ b1 ≤ 191 then 2 else 0)
  else if ¬ ((1 < n ∧ (if b0 = 224 then 160 else if b0 = 240 then 144 else 128) ≤ b1 ∧ b1 ≤ (if b0 = 237 then 159 else if b0 = 244 then 143 else 191)) ∧ (2 < n ∧ 128 ≤ b2 ∧ b2 ≤ 191)) then 0
  else if b0 < 240 then 3
  else if 3 < n ∧ 128 ≤ b3 ∧ b3 ≤ 191 then 4 else 0

theorem tc_wrap_in {i m : Int} (h0 : 0 ≤ i) (h1 : i ≤ 1152921504606846976) (hm0 : 0 ≤ m) (hm : m ≤ 1000) : wrap64 (i + m) = i + m := by
  unfold wrap64; omega

theorem tc_j2_eq (k : Nat) (s : ByteArray) (i b0 : Int) (b : Bool) (hi0 : 0 ≤ i) (hi1 : i ≤ 1152921504606846976) :
    scholiastref01_Width.j2 (k + 1) s i b0 b = some (if b = true then 0 else if b0 < 240 then 3 else if 3 < (s.size : Int) - i ∧ 128 ≤ bt s (i + 3) ∧ bt s (i + 3) ≤ 191 then 4 else 0) := by
  simp only [scholiastref01_Width.j2]
  cases b
  · simp only [Bool.false_eq_true, if_false]
    by_cases h : b0 < 240
    · simp [h]
    · rw [if_neg h, if_neg h, tc_wrap_in hi0 hi1 (by omega) (by omega), tc_more_eq _ _ _ _ (by omega)]
      simp only [Option.bind_some]
      have e : (i + 3 < (s.size : Int)) ↔ (3 < (s.size : Int) - i) := by omega
      simp only [decide_eq_true_eq, e]
      split <;> rfl
  · simp
theorem tc_j1_eq (k : Nat) (s : ByteArray) (i b0 lo hi : Int) (hi0 : 0 ≤ i) (hi1 : i ≤ 1152921504606846976) :
    scholiastref01_Width.j1 (k + 2) s i b0 lo hi = some (if ¬ ((1 < (s.size : Int) - i ∧ lo ≤ bt s (i + 1) ∧ bt s (i + 1) ≤ hi) ∧ (2 < (s.size : Int) - i ∧ 128 ≤ bt s (i + 2) ∧ bt s (i + 2) ≤ 191)) then 0 else if b0 < 240 then 3 else if 3 < (s.size : Int) - i ∧ 128 ≤ bt s (i + 3) ∧ bt s (i + 3) ≤ 191 then 4 else 0) := by
  rw [scholiastref01_Width.j1, tc_wrap_in hi0 hi1 (by omega) (by omega), tc_more_eq _ _ _ _ (by omega)]
  simp only [Option.bind_some]
  have e1 : (i + 1 < (s.size : Int)) ↔ (1 < (s.size : Int) - i) := by omega
  have e2 : (i + 2 < (s.size : Int)) ↔ (2 < (s.size : Int) - i) := by omega
  simp only [decide_eq_true_eq, e1]
  by_cases h1 : 1 < (s.size : Int) - i ∧ lo ≤ bt s (i + 1) ∧ bt s (i + 1) ≤ hi
  · rw [if_pos h1, tc_wrap_in hi0 hi1 (by omega) (by omega), tc_more_eq _ _ _ _ (by omega)]
    simp only [Option.bind_some, e2]
    rw [tc_j2_eq _ _ _ _ _ hi0 hi1]
    by_cases h2 : 2 < (s.size : Int) - i ∧ 128 ≤ bt s (i + 2) ∧ bt s (i + 2) ≤ 191
    · simp [h1, h2]
    · simp [h1, h2]
  · rw [if_neg h1, tc_j2_eq _ _ _ _ _ hi0 hi1]
    simp [h1]
theorem tc_width_eq (k : Nat) (s : ByteArray) (i : Int) (hi0 : 0 ≤ i) (hi : i < (s.size : Int)) (hs : (s.size : Int) ≤ 1152921504606846976) :
    scholiastref01_Width.f (k + 3) s i = some (tc_wid ((s.size : Int) - i) (bt s i) (bt s (i + 1)) (bt s (i + 2)) (bt s (i + 3))) := by
  have hi1 : i ≤ 1152921504606846976 := by omega
  unfold scholiastref01_Width.f tc_wid
  rw [if_pos hi0, if_pos hi]
  by_cases c1 : bt s i < 128
  · rw [if_pos c1, if_pos c1]
  rw [if_neg c1, if_neg c1]
  by_cases c2 : bt s i < 194
  · rw [if_pos c2, if_pos (.inl c2)]
    simp [scholiastref01_Width.j0]
  rw [if_neg c2]
  by_cases c3 : bt s i > 244
  · rw [if_pos (.inr c3)]
    simp [scholiastref01_Width.j0, c3]
  rw [if_neg (by omega)]
  simp only [scholiastref01_Width.j0, decide_eq_true_eq, if_neg c3]
  by_cases c4 : bt s i < 224
  · rw [if_pos c4, if_pos c4, tc_wrap_in hi0 hi1 (by omega) (by omega), tc_more_eq _ _ _ _ (by omega)]
    simp only [Option.bind_some, decide_eq_true_eq]
    have e1 : (i + 1 < (s.size : Int)) ↔ (1 < (s.size : Int) - i) := by omega
    simp only [e1]
    split <;> rfl
  rw [if_neg c4, if_neg c4]
  by_cases c5 : bt s i = 224
  · rw [if_pos c5, tc_j1_eq _ _ _ _ _ _ hi0 hi1]; simp [c5]
  rw [if_neg c5]
  by_cases c6 : bt s i = 237
  · rw [if_pos c6, tc_j1_eq _ _ _ _ _ _ hi0 hi1]; simp [c6]
  rw [if_neg c6]
  by_cases c7 : bt s i = 240
  · rw [if_pos c7, tc_j1_eq _ _ _ _ _ _ hi0 hi1]; simp [c7]
  rw [if_neg c7]
  by_cases c8 : bt s i = 244
  · rw [if_pos c8, tc_j1_eq _ _ _ _ _ _ hi0 hi1]; simp [c8]
  rw [if_neg c8, tc_j1_eq _ _ _ _ _ _ hi0 hi1]; simp [c5, c6, c7, c8]

/-- What is left of a text from a place on: its bytes. -/
theorem tc_rest_get (s : ByteArray) (i k : Nat) (h : i + k < s.size) : ((s.extract i s.size).get! k).toNat = (bt s ((i : Int) + k)).toNat := by
  have hk : k < (s.extract i s.size).size := by rw [ByteArray.size_extract]; omega
  rw [Utf8W.get!_of_lt _ _ hk, ByteArray.getElem_extract]
  rw [show (i : Int) + k = ((i + k : Nat) : Int) by omega, tc_bt_lt s (i + k) h]
  simp

/-- The decoder, by numbers: n bytes, a0 .. a3 the first four. -/
def tc_decN (n a0 a1 a2 a3 : Nat) : Nat × Nat :=
  if a0 < 0x80 then (a0, 1)
  else if a0 / 32 == 6 && (decide (1 < n) && a1 / 64 == 2) then
    (if (a0 % 32) * 64 + a1 % 64 ≥ 0x80 then ((a0 % 32) * 64 + a1 % 64, 2) else (65533, 1))
  else if a0 / 16 == 14 && (decide (1 < n) && a1 / 64 == 2) && (decide (2 < n) && a2 / 64 == 2) then
    (if (a0 % 16) * 4096 + (a1 % 64) * 64 + a2 % 64 ≥ 0x800 && Utf8.valid (((a0 % 16) * 4096 + (a1 % 64) * 64 + a2 % 64 : Nat) : Int) then ((a0 % 16) * 4096 + (a1 % 64) * 64 + a2 % 64, 3) else (65533, 1))
  else if a0 / 8 == 30 && (decide (1 < n) && a1 / 64 == 2) && (decide (2 < n) && a2 / 64 == 2) && (decide (3 < n) && a3 / 64 == 2) then
    (if (a0 % 8) * 262144 + (a1 % 64) * 4096 + (a2 % 64) * 64 + a3 % 64 ≥ 0x10000 && Utf8.valid (((a0 % 8) * 262144 + (a1 % 64) * 4096 + (a2 % 64) * 64 + a3 % 64 : Nat) : Int) then ((a0 % 8) * 262144 + (a1 % 64) * 4096 + (a2 % 64) * 64 + a3 % 64, 4) else (65533, 1))
  else (65533, 1)
theorem tc_decode_eq (e : ByteArray) : Utf8.decode e 0 = tc_decN e.size (e.get! 0).toNat (e.get! 1).toNat (e.get! 2).toNat (e.get! 3).toNat := by
  unfold Utf8.decode tc_decN
  rfl
theorem tc_valid_iff (c : Nat) : Utf8.valid (c : Int) = decide (c < 55296 ∨ 57344 ≤ c ∧ c ≤ 1114111) := by
  unfold Utf8.valid
  rw [Bool.eq_iff_iff]
  simp only [Bool.or_eq_true, Bool.and_eq_true, decide_eq_true_eq]
  omega
/-- What a width and a decoder's answer have to do with each other. -/
def tc_Fits (n a0 : Nat) (w : Int) (d : Nat × Nat) : Prop :=
  (w = 0 ∧ d = (65533, 1)) ∨ (w = (d.2 : Int) ∧ 1 ≤ d.2 ∧ d.2 ≤ 4 ∧ d.2 ≤ n ∧ ¬ (d.1 = 65533 ∧ d.2 = 1) ∧ (d.1 = 0 ↔ a0 = 0) ∧ (a0 = 0 → d.2 = 1) ∧ (a0 = 239 → d.2 = 3))
theorem tc_fits_no {n a0 : Nat} : tc_Fits n a0 0 (65533, 1) := .inl ⟨rfl, rfl⟩
theorem tc_fits_yes {n a0 c t : Nat} (h1 : 1 ≤ t) (h2 : t ≤ 4) (h3 : t ≤ n) (h4 : ¬ (c = 65533 ∧ t = 1)) (h5 : c = 0 ↔ a0 = 0) (h6 : a0 = 0 → t = 1) (h7 : a0 = 239 → t = 3) : tc_Fits n a0 (t : Int) (c, t) := .inr ⟨rfl, h1, h2, h3, h4, h5, h6, h7⟩
theorem tc_w1 (n a0 a1 a2 a3 : Int) (h : a0 < 128) : tc_wid n a0 a1 a2 a3 = 1 := by unfold tc_wid; rw [if_pos h]
theorem tc_w0 (n a0 a1 a2 a3 : Int) (h0 : 128 ≤ a0) (h : a0 < 194 ∨ a0 > 244) : tc_wid n a0 a1 a2 a3 = 0 := by unfold tc_wid; rw [if_neg (by omega), if_pos h]
theorem tc_w2 (n a0 a1 a2 a3 : Int) (h0 : 194 ≤ a0) (h : a0 < 224) : tc_wid n a0 a1 a2 a3 = if 1 < n ∧ 128 ≤ a1 ∧ a1 ≤ 191 then 2 else 0 := by unfold tc_wid; rw [if_neg (by omega), if_neg (by omega), if_pos h]
theorem tc_w3 (n a0 a1 a2 a3 : Int) (h0 : 224 ≤ a0) (h : a0 < 240) : tc_wid n a0 a1 a2 a3 = if (1 < n ∧ 128 ≤ a1 ∧ a1 ≤ 191 ∧ (a0 = 224 → 160 ≤ a1) ∧ (a0 = 237 → a1 ≤ 159)) ∧ (2 < n ∧ 128 ≤ a2 ∧ a2 ≤ 191) then 3 else 0 := by
  unfold tc_wid
  rw [if_neg (show ¬ a0 < 128 by omega), if_neg (show ¬ (a0 < 194 ∨ a0 > 244) by omega), if_neg (show ¬ a0 < 224 by omega), if_pos h, if_neg (show ¬ a0 = 240 by omega), if_neg (show ¬ a0 = 244 by omega)]
  by_cases k : (1 < n ∧ 128 ≤ a1 ∧ a1 ≤ 191 ∧ (a0 = 224 → 160 ≤ a1) ∧ (a0 = 237 → a1 ≤ 159)) ∧ (2 < n ∧ 128 ≤ a2 ∧ a2 ≤ 191)
  · obtain ⟨⟨k1, k2, k3, k4, k5⟩, k6⟩ := k
    rw [if_pos (⟨⟨k1, k2, k3, k4, k5⟩, k6⟩ : (1 < n ∧ 128 ≤ a1 ∧ a1 ≤ 191 ∧ (a0 = 224 → 160 ≤ a1) ∧ (a0 = 237 → a1 ≤ 159)) ∧ (2 < n ∧ 128 ≤ a2 ∧ a2 ≤ 191)), if_neg]
    intro hh; apply hh; refine ⟨⟨k1, ?_, ?_⟩, k6⟩ <;> split <;> omega
  · rw [if_neg k, if_pos]
    intro hh; apply k; obtain ⟨⟨k1, k2, k3⟩, k6⟩ := hh
    refine ⟨⟨k1, ?_, ?_, ?_, ?_⟩, k6⟩
    · split at k2 <;> omega
    · split at k3 <;> omega
    · intro e; rw [if_pos e] at k2; exact k2
    · intro e; rw [if_pos e] at k3; exact k3
theorem tc_w4 (n a0 a1 a2 a3 : Int) (h0 : 240 ≤ a0) (h : a0 ≤ 244) : tc_wid n a0 a1 a2 a3 = if (1 < n ∧ 128 ≤ a1 ∧ a1 ≤ 191 ∧ (a0 = 240 → 144 ≤ a1) ∧ (a0 = 244 → a1 ≤ 143)) ∧ (2 < n ∧ 128 ≤ a2 ∧ a2 ≤ 191) ∧ (3 < n ∧ 128 ≤ a3 ∧ a3 ≤ 191) then 4 else 0 := by
  unfold tc_wid
  rw [if_neg (show ¬ a0 < 128 by omega), if_neg (show ¬ (a0 < 194 ∨ a0 > 244) by omega), if_neg (show ¬ a0 < 224 by omega), if_neg (show ¬ a0 < 240 by omega), if_neg (show ¬ a0 = 224 by omega), if_neg (show ¬ a0 = 237 by omega)]
  by_cases k : (1 < n ∧ 128 ≤ a1 ∧ a1 ≤ 191 ∧ (a0 = 240 → 144 ≤ a1) ∧ (a0 = 244 → a1 ≤ 143)) ∧ (2 < n ∧ 128 ≤ a2 ∧ a2 ≤ 191)
  · obtain ⟨⟨k1, k2, k3, k4, k5⟩, k6⟩ := k
    rw [if_neg]
    · by_cases k7 : 3 < n ∧ 128 ≤ a3 ∧ a3 ≤ 191
      · rw [if_pos k7, if_pos ⟨⟨k1, k2, k3, k4, k5⟩, k6, k7⟩]
      · rw [if_neg k7, if_neg (fun h => k7 h.2.2)]
    · intro hh; apply hh; refine ⟨⟨k1, ?_, ?_⟩, k6⟩ <;> split <;> omega
  · rw [if_pos, if_neg (fun h => k ⟨h.1, h.2.1⟩)]
    intro hh; apply k; obtain ⟨⟨k1, k2, k3⟩, k6⟩ := hh
    refine ⟨⟨k1, ?_, ?_, ?_, ?_⟩, k6⟩
    · split at k2 <;> omega
    · split at k3 <;> omega
    · intro e; rw [if_pos e] at k2; exact k2
    · intro e; rw [if_pos e] at k3; exact k3
theorem tc_d1 (n a0 a1 a2 a3 : Nat) (h : a0 < 128) : tc_decN n a0 a1 a2 a3 = (a0, 1) := by unfold tc_decN; rw [if_pos h]
theorem tc_d2 (n a0 a1 a2 a3 : Nat) (h0 : 192 ≤ a0) (h : a0 < 224) (k : 1 < n ∧ 128 ≤ a1 ∧ a1 ≤ 191) : tc_decN n a0 a1 a2 a3 = if (a0 % 32) * 64 + a1 % 64 ≥ 0x80 then ((a0 % 32) * 64 + a1 % 64, 2) else (65533, 1) := by
  unfold tc_decN; rw [if_neg (by omega), if_pos (by simp only [Bool.and_eq_true, beq_iff_eq, decide_eq_true_eq]; omega)]
theorem tc_d3 (n a0 a1 a2 a3 : Nat) (h0 : 224 ≤ a0) (h : a0 < 240) (k : (1 < n ∧ 128 ≤ a1 ∧ a1 ≤ 191) ∧ (2 < n ∧ 128 ≤ a2 ∧ a2 ≤ 191)) : tc_decN n a0 a1 a2 a3 = if (a0 % 16) * 4096 + (a1 % 64) * 64 + a2 % 64 ≥ 0x800 ∧ ((a0 % 16) * 4096 + (a1 % 64) * 64 + a2 % 64 < 55296 ∨ 57344 ≤ (a0 % 16) * 4096 + (a1 % 64) * 64 + a2 % 64 ∧ (a0 % 16) * 4096 + (a1 % 64) * 64 + a2 % 64 ≤ 1114111) then ((a0 % 16) * 4096 + (a1 % 64) * 64 + a2 % 64, 3) else (65533, 1) := by
  unfold tc_decN; rw [if_neg (by omega), if_neg (by simp only [Bool.and_eq_true, beq_iff_eq, decide_eq_true_eq]; omega), if_pos (by simp only [Bool.and_eq_true, beq_iff_eq, decide_eq_true_eq]; omega), tc_valid_iff]
  simp only [Bool.and_eq_true, decide_eq_true_eq]
theorem tc_d4 (n a0 a1 a2 a3 : Nat) (h0 : 240 ≤ a0) (h : a0 < 248) (k : (1 < n ∧ 128 ≤ a1 ∧ a1 ≤ 191) ∧ (2 < n ∧ 128 ≤ a2 ∧ a2 ≤ 191) ∧ (3 < n ∧ 128 ≤ a3 ∧ a3 ≤ 191)) : tc_decN n a0 a1 a2 a3 = if (a0 % 8) * 262144 + (a1 % 64) * 4096 + (a2 % 64) * 64 + a3 % 64 ≥ 0x10000 ∧ ((a0 % 8) * 262144 + (a1 % 64) * 4096 + (a2 % 64) * 64 + a3 % 64 < 55296 ∨ 57344 ≤ (a0 % 8) * 262144 + (a1 % 64) * 4096 + (a2 % 64) * 64 + a3 % 64 ∧ (a0 % 8) * 262144 + (a1 % 64) * 4096 + (a2 % 64) * 64 + a3 % 64 ≤ 1114111) then ((a0 % 8) * 262144 + (a1 % 64) * 4096 + (a2 % 64) * 64 + a3 % 64, 4) else (65533, 1) := by
  unfold tc_decN; rw [if_neg (by omega), if_neg (by simp only [Bool.and_eq_true, beq_iff_eq, decide_eq_true_eq]; omega), if_neg (by simp only [Bool.and_eq_true, beq_iff_eq, decide_eq_true_eq]; omega), if_pos (by simp only [Bool.and_eq_true, beq_iff_eq, decide_eq_true_eq]; omega), tc_valid_iff]
  simp only [Bool.and_eq_true, decide_eq_true_eq]
theorem tc_d0 (n a0 a1 a2 a3 : Nat) (h0 : 128 ≤ a0) (k2 : ¬ (192 ≤ a0 ∧ a0 < 224 ∧ 1 < n ∧ 128 ≤ a1 ∧ a1 ≤ 191)) (k3 : ¬ (224 ≤ a0 ∧ a0 < 240 ∧ (1 < n ∧ 128 ≤ a1 ∧ a1 ≤ 191) ∧ (2 < n ∧ 128 ≤ a2 ∧ a2 ≤ 191))) (k4 : ¬ (240 ≤ a0 ∧ a0 < 248 ∧ (1 < n ∧ 128 ≤ a1 ∧ a1 ≤ 191) ∧ (2 < n ∧ 128 ≤ a2 ∧ a2 ≤ 191) ∧ (3 < n ∧ 128 ≤ a3 ∧ a3 ≤ 191))) : tc_decN n a0 a1 a2 a3 = (65533, 1) := by
  unfold tc_decN; rw [if_neg (by omega), if_neg (by simp only [Bool.and_eq_true, beq_iff_eq, decide_eq_true_eq]; omega), if_neg (by simp only [Bool.and_eq_true, beq_iff_eq, decide_eq_true_eq]; omega), if_neg (by simp only [Bool.and_eq_true, beq_iff_eq, decide_eq_true_eq]; omega)]
theorem tc_dec_fits (n a0 a1 a2 a3 : Nat) (hn : 1 ≤ n) (h0 : a0 ≤ 255) (h1 : a1 ≤ 255) (h2 : a2 ≤ 255) (h3 : a3 ≤ 255) : tc_Fits n a0 (tc_wid n a0 a1 a2 a3) (tc_decN n a0 a1 a2 a3) := by
  by_cases c0 : a0 < 128
  · rw [tc_w1 _ _ _ _ _ (by omega), tc_d1 _ _ _ _ _ c0]
    exact tc_fits_yes (t := 1) (by omega) (by omega) (by omega) (by omega) (by omega) (by omega) (by omega)
  by_cases c1 : a0 < 194 ∨ a0 > 244
  · rw [tc_w0 _ _ _ _ _ (by omega) (by omega)]
    by_cases k2 : 192 ≤ a0 ∧ a0 < 224 ∧ 1 < n ∧ 128 ≤ a1 ∧ a1 ≤ 191
    · rw [tc_d2 _ _ _ _ _ k2.1 k2.2.1 k2.2.2, if_neg (by omega)]; exact tc_fits_no
    by_cases k4 : 240 ≤ a0 ∧ a0 < 248 ∧ (1 < n ∧ 128 ≤ a1 ∧ a1 ≤ 191) ∧ (2 < n ∧ 128 ≤ a2 ∧ a2 ≤ 191) ∧ (3 < n ∧ 128 ≤ a3 ∧ a3 ≤ 191)
    · rw [tc_d4 _ _ _ _ _ k4.1 k4.2.1 k4.2.2, if_neg (by omega)]; exact tc_fits_no
    rw [tc_d0 _ _ _ _ _ (by omega) k2 (by omega) k4]; exact tc_fits_no
  by_cases c2 : a0 < 224
  · rw [tc_w2 _ _ _ _ _ (by omega) (by omega)]
    by_cases k : 1 < n ∧ 128 ≤ a1 ∧ a1 ≤ 191
    · rw [if_pos (by omega), tc_d2 _ _ _ _ _ (by omega) c2 k, if_pos (by omega)]
      exact tc_fits_yes (t := 2) (by omega) (by omega) (by omega) (by omega) (by omega) (by omega) (by omega)
    · rw [if_neg (by omega), tc_d0 _ _ _ _ _ (by omega) (by omega) (by omega) (by omega)]; exact tc_fits_no
  by_cases c3 : a0 < 240
  · rw [tc_w3 _ _ _ _ _ (by omega) (by omega)]
    by_cases k : (1 < n ∧ 128 ≤ a1 ∧ a1 ≤ 191) ∧ (2 < n ∧ 128 ≤ a2 ∧ a2 ≤ 191)
    · rw [tc_d3 _ _ _ _ _ (by omega) c3 k]
      by_cases e : (a0 = 224 → 160 ≤ a1) ∧ (a0 = 237 → a1 ≤ 159)
      · rw [if_pos (by omega), if_pos (by omega)]
        exact tc_fits_yes (t := 3) (by omega) (by omega) (by omega) (by omega) (by omega) (by omega) (by omega)
      · rw [if_neg (by omega), if_neg (by omega)]; exact tc_fits_no
    · rw [if_neg (by omega), tc_d0 _ _ _ _ _ (by omega) (by omega) (by omega) (by omega)]; exact tc_fits_no
  rw [tc_w4 _ _ _ _ _ (by omega) (by omega)]
  by_cases k : (1 < n ∧ 128 ≤ a1 ∧ a1 ≤ 191) ∧ (2 < n ∧ 128 ≤ a2 ∧ a2 ≤ 191) ∧ (3 < n ∧ 128 ≤ a3 ∧ a3 ≤ 191)
  · rw [tc_d4 _ _ _ _ _ (by omega) (by omega) k]
    by_cases e : (a0 = 240 → 144 ≤ a1) ∧ (a0 = 244 → a1 ≤ 143)
    · rw [if_pos (by omega), if_pos (by omega)]
      exact tc_fits_yes (t := 4) (by omega) (by omega) (by omega) (by omega) (by omega) (by omega) (by omega)
    · rw [if_neg (by omega), if_neg (by omega)]; exact tc_fits_no
  · rw [if_neg (by omega), tc_d0 _ _ _ _ _ (by omega) (by omega) (by omega) (by omega)]; exact tc_fits_no
theorem tc_wid_far (n b0 b1 b2 b3 c1 c2 c3 : Int) (h1 : 1 < n → b1 = c1) (h2 : 2 < n → b2 = c2) (h3 : 3 < n → b3 = c3) : tc_wid n b0 b1 b2 b3 = tc_wid n b0 c1 c2 c3 := by
  unfold tc_wid
  by_cases k1 : 1 < n
  · obtain rfl := h1 k1
    by_cases k2 : 2 < n
    · obtain rfl := h2 k2
      by_cases k3 : 3 < n
      · obtain rfl := h3 k3; rfl
      · simp [k3]
    · simp [k2]
  · simp [k1]
/-- The decoder at a place against the width there. -/
theorem tc_decode_fits (s : ByteArray) (i : Nat) (h : i < s.size) :
    tc_Fits (s.size - i) (bt s i).toNat (tc_wid ((s.size : Int) - i) (bt s i) (bt s ((i : Int) + 1)) (bt s ((i : Int) + 2)) (bt s ((i : Int) + 3))) (Lib.decodeGo (s.extract i s.size)) := by
  have hsz : (s.extract i s.size).size = s.size - i := by rw [ByteArray.size_extract]; omega
  have r0 := tc_rest_get s i 0 (by omega)
  have q0 := bt_range s i
  unfold Lib.decodeGo
  rw [if_neg (by omega), tc_decode_eq, hsz]
  rw [tc_wid_far (c1 := (((s.extract i s.size).get! 1).toNat : Int)) (c2 := (((s.extract i s.size).get! 2).toNat : Int)) (c3 := (((s.extract i s.size).get! 3).toNat : Int))]
  · rw [show (bt s i) = (((s.extract i s.size).get! 0).toNat : Int) by rw [r0]; simp only [Int.add_zero, show ((0 : Nat) : Int) = 0 from rfl]; omega]
    rw [Int.toNat_natCast, show (s.size : Int) - i = ((s.size - i : Nat) : Int) by omega]
    exact tc_dec_fits _ _ _ _ _ (by omega) (by have := ((s.extract i s.size).get! 0).toNat_lt; omega) (by have := ((s.extract i s.size).get! 1).toNat_lt; omega) (by have := ((s.extract i s.size).get! 2).toNat_lt; omega) (by have := ((s.extract i s.size).get! 3).toNat_lt; omega)
  · intro k; rw [tc_rest_get s i 1 (by omega)]; have := bt_range s ((i : Int) + 1); simp only [show ((1 : Nat) : Int) = 1 from rfl]; omega
  · intro k; rw [tc_rest_get s i 2 (by omega)]; have := bt_range s ((i : Int) + 2); simp only [show ((2 : Nat) : Int) = 2 from rfl]; omega
  · intro k; rw [tc_rest_get s i 3 (by omega)]; have := bt_range s ((i : Int) + 3); simp only [show ((3 : Nat) : Int) = 3 from rfl]; omega
def text_Check.f (k : Nat) (a0 : ByteArray) : Option (List (S36)) := if (a0.size : Int) ≤ 1073741824 then scholiastref01_Check.f k a0 else none
theorem text_Check.mono : ∀ a0 k, LeO (text_Check.f k a0) (text_Check.f (k + 1) a0) := by
  intro a0 k
  unfold text_Check.f
  exact LeO.ite (scholiastref01_Check.mono _ _) (LeO.none _)
/-- What the walk needs to know at a place: the decoder's two answers R, K against the width t. -/
theorem tc_at_place {k : Nat} {s : ByteArray} {i t : Int} (h0 : 0 ≤ i) (h1 : i < (s.size : Int)) (hs : (s.size : Int) ≤ 1073741824) (h : scholiastref01_Width.f k s i = some t) :
    ∃ R K : Int, ((Lib.decodeGo (s.extract i.toNat s.size)).1 : Int) = R ∧ ((Lib.decodeGo (s.extract i.toNat s.size)).2 : Int) = K ∧
      ((t = 0 ∧ R = 65533 ∧ K = 1) ∨ (t = K ∧ 1 ≤ K ∧ i + K ≤ s.size ∧ ¬ (R = 65533 ∧ K = 1) ∧ (R = 0 ↔ bt s i = 0) ∧ (bt s i = 0 → K = 1) ∧ (bt s i = 239 → K = 3))) := by
  refine ⟨_, _, rfl, rfl, ?_⟩
  obtain ⟨n, rfl⟩ := Int.eq_ofNat_of_zero_le h0
  have hw := tc_width_eq k s n h0 h1 (by omega)
  have e := at_rounds (g := fun k => scholiastref01_Width.f k s n) (fun k => scholiastref01_Width.mono s n k) (show k ≤ k + 3 by omega) h
  have e2 : t = tc_wid ((s.size : Int) - n) (bt s n) (bt s ((n : Int) + 1)) (bt s ((n : Int) + 2)) (bt s ((n : Int) + 3)) := Option.some.inj (e.symm.trans hw)
  have hf := tc_decode_fits s n (by omega)
  rw [← e2] at hf
  have q0 := bt_range s n
  rw [Int.toNat_natCast]
  rcases hf with ⟨a, b⟩ | ⟨a, b1, b2, b3, b4, b5, b6, b7⟩
  · exact .inl ⟨a, by rw [b]; rfl, by rw [b]; rfl⟩
  · exact .inr ⟨a, by omega, by omega, by omega, by omega, by omega, by omega⟩
/-- The byte order mark ahead: of what is left, by its first bytes. -/
theorem tc_prefix_iff (l : List UInt8) : Lib.hasPrefix l [239, 187, 191] = true ↔ l.take 3 = [239, 187, 191] := by
  unfold Lib.hasPrefix
  match l with
  | [] => simp
  | [a] => simp
  | [a, b] => simp
  | a :: b :: c :: r =>
    simp only [List.isPrefixOf, Bool.and_eq_true, beq_iff_eq, Bool.and_true, List.take, List.cons.injEq, and_true]
    constructor
    · rintro ⟨rfl, rfl, rfl⟩; exact ⟨rfl, rfl, rfl⟩
    · rintro ⟨rfl, rfl, rfl⟩; exact ⟨rfl, rfl, rfl⟩
theorem tc_bytes_extract (s : ByteArray) (i j : Nat) : (s.extract i j).toList = (s.data.toList.drop i).take (j - i) := by
  rw [Lib.toList_data, Lib.extract_data]
theorem tc_rest_data (s : ByteArray) (i : Nat) : (s.extract i s.size).data.toList = s.data.toList.drop i := by
  rw [Lib.extract_data, List.take_of_length_le]
  rw [List.length_drop, Array.length_toList]; exact Nat.le_refl _
theorem tc_mark_yes (s : ByteArray) (i : Nat) (K : Int) (hi : i < s.size) (h3 : bt s i = 239 → K = 3) (h : Lib.hasPrefix (s.extract i s.size).data.toList [239, 187, 191] = true) :
    K = 3 ∧ (s.extract i (i + 3)).toList = [239, 187, 191] := by
  rw [tc_prefix_iff, tc_rest_data] at h
  refine ⟨h3 ?_, ?_⟩
  · rw [tc_bt_lt s i hi]
    have h0 := congrArg (fun l : List UInt8 => l[0]?) h
    simp only [List.getElem?_take, List.getElem?_drop, Nat.add_zero] at h0
    rw [if_pos (by omega)] at h0
    have e : s.data.toList[i]? = some s[i] := by
      rw [List.getElem?_eq_getElem (by simpa using hi)]; rfl
    rw [e] at h0
    simp only [List.getElem?_cons_zero, Option.some.injEq] at h0
    rw [h0]; rfl
  · rw [tc_bytes_extract, show i + 3 - i = 3 by omega]; exact h
theorem tc_mark_no (s : ByteArray) (i j : Nat) (h : Lib.hasPrefix (s.extract i s.size).data.toList [239, 187, 191] = false) :
    ¬ (s.extract i j).toList = [239, 187, 191] := by
  intro e
  rw [tc_bytes_extract] at e
  have hl := congrArg List.length e
  rw [List.length_take] at hl
  simp only [List.length_cons, List.length_nil] at hl
  have : Lib.hasPrefix (s.extract i s.size).data.toList [239, 187, 191] = true := by
    rw [tc_prefix_iff, tc_rest_data, ← e]
    have := List.take_of_length_le (i := 3) (l := List.take (j - i) (List.drop i s.data.toList)) (by rw [List.length_take]; omega)
    rw [List.take_take, Nat.min_eq_left (by omega)] at this
    exact this
  rw [this] at h; cases h
set_option maxHeartbeats 1000000 in
set_option maxRecDepth 100000 in
theorem text_Check.calls (k : Nat) (a0 : ByteArray) (r : List (S36)) (w : World) (hG : GlobU w) (h : text_Check.f k a0 = some r) :
    Calls Tryd.prog 13 #[.string a0] w fun e w' => ∃ v0_ : Value, e = .returned (v0_) ∧ Kd.R k36 36 w' w.heap.size (fun _ => True) v0_ r ∧ Below w.heap.size w w' := by
  have HGL := Aside0.mk hG
  clear hG
  have HB := Aside0.mk (Below.refl w.heap.size w)
  unfold text_Check.f at h
  by_cases hsz : (a0.size : Int) ≤ 1073741824
  · rw [if_pos hsz] at h
    have H' := Aside0.mk (show scholiastref01_Check.l0 k a0 [] 0 = some r from h)
    clear h
    have HO := Aside0.mk (Kd.R_nil k36 36 w w.heap.size (fun _ => True))
    go_enter Tryd.func13, Tryd.ntmps13
    go_wp2_with fail
    go_loopg [3, 4] k (fun kq v3 v4 w' => ∃ (x3 : List (S36)) (x4 : Int), v4 = .int .i64 x4 ∧ Aside0 (scholiastref01_Check.l0 kq a0 x3 x4 = some r) ∧ Aside0 (0 ≤ x4 ∧ x4 ≤ a0.size) ∧ Aside0 (Kd.R k36 36 w' w.heap.size (fun _ => True) v3 x3) ∧ Aside0 (Below w.heap.size w w'))
    case atStart => exact ⟨[], 0, rfl, H', ⟨by omega, by omega⟩, HO, HB⟩
    case round =>
      clear H' HO HB
      obtain ⟨x3, x4, rfl, HA, HI, HO, HB⟩ := hrel
      cases gk with
      | zero => exact absurd HA.out (by simp [scholiastref01_Check.l0])
      | succ k1 =>
        have H := HA.out
        clear HA
        simp only [scholiastref01_Check.l0] at H
        obtain ⟨hi0, hi1⟩ := HI.out
        clear HI
        by_cases c4 : x4 < (a0.size : Int)
        · rw [if_pos c4] at H
          have c4b0 : decide (x4 < (a0.size : Int)) = true := decide_eq_true c4
          replace H := Option.bind_eq_some_iff.mp H
          obtain ⟨t, hw, H⟩ := H
          obtain ⟨R, K, hR, hK, hcase⟩ := tc_at_place hi0 c4 hsz hw
          clear hw
          have cD := fun (W : World) (hT : Lib.Utf8Tabs 0 1 W) => Tryd.utf8_DecodeRuneInString (a0.extract x4.toNat a0.size) W hT
          simp only [hR, hK] at cD
          clear hR hK
          rcases hcase with ⟨rfl, rfl, rfl⟩ | ⟨rfl, hK1, hK2, hRK, hR0, hb0, hb3⟩
          · simp only [if_true] at H
            rw [show wrap64 (x4 + 1) = x4 + 1 by unfold wrap64; omega] at H
            by_cases hl : x3.length < 5864062014805
            · rw [if_pos hl] at H; have HL := Aside0.mk hl; clear hl; have H' := Aside0.mk H; clear H
              go_wp2_with (first | (go_at_call 36; refine (cD _ (GlobU.below HGL.out (by repeat (first | (with_reducible first | exact HB.out | apply below_alloc | apply pw_below_drewN | apply below_drew1) | exact HB.out))).u8).mono ?_; rintro e w2 ⟨rfl, hb⟩; have n0_ := Aside0.mk (below_step (by repeat (first | (with_reducible first | exact HB.out | apply below_alloc | apply pw_below_drewN | apply below_drew1) | exact HB.out)) hb); have n1_ := Aside0.mk (Kd.R_below (by (with_reducible repeat (first | apply Kd.R_alloc | apply Kd.R_drewN | apply Kd.R_drew)); exact HO.out) hb); clear HB; clear HO; have HB := n0_; have HO := n1_; clear n0_ n1_; clear hb) | ((with_reducible refine gate_builtin (b := .append) (xs := #[.tmp 40, .tmp 47]) rfl ?_); at_builtin; refine Kd.R_append k36 (w0 := w) w.heap.size rfl (.tmp 40) (.tmp 47) 23 36 (.agg #[(.int .i64 0), (.int .i64 0), (.int .i64 0)]) 24 rfl Tryd.underlying23 info36 rfl (by decide) (by omega) _ x3 (⟨101, x4, x4 + 1⟩ : S36) [.int .i64 101, .int .i64 x4, .int .i64 (x4 + 1)] (fun _ => True) (fun _ => False) rfl rfl ?aP (fun _ hk => hk.elim) ?aF ?aO ?aB ?aS ?aL ?_; (case aP => exact k36_mkM _ _ _ (⟨101, x4, x4 + 1⟩ : S36)); (case aB => exact (by repeat (first | (with_reducible first | exact HB.out | apply below_alloc | apply pw_below_drewN | apply below_drew1) | exact HB.out))); (case aF => exact (fun _ _ => trivial)); (case aO => exact (by (with_reducible repeat (first | apply Kd.R_alloc | apply Kd.R_drewN | apply Kd.R_drew)); exact HO.out)); (case aS => exact (below_size (by repeat (first | (with_reducible first | exact HB.out | apply below_alloc | apply pw_below_drewN | apply below_drew1) | exact HB.out)))); (case aL => have := HL.out; omega); intro v9 w9 ho hb hg hat; have n0_ := Aside0.mk (hb); have n1_ := Aside0.mk (ho); clear HB; clear HO; have HB := n0_; have HO9 := n1_; clear n0_ n1_; clear ho hb hg hat))
              go_roundg k1
              case measure => omega
              case rel => exact ⟨(x3 ++ [(⟨101, x4, x4 + 1⟩ : S36)]), (x4 + 1), (by first | rfl | (simp; done) | (simp [*]; done)), H', ⟨by omega, by omega⟩, ⟨(by (with_reducible repeat (first | apply Kd.R_alloc | apply Kd.R_drewN | apply Kd.R_drew)); exact HO9.out)⟩, ⟨(by repeat (first | (with_reducible first | exact HB.out | apply below_alloc | apply pw_below_drewN | apply below_drew1) | exact HB.out))⟩⟩
            · rw [if_neg hl] at H; exact absurd H (by simp)
          · rw [if_neg (show ¬ t = 0 by omega), if_pos hi0] at H
            rw [show wrap64 (x4 + 1) = x4 + 1 by unfold wrap64; omega, show wrap64 (x4 + 3) = x4 + 3 by unfold wrap64; omega, show wrap64 (x4 + t) = x4 + t by unfold wrap64; omega] at H
            by_cases c1 : bt a0 x4 = 0
            · rw [if_pos c1] at H
              obtain rfl := hb0 c1
              obtain rfl := hR0.2 c1
              clear hb0 hb3 hR0 hRK hK1 c1
              by_cases hl : x3.length < 5864062014805
              · rw [if_pos hl] at H; have HL := Aside0.mk hl; clear hl; have H' := Aside0.mk H; clear H
                go_wp2_with (first | (go_at_call 36; refine (cD _ (GlobU.below HGL.out (by repeat (first | (with_reducible first | exact HB.out | apply below_alloc | apply pw_below_drewN | apply below_drew1) | exact HB.out))).u8).mono ?_; rintro e w2 ⟨rfl, hb⟩; have n0_ := Aside0.mk (below_step (by repeat (first | (with_reducible first | exact HB.out | apply below_alloc | apply pw_below_drewN | apply below_drew1) | exact HB.out)) hb); have n1_ := Aside0.mk (Kd.R_below (by (with_reducible repeat (first | apply Kd.R_alloc | apply Kd.R_drewN | apply Kd.R_drew)); exact HO.out) hb); clear HB; clear HO; have HB := n0_; have HO := n1_; clear n0_ n1_; clear hb) | ((with_reducible refine gate_builtin (b := .append) (xs := #[.tmp 40, .tmp 47]) rfl ?_); at_builtin; refine Kd.R_append k36 (w0 := w) w.heap.size rfl (.tmp 40) (.tmp 47) 23 36 (.agg #[(.int .i64 0), (.int .i64 0), (.int .i64 0)]) 24 rfl Tryd.underlying23 info36 rfl (by decide) (by omega) _ x3 (⟨102, x4, x4 + 1⟩ : S36) [.int .i64 102, .int .i64 x4, .int .i64 (x4 + 1)] (fun _ => True) (fun _ => False) rfl rfl ?aP (fun _ hk => hk.elim) ?aF ?aO ?aB ?aS ?aL ?_; (case aP => exact k36_mkM _ _ _ (⟨102, x4, x4 + 1⟩ : S36)); (case aB => exact (by repeat (first | (with_reducible first | exact HB.out | apply below_alloc | apply pw_below_drewN | apply below_drew1) | exact HB.out))); (case aF => exact (fun _ _ => trivial)); (case aO => exact (by (with_reducible repeat (first | apply Kd.R_alloc | apply Kd.R_drewN | apply Kd.R_drew)); exact HO.out)); (case aS => exact (below_size (by repeat (first | (with_reducible first | exact HB.out | apply below_alloc | apply pw_below_drewN | apply below_drew1) | exact HB.out)))); (case aL => have := HL.out; omega); intro v9 w9 ho hb hg hat; have n0_ := Aside0.mk (hb); have n1_ := Aside0.mk (ho); clear HB; clear HO; have HB := n0_; have HO9 := n1_; clear n0_ n1_; clear ho hb hg hat))
                go_roundg k1
                case measure => omega
                case rel => exact ⟨(x3 ++ [(⟨102, x4, x4 + 1⟩ : S36)]), (x4 + 1), (by first | rfl | (simp; done) | (simp [*]; done)), H', ⟨by omega, by omega⟩, ⟨(by (with_reducible repeat (first | apply Kd.R_alloc | apply Kd.R_drewN | apply Kd.R_drew)); exact HO9.out)⟩, ⟨(by repeat (first | (with_reducible first | exact HB.out | apply below_alloc | apply pw_below_drewN | apply below_drew1) | exact HB.out))⟩⟩
              · rw [if_neg hl] at H; exact absurd H (by simp)
            · rw [if_neg c1] at H
              have hR1 : (R == 0) = false := by rw [beq_eq_false_iff_ne]; intro e; exact c1 (hR0.1 e)
              clear hR0 hb0
              by_cases c2 : x4 > 0
              · rw [if_pos c2, if_pos (show x4 ≤ x4 + t by omega), if_pos hK2] at H
                have c2b : decide (0 < x4) = true := decide_eq_true c2
                obtain ⟨p, hp⟩ : ∃ p, Lib.hasPrefix (a0.extract x4.toNat a0.size).data.toList [239, 187, 191] = p := ⟨_, rfl⟩
                have cP := fun (W : World) => Tryd.strings_HasPrefix (a0.extract x4.toNat a0.size) ⟨#[239, 187, 191]⟩ W
                simp only [hp] at cP
                cases p with
                | true =>
                  obtain ⟨rfl, hm⟩ := tc_mark_yes a0 x4.toNat t (by omega) (by rw [Int.toNat_of_nonneg hi0]; exact hb3) hp
                  rw [if_pos (by rw [show (x4 + 3).toNat = x4.toNat + 3 by omega]; exact hm)] at H
                  clear hp hm
                  by_cases hl : x3.length < 5864062014805
                  · rw [if_pos hl] at H; have HL := Aside0.mk hl; clear hl; have H' := Aside0.mk H; clear H
                    by_cases c3 : R = 65533
                    · subst c3
                      clear hRK hb3 c1 c2 hR1
                      go_wp2_with (first | (go_at_call 36; refine (cD _ (GlobU.below HGL.out (by repeat (first | (with_reducible first | exact HB.out | apply below_alloc | apply pw_below_drewN | apply below_drew1) | exact HB.out))).u8).mono ?_; rintro e w2 ⟨rfl, hb⟩; have n0_ := Aside0.mk (below_step (by repeat (first | (with_reducible first | exact HB.out | apply below_alloc | apply pw_below_drewN | apply below_drew1) | exact HB.out)) hb); have n1_ := Aside0.mk (Kd.R_below (by (with_reducible repeat (first | apply Kd.R_alloc | apply Kd.R_drewN | apply Kd.R_drew)); exact HO.out) hb); clear HB; clear HO; have HB := n0_; have HO := n1_; clear n0_ n1_; clear hb) | (go_at_call 37; refine (cP _).mono ?_; rintro e w3 ⟨rfl, rfl⟩) | ((with_reducible refine gate_builtin (b := .append) (xs := #[.tmp 40, .tmp 47]) rfl ?_); at_builtin; refine Kd.R_append k36 (w0 := w) w.heap.size rfl (.tmp 40) (.tmp 47) 23 36 (.agg #[(.int .i64 0), (.int .i64 0), (.int .i64 0)]) 24 rfl Tryd.underlying23 info36 rfl (by decide) (by omega) _ x3 (⟨103, x4, x4 + 3⟩ : S36) [.int .i64 103, .int .i64 x4, .int .i64 (x4 + 3)] (fun _ => True) (fun _ => False) rfl rfl ?aP (fun _ hk => hk.elim) ?aF ?aO ?aB ?aS ?aL ?_; (case aP => exact k36_mkM _ _ _ (⟨103, x4, x4 + 3⟩ : S36)); (case aB => exact (by repeat (first | (with_reducible first | exact HB.out | apply below_alloc | apply pw_below_drewN | apply below_drew1) | exact HB.out))); (case aF => exact (fun _ _ => trivial)); (case aO => exact (by (with_reducible repeat (first | apply Kd.R_alloc | apply Kd.R_drewN | apply Kd.R_drew)); exact HO.out)); (case aS => exact (below_size (by repeat (first | (with_reducible first | exact HB.out | apply below_alloc | apply pw_below_drewN | apply below_drew1) | exact HB.out)))); (case aL => have := HL.out; omega); intro v9 w9 ho hb hg hat; have n0_ := Aside0.mk (hb); have n1_ := Aside0.mk (ho); clear HB; clear HO; have HB := n0_; have HO9 := n1_; clear n0_ n1_; clear ho hb hg hat))
                      go_roundg k1
                      case measure => omega
                      case rel => exact ⟨(x3 ++ [(⟨103, x4, x4 + 3⟩ : S36)]), (x4 + 3), (by first | rfl | (simp; done) | (simp [*]; done)), H', ⟨by omega, by omega⟩, ⟨(by (with_reducible repeat (first | apply Kd.R_alloc | apply Kd.R_drewN | apply Kd.R_drew)); exact HO9.out)⟩, ⟨(by repeat (first | (with_reducible first | exact HB.out | apply below_alloc | apply pw_below_drewN | apply below_drew1) | exact HB.out))⟩⟩
                    · have hR2 : (R == 65533) = false := by rw [beq_eq_false_iff_ne]; exact c3
                      clear hRK hb3 c1 c2 c3
                      go_wp2_with (first | (go_at_call 36; refine (cD _ (GlobU.below HGL.out (by repeat (first | (with_reducible first | exact HB.out | apply below_alloc | apply pw_below_drewN | apply below_drew1) | exact HB.out))).u8).mono ?_; rintro e w2 ⟨rfl, hb⟩; have n0_ := Aside0.mk (below_step (by repeat (first | (with_reducible first | exact HB.out | apply below_alloc | apply pw_below_drewN | apply below_drew1) | exact HB.out)) hb); have n1_ := Aside0.mk (Kd.R_below (by (with_reducible repeat (first | apply Kd.R_alloc | apply Kd.R_drewN | apply Kd.R_drew)); exact HO.out) hb); clear HB; clear HO; have HB := n0_; have HO := n1_; clear n0_ n1_; clear hb) | (go_at_call 37; refine (cP _).mono ?_; rintro e w3 ⟨rfl, rfl⟩) | ((with_reducible refine gate_builtin (b := .append) (xs := #[.tmp 40, .tmp 47]) rfl ?_); at_builtin; refine Kd.R_append k36 (w0 := w) w.heap.size rfl (.tmp 40) (.tmp 47) 23 36 (.agg #[(.int .i64 0), (.int .i64 0), (.int .i64 0)]) 24 rfl Tryd.underlying23 info36 rfl (by decide) (by omega) _ x3 (⟨103, x4, x4 + 3⟩ : S36) [.int .i64 103, .int .i64 x4, .int .i64 (x4 + 3)] (fun _ => True) (fun _ => False) rfl rfl ?aP (fun _ hk => hk.elim) ?aF ?aO ?aB ?aS ?aL ?_; (case aP => exact k36_mkM _ _ _ (⟨103, x4, x4 + 3⟩ : S36)); (case aB => exact (by repeat (first | (with_reducible first | exact HB.out | apply below_alloc | apply pw_below_drewN | apply below_drew1) | exact HB.out))); (case aF => exact (fun _ _ => trivial)); (case aO => exact (by (with_reducible repeat (first | apply Kd.R_alloc | apply Kd.R_drewN | apply Kd.R_drew)); exact HO.out)); (case aS => exact (below_size (by repeat (first | (with_reducible first | exact HB.out | apply below_alloc | apply pw_below_drewN | apply below_drew1) | exact HB.out)))); (case aL => have := HL.out; omega); intro v9 w9 ho hb hg hat; have n0_ := Aside0.mk (hb); have n1_ := Aside0.mk (ho); clear HB; clear HO; have HB := n0_; have HO9 := n1_; clear n0_ n1_; clear ho hb hg hat))
                      go_roundg k1
                      case measure => omega
                      case rel => exact ⟨(x3 ++ [(⟨103, x4, x4 + 3⟩ : S36)]), (x4 + 3), (by first | rfl | (simp; done) | (simp [*]; done)), H', ⟨by omega, by omega⟩, ⟨(by (with_reducible repeat (first | apply Kd.R_alloc | apply Kd.R_drewN | apply Kd.R_drew)); exact HO9.out)⟩, ⟨(by repeat (first | (with_reducible first | exact HB.out | apply below_alloc | apply pw_below_drewN | apply below_drew1) | exact HB.out))⟩⟩
                  · rw [if_neg hl] at H; exact absurd H (by simp)
                | false =>
                  rw [if_neg (tc_mark_no a0 x4.toNat (x4 + t).toNat hp)] at H
                  clear hp
                  have H' := Aside0.mk H
                  clear H
                  by_cases c3 : R = 65533
                  · subst c3
                    have hK3 : (t == 1) = false := by rw [beq_eq_false_iff_ne]; intro e; exact hRK ⟨rfl, e⟩
                    clear hRK hb3 c1 c2 hR1
                    go_wp2_with (first | (go_at_call 36; refine (cD _ (GlobU.below HGL.out (by repeat (first | (with_reducible first | exact HB.out | apply below_alloc | apply pw_below_drewN | apply below_drew1) | exact HB.out))).u8).mono ?_; rintro e w2 ⟨rfl, hb⟩; have n0_ := Aside0.mk (below_step (by repeat (first | (with_reducible first | exact HB.out | apply below_alloc | apply pw_below_drewN | apply below_drew1) | exact HB.out)) hb); have n1_ := Aside0.mk (Kd.R_below (by (with_reducible repeat (first | apply Kd.R_alloc | apply Kd.R_drewN | apply Kd.R_drew)); exact HO.out) hb); clear HB; clear HO; have HB := n0_; have HO := n1_; clear n0_ n1_; clear hb) | (go_at_call 37; refine (cP _).mono ?_; rintro e w3 ⟨rfl, rfl⟩))
                    go_roundg k1
                    case measure => omega
                    case rel => exact ⟨x3, (x4 + t), (by first | rfl | (simp; done) | (simp [*]; done)), H', ⟨by omega, by omega⟩, ⟨(by (with_reducible repeat (first | apply Kd.R_alloc | apply Kd.R_drewN | apply Kd.R_drew)); exact HO.out)⟩, ⟨(by repeat (first | (with_reducible first | exact HB.out | apply below_alloc | apply pw_below_drewN | apply below_drew1) | exact HB.out))⟩⟩
                  · have hR2 : (R == 65533) = false := by rw [beq_eq_false_iff_ne]; exact c3
                    clear hRK hb3 c1 c2 c3
                    go_wp2_with (first | (go_at_call 36; refine (cD _ (GlobU.below HGL.out (by repeat (first | (with_reducible first | exact HB.out | apply below_alloc | apply pw_below_drewN | apply below_drew1) | exact HB.out))).u8).mono ?_; rintro e w2 ⟨rfl, hb⟩; have n0_ := Aside0.mk (below_step (by repeat (first | (with_reducible first | exact HB.out | apply below_alloc | apply pw_below_drewN | apply below_drew1) | exact HB.out)) hb); have n1_ := Aside0.mk (Kd.R_below (by (with_reducible repeat (first | apply Kd.R_alloc | apply Kd.R_drewN | apply Kd.R_drew)); exact HO.out) hb); clear HB; clear HO; have HB := n0_; have HO := n1_; clear n0_ n1_; clear hb) | (go_at_call 37; refine (cP _).mono ?_; rintro e w3 ⟨rfl, rfl⟩))
                    go_roundg k1
                    case measure => omega
                    case rel => exact ⟨x3, (x4 + t), (by first | rfl | (simp; done) | (simp [*]; done)), H', ⟨by omega, by omega⟩, ⟨(by (with_reducible repeat (first | apply Kd.R_alloc | apply Kd.R_drewN | apply Kd.R_drew)); exact HO.out)⟩, ⟨(by repeat (first | (with_reducible first | exact HB.out | apply below_alloc | apply pw_below_drewN | apply below_drew1) | exact HB.out))⟩⟩
              · rw [if_neg c2] at H
                have c2b : decide (0 < x4) = false := decide_eq_false c2
                have H' := Aside0.mk H
                clear H
                by_cases c3 : R = 65533
                · subst c3
                  have hK3 : (t == 1) = false := by rw [beq_eq_false_iff_ne]; intro e; exact hRK ⟨rfl, e⟩
                  clear hRK hb3 c1 c2 hR1
                  go_wp2_with (first | (go_at_call 36; refine (cD _ (GlobU.below HGL.out (by repeat (first | (with_reducible first | exact HB.out | apply below_alloc | apply pw_below_drewN | apply below_drew1) | exact HB.out))).u8).mono ?_; rintro e w2 ⟨rfl, hb⟩; have n0_ := Aside0.mk (below_step (by repeat (first | (with_reducible first | exact HB.out | apply below_alloc | apply pw_below_drewN | apply below_drew1) | exact HB.out)) hb); have n1_ := Aside0.mk (Kd.R_below (by (with_reducible repeat (first | apply Kd.R_alloc | apply Kd.R_drewN | apply Kd.R_drew)); exact HO.out) hb); clear HB; clear HO; have HB := n0_; have HO := n1_; clear n0_ n1_; clear hb))
                  go_roundg k1
                  case measure => omega
                  case rel => exact ⟨x3, (x4 + t), (by first | rfl | (simp; done) | (simp [*]; done)), H', ⟨by omega, by omega⟩, ⟨(by (with_reducible repeat (first | apply Kd.R_alloc | apply Kd.R_drewN | apply Kd.R_drew)); exact HO.out)⟩, ⟨(by repeat (first | (with_reducible first | exact HB.out | apply below_alloc | apply pw_below_drewN | apply below_drew1) | exact HB.out))⟩⟩
                · have hR2 : (R == 65533) = false := by rw [beq_eq_false_iff_ne]; exact c3
                  clear hRK hb3 c1 c2 c3
                  go_wp2_with (first | (go_at_call 36; refine (cD _ (GlobU.below HGL.out (by repeat (first | (with_reducible first | exact HB.out | apply below_alloc | apply pw_below_drewN | apply below_drew1) | exact HB.out))).u8).mono ?_; rintro e w2 ⟨rfl, hb⟩; have n0_ := Aside0.mk (below_step (by repeat (first | (with_reducible first | exact HB.out | apply below_alloc | apply pw_below_drewN | apply below_drew1) | exact HB.out)) hb); have n1_ := Aside0.mk (Kd.R_below (by (with_reducible repeat (first | apply Kd.R_alloc | apply Kd.R_drewN | apply Kd.R_drew)); exact HO.out) hb); clear HB; clear HO; have HB := n0_; have HO := n1_; clear n0_ n1_; clear hb))
                  go_roundg k1
                  case measure => omega
                  case rel => exact ⟨x3, (x4 + t), (by first | rfl | (simp; done) | (simp [*]; done)), H', ⟨by omega, by omega⟩, ⟨(by (with_reducible repeat (first | apply Kd.R_alloc | apply Kd.R_drewN | apply Kd.R_drew)); exact HO.out)⟩, ⟨(by repeat (first | (with_reducible first | exact HB.out | apply below_alloc | apply pw_below_drewN | apply below_drew1) | exact HB.out))⟩⟩
        · rw [if_neg c4] at H
          have c4b0 : decide (x4 < (a0.size : Int)) = false := decide_eq_false c4
          obtain rfl := Option.some.inj H
          clear H
          go_wp2_with fail
          go_ret
          exact ⟨_, rfl, HO.out, HB.out⟩
  · rw [if_neg hsz] at h; cases h

end Go.Proofs.YtcbimnmpdpkefaaDoor.A
