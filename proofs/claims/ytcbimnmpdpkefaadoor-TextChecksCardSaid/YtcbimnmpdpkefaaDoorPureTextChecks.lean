/- The plain law of TextChecks: what the printed functions compute is true at every text. No program's run stands here. -/
import Derived.Test.YtcbimnmpdpkefaaDoorAx9
namespace Go.Proofs.YtcbimnmpdpkefaaDoor.A
open Go.RowKit Go.Proofs.YtcbimnmpdpkefaaDoorW.PrintWords Go.Proofs.YtcbimnmpdpkefaaDoorW.PrintLast

theorem tc_same_self (n : Nat) : ∀ (k : Nat) (l : List S36) (i : Int), 0 ≤ i → i ≤ l.length → (l.length : Int) - i = n → (l.length : Int) ≤ 1152921504606846976 → n < k → scholiastlaw01_sameDiags.l0 k l l i = some true := by
  induction n with
  | zero =>
    intro k l i h0 h1 hd hb hk
    obtain ⟨k, rfl⟩ : ∃ m, k = m + 1 := ⟨k - 1, by omega⟩
    simp only [scholiastlaw01_sameDiags.l0]; rw [if_neg (by omega)]
  | succ n ih =>
    intro k l i h0 h1 hd hb hk
    obtain ⟨k, rfl⟩ : ∃ m, k = m + 1 := ⟨k - 1, by omega⟩
    simp only [scholiastlaw01_sameDiags.l0]
    rw [if_pos (show i < (l.length : Int) by omega), if_pos h0, if_pos (show i < (l.length : Int) by omega)]
    simp only [beq_self_eq_true, Bool.not_true, Bool.or_self, Bool.false_eq_true, if_false]
    rw [show wrap64 (i + 1) = i + 1 by unfold wrap64; omega]
    exact ih k l (i + 1) (by omega) (by omega) (by omega) hb (by omega)

theorem tc_wid_range (n b0 b1 b2 b3 : Int) (hn : 1 ≤ n) : 0 ≤ tc_wid n b0 b1 b2 b3 ∧ tc_wid n b0 b1 b2 b3 ≤ n := by
  unfold tc_wid
  repeat' split
  all_goals omega

theorem tc_check_some (n : Nat) : ∀ (k : Nat) (s : ByteArray) (l : List S36) (i : Int), 0 ≤ i → i ≤ s.size → (s.size : Int) - i = n → (s.size : Int) ≤ 1073741824 → (l.length : Int) + n ≤ 1073741825 → n + 3 < k →
    ∃ r, scholiastref01_Check.l0 k s l i = some r ∧ (r.length : Int) ≤ 1073741825 := by
  induction n using Nat.strongRecOn with
  | _ n ih =>
    intro k s l i h0 h1 hd hb hl hk
    obtain ⟨k, rfl⟩ : ∃ m, k = m + 1 := ⟨k - 1, by omega⟩
    simp only [scholiastref01_Check.l0]
    by_cases hlt : i < (s.size : Int)
    · rw [if_pos hlt]
      obtain ⟨k2, rfl⟩ : ∃ m, k = m + 3 := ⟨k - 3, by omega⟩
      have hw := tc_width_eq k2 s i h0 hlt (by omega)
      rw [hw]
      simp only [Option.bind_some]
      have hr := tc_wid_range ((s.size : Int) - i) (bt s i) (bt s (i + 1)) (bt s (i + 2)) (bt s (i + 3)) (by omega)
      generalize tc_wid ((s.size : Int) - i) (bt s i) (bt s (i + 1)) (bt s (i + 2)) (bt s (i + 3)) = t at *
      have hl1 : l.length < 5864062014805 := by omega
      rw [show wrap64 (i + 1) = i + 1 by unfold wrap64; omega, show wrap64 (i + 3) = i + 3 by unfold wrap64; omega, show wrap64 (i + t) = i + t by unfold wrap64; omega]
      have go : ∀ (l' : List S36) (j : Int), i < j → j ≤ s.size → l'.length ≤ l.length + 1 → ∃ r, scholiastref01_Check.l0 (k2 + 3) s l' j = some r ∧ (r.length : Int) ≤ 1073741825 := by
        intro l' j hj hj2 hl'
        exact ih ((s.size : Int) - j).toNat (by omega) (k2 + 3) s l' j (by omega) hj2 (by omega) hb (by omega) (by omega)
      by_cases ht : t = 0
      · rw [if_pos ht, if_pos hl1]
        exact go _ _ (by omega) (by omega) (by simp)
      rw [if_neg ht, if_pos h0]
      by_cases hb0 : bt s i = 0
      · rw [if_pos hb0, if_pos hl1]
        exact go _ _ (by omega) (by omega) (by simp)
      rw [if_neg hb0]
      by_cases hi : i > 0
      · rw [if_pos hi, if_pos (show i ≤ i + t by omega), if_pos (show i + t ≤ (s.size : Int) by omega)]
        split
        · exact go _ _ (by omega) (by omega) (by simp)
        · exact go _ _ (by omega) (by omega) (by omega)
      · rw [if_neg hi]
        exact go _ _ (by omega) (by omega) (by omega)
    · rw [if_neg hlt]
      exact ⟨l, rfl, by omega⟩

theorem tc_pure (a0 : ByteArray) : ∃ k, scholiastlaw01_TextChecks.f k a0 = some true := by
  unfold scholiastlaw01_TextChecks.f
  by_cases h : (a0.size : Int) > 1073741824
  · exact ⟨0, by rw [if_pos h]⟩
  · obtain ⟨r, hr, hl⟩ := tc_check_some a0.size (a0.size + 4) a0 [] 0 (by omega) (by omega) (by omega) (by omega) (by simp; omega) (by omega)
    have h2 := tc_same_self r.length (r.length + 1) r 0 (by omega) (by omega) (by omega) (by omega) (by omega)
    have e1 := at_rounds (g := fun k => scholiastref01_Check.f k a0) (fun k => scholiastref01_Check.mono a0 k) (show a0.size + 4 ≤ a0.size + r.length + 5 by omega) (show scholiastref01_Check.f (a0.size + 4) a0 = some r from hr)
    have e2 := at_rounds (g := fun k => scholiastlaw01_sameDiags.f k r r) (fun k => scholiastlaw01_sameDiags.mono r r k) (show r.length + 1 ≤ a0.size + r.length + 5 by omega) (show scholiastlaw01_sameDiags.f (r.length + 1) r r = some true by unfold scholiastlaw01_sameDiags.f; rw [if_pos rfl]; exact h2)
    refine ⟨a0.size + r.length + 5, ?_⟩
    rw [if_neg h]
    unfold text_Check.f
    rw [if_pos (by omega)]
    simp only [e1, e2, Option.bind_some]
end Go.Proofs.YtcbimnmpdpkefaaDoor.A
