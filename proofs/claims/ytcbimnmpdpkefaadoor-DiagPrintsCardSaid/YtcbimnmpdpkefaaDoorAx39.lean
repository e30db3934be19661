/- Printed by a changed copy of the kit's print.py for all laws of the seat at once (one namespace): functions and their contracts; some parts by hand. -/
import Derived.Test.YtcbimnmpdpkefaaDoorAx0
import Derived.Test.YtcbimnmpdpkefaaDoorAx38
namespace Go.Proofs.YtcbimnmpdpkefaaDoor.A
open Go.RowKit Go.Proofs.YtcbimnmpdpkefaaDoorW.PrintWords Go.Proofs.YtcbimnmpdpkefaaDoorW.PrintLast Go.Proofs.YtcbimnmpdpkefaaDoorW.PrintMore
attribute [local go_sem] max2_int min2_int max_two min_two max_three min_three max_four min_four   -- for this text's walks alone
set_option linter.unusedVariables false
set_option linter.unusedSimpArgs false

/-! ### scholiastref20_place: function 52 -/
def scholiastref20_place.l0 : Nat → ByteArray → Int → Int → Int → Int → Option (ByteArray)
  | 0, _, _, _, _, _ => none
  | k + 1, x0, x1, x5, x6, x7 => if x7 < x1 then (if 0 ≤ x7 then (if x7 < (x0.size : Int) then (if (bt x0 x7) = 10 then (scholiastref20_place.l0 k x0 x1 (wrap64 (x5 + 1)) 1 (wrap64 (x7 + 1))) else (scholiastref20_place.l0 k x0 x1 x5 (wrap64 (x6 + 1)) (wrap64 (x7 + 1)))) else (none)) else (none)) else ((scholiastref20_digits.f k x5).bind fun t358 => (if t358.size + 1 ≤ 9223372036854775807 then ((scholiastref20_digits.f k x6).bind fun t359 => (if (t358 ++ (⟨#[58]⟩ : ByteArray)).size + t359.size ≤ 9223372036854775807 then (some ((t358 ++ (⟨#[58]⟩ : ByteArray)) ++ t359)) else (none))) else (none)))
def scholiastref20_place.f (k : Nat) (a0 : ByteArray) (a1 : Int) : Option (ByteArray) := scholiastref20_place.l0 k a0 a1 1 1 0
theorem scholiastref20_place.mono_l : ∀ k, (∀ y0 y1 y2 y3 y4, LeO (scholiastref20_place.l0 k y0 y1 y2 y3 y4) (scholiastref20_place.l0 (k + 1) y0 y1 y2 y3 y4))
  | 0 => fun _ _ _ _ _ r h => by simp [scholiastref20_place.l0] at h
  | k + 1 => by
    have ih0 := scholiastref20_place.mono_l k
    · intro y0 y1 y2 y3 y4
      unfold scholiastref20_place.l0
      repeat' first
      | (with_reducible exact ih0 _ _ _ _ _)
      | (with_reducible exact scholiastref20_digits.mono _ _)
      | (with_reducible exact LeO.refl _)
      | (with_reducible exact LeO.none _)
      | (with_reducible refine LeO.ite ?_ ?_)
      | (with_reducible refine LeO.bind ?_ (fun _ => ?_))
      | exact ih0 _ _ _ _ _
      | exact scholiastref20_digits.mono _ _
      | exact LeO.none _
      | refine LeO.ite ?_ ?_
      | refine LeO.bind ?_ (fun _ => ?_)
theorem scholiastref20_place.mono : ∀ a0 a1 k, LeO (scholiastref20_place.f k a0 a1) (scholiastref20_place.f (k + 1) a0 a1) := by
  intro a0 a1 k
  have ih0 := scholiastref20_place.mono_l k
  unfold scholiastref20_place.f
  repeat' first
      | (with_reducible exact ih0 _ _ _ _ _)
      | (with_reducible exact scholiastref20_digits.mono _ _)
      | (with_reducible exact LeO.refl _)
      | (with_reducible exact LeO.none _)
      | (with_reducible refine LeO.ite ?_ ?_)
      | (with_reducible refine LeO.bind ?_ (fun _ => ?_))
      | exact ih0 _ _ _ _ _
      | exact scholiastref20_digits.mono _ _
      | exact LeO.none _
      | refine LeO.ite ?_ ?_
      | refine LeO.bind ?_ (fun _ => ?_)
set_option maxHeartbeats 8000000 in
set_option maxRecDepth 100000 in
theorem scholiastref20_place.calls (k : Nat) (a0 : ByteArray) (a1 : Int) (r : ByteArray) (w : World) (h : scholiastref20_place.f k a0 a1 = some r) :
    Calls Tryd.prog 52 #[.string a0, .int .i64 a1] w fun e w' => e = .returned (.string r) ∧ Below w.heap.size w w' := by
  have HB := Aside0.mk (Below.refl w.heap.size w)
  have H : (scholiastref20_place.l0 k a0 a1 1 1 0) = some r := h
  clear h
  have H' := Aside0.mk H
  clear H
  go_enter Tryd.func52, Tryd.ntmps52
  go_wp2
  go_loopg [5, 6, 7] k (fun kq v5 v6 v7 w' => ∃ (x5_1 : Int) (x6_1 : Int) (x7_1 : Int), v5 = .int .i64 x5_1 ∧ v6 = .int .i64 x6_1 ∧ v7 = .int .i64 x7_1 ∧ Aside0 (scholiastref20_place.l0 kq a0 a1 x5_1 x6_1 x7_1 = some r) ∧ Aside0 (kq ≤ k) ∧ Aside0 (Below w.heap.size w w'))
  case atStart => exact ⟨(1), (1), (0), (by first | rfl | (simp; done) | (simp [*]; done)), (by first | rfl | (simp; done) | (simp [*]; done)), (by first | rfl | (simp; done) | (simp [*]; done)), H', ⟨Nat.le_refl _⟩, ⟨by repeat (first | (with_reducible first | exact HB.out | apply below_alloc | apply pw_below_drewN | apply below_drew1) | exact HB.out)⟩⟩
  case round =>
    clear H'
    try clear p2
    obtain ⟨x5_1, x6_1, x7_1, rfl, rfl, rfl, HA, HK1, HB⟩ := hrel
    cases gk with
    | zero => exact absurd HA.out (by simp [scholiastref20_place.l0])
    | succ k1 =>
      have H := HA.out
      clear HA
      simp only [scholiastref20_place.l0] at H
      by_cases c3 : x7_1 < a1
      · rw [if_pos c3] at H
        have c3b0 : decide (x7_1 < a1) = true := decide_eq_true c3
        clear c3
        by_cases c4 : 0 ≤ x7_1
        · rw [if_pos c4] at H
          have c4b0 : decide (0 ≤ x7_1) = true := decide_eq_true c4
          clear c4
          by_cases c5 : x7_1 < (a0.size : Int)
          · rw [if_pos c5] at H
            have c5b0 : decide (x7_1 < (a0.size : Int)) = true := decide_eq_true c5
            clear c5
            by_cases c7 : (bt a0 x7_1) = 10
            · rw [if_pos c7] at H
              have c7b0 : ((bt a0 x7_1) == 10) = true := beq_iff_eq.mpr c7
              have c7b1 : ((bt a0 x7_1) != 10) = false := bne_eq_false_iff_eq.mpr c7
              clear c7
              have H' := Aside0.mk H
              clear H
              have p6 : 0 ≤ (x7_1 : Int) := of_decide_eq_true (by first | (with_reducible assumption) | assumption)
              have q6 : x7_1 < (a0.size : Int) := of_decide_eq_true (by first | (with_reducible assumption) | assumption)
              have hx6 := bt_at a0 x7_1
              replace p6 := eq_true p6
              replace q6 := eq_true q6
              go_wp2
              go_roundg k1
              case measure => have := HK1.out; omega
              case rel => exact ⟨(wrap64 (x5_1 + 1)), (1), (wrap64 (x7_1 + 1)), (by first | rfl | (simp; done) | (simp [*]; done)), (by first | rfl | (simp; done) | (simp [*]; done)), (by first | rfl | (simp; done) | (simp [*]; done)), H', ⟨by have := HK1.out; omega⟩, ⟨by repeat (first | (with_reducible first | exact HB.out | apply below_alloc | apply pw_below_drewN | apply below_drew1) | exact HB.out)⟩⟩
            · rw [if_neg c7] at H
              have c7b0 : ((bt a0 x7_1) == 10) = false := beq_eq_false_iff_ne.mpr c7
              have c7b1 : ((bt a0 x7_1) != 10) = true := bne_iff_ne.mpr c7
              have H' := Aside0.mk H
              clear H
              have p6 : 0 ≤ (x7_1 : Int) := of_decide_eq_true (by first | (with_reducible assumption) | assumption)
              have q6 : x7_1 < (a0.size : Int) := of_decide_eq_true (by first | (with_reducible assumption) | assumption)
              have hx6 := bt_at a0 x7_1
              replace p6 := eq_true p6
              replace q6 := eq_true q6
              go_wp2
              go_roundg k1
              case measure => have := HK1.out; omega
              case rel => exact ⟨(x5_1), (wrap64 (x6_1 + 1)), (wrap64 (x7_1 + 1)), (by first | rfl | (simp; done) | (simp [*]; done)), (by first | rfl | (simp; done) | (simp [*]; done)), (by first | rfl | (simp; done) | (simp [*]; done)), H', ⟨by have := HK1.out; omega⟩, ⟨by repeat (first | (with_reducible first | exact HB.out | apply below_alloc | apply pw_below_drewN | apply below_drew1) | exact HB.out)⟩⟩
          · rw [if_neg c5] at H
            exact absurd H (by simp)
        · rw [if_neg c4] at H
          exact absurd H (by simp)
      · rw [if_neg c3] at H
        have c3b0 : decide (x7_1 < a1) = false := decide_eq_false c3
        clear c3
        replace H := Option.bind_eq_some_iff.mp H
        obtain ⟨t358, A80, H⟩ := H
        replace H : (if t358.size + 1 ≤ 9223372036854775807 then ((scholiastref20_digits.f k1 x6_1).bind fun t359 => (if (t358 ++ (⟨#[58]⟩ : ByteArray)).size + t359.size ≤ 9223372036854775807 then (some ((t358 ++ (⟨#[58]⟩ : ByteArray)) ++ t359)) else (none))) else (none)) = some r := H
        have A8 := Aside0.mk A80
        clear A80
        by_cases c9 : t358.size + 1 ≤ 9223372036854775807
        · rw [if_pos c9] at H
          have c9b0 := eq_true c9
          have c9b1 : decide (t358.size + 1 ≤ 9223372036854775807) = true := decide_eq_true c9
          try have c9b2 : (9223372036854775807 < t358.size + 1) = False := eq_false (Nat.not_lt.2 c9)
          replace H := Option.bind_eq_some_iff.mp H
          obtain ⟨t359, A100, H⟩ := H
          replace H : (if (t358 ++ (⟨#[58]⟩ : ByteArray)).size + t359.size ≤ 9223372036854775807 then (some ((t358 ++ (⟨#[58]⟩ : ByteArray)) ++ t359)) else (none)) = some r := H
          have A10 := Aside0.mk A100
          clear A100
          by_cases c11 : (t358 ++ (⟨#[58]⟩ : ByteArray)).size + t359.size ≤ 9223372036854775807
          · rw [if_pos c11] at H
            have c11b0 := eq_true c11
            have c11b1 : decide ((t358 ++ (⟨#[58]⟩ : ByteArray)).size + t359.size ≤ 9223372036854775807) = true := decide_eq_true c11
            try (have c11b3 : (9223372036854775807 < t358.size + 1 + t359.size) = False := by (refine eq_false (Nat.not_lt.2 ?_); have hh_ := c11; simp only [ByteArray.size_append, ByteArray.size_extract] at hh_; (try rw [show (⟨#[58]⟩ : ByteArray).size = 1 from rfl] at hh_); omega))
            try have c11b2 : (9223372036854775807 < (t358 ++ (⟨#[58]⟩ : ByteArray)).size + t359.size) = False := eq_false (Nat.not_lt.2 c11)
            obtain rfl := Option.some.inj H
            go_wp2_with (first | ((with_reducible refine gate_callee (f := 67) rfl ?_); refine goesL_ (some 22) rfl rfl Tryd.func67 (by kernel_rfl) rfl #[.int .i64 x5_1] rfl (by (try simp only [List.map_toArray, List.map_cons, List.map_nil]); first | done | rfl | (simp only [List.length_drop, List.length_take]; rfl)) ?_; (with_reducible refine (scholiastref20_digits.calls k1 x5_1 t358 _ A8.out).mono ?_); rintro e w12 ⟨rfl, hb⟩; refine ⟨_, rfl, ?_⟩; have n0_ := Aside0.mk (below_step (by repeat (first | (with_reducible first | exact HB.out | apply below_alloc | apply pw_below_drewN | apply below_drew1) | exact HB.out)) hb); clear HB; have HB := n0_; clear n0_; (try clear hb); (try clear hb2); (try clear hk); (try clear hi)) | ((with_reducible refine gate_callee (f := 67) rfl ?_); refine goesL_ (some 25) rfl rfl Tryd.func67 (by kernel_rfl) rfl #[.int .i64 x6_1] rfl (by (try simp only [List.map_toArray, List.map_cons, List.map_nil]); first | done | rfl | (simp only [List.length_drop, List.length_take]; rfl)) ?_; (with_reducible refine (scholiastref20_digits.calls k1 x6_1 t359 _ A10.out).mono ?_); rintro e w13 ⟨rfl, hb⟩; refine ⟨_, rfl, ?_⟩; have n0_ := Aside0.mk (below_step (by repeat (first | (with_reducible first | exact HB.out | apply below_alloc | apply pw_below_drewN | apply below_drew1) | exact HB.out)) hb); clear HB; have HB := n0_; clear n0_; (try clear hb); (try clear hb2); (try clear hk); (try clear hi)))
            go_ret
            exact ⟨by first | rfl | (simp [errW_none, errW_some] <;> rfl) | (simp [*, errW_none, errW_some] <;> rfl), by repeat (first | (with_reducible first | exact HB.out | apply below_alloc | apply pw_below_drewN | apply below_drew1) | exact HB.out)⟩
          · rw [if_neg c11] at H
            exact absurd H (by simp)
        · rw [if_neg c9] at H
          exact absurd H (by simp)

end Go.Proofs.YtcbimnmpdpkefaaDoor.A
