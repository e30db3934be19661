/- Printed by a changed copy of the kit's print.py for all laws of the seat at once (one namespace): functions and their contracts; some parts by hand. -/
import Derived.Test.YtcbimnmpdpkefaaDoorAx0
import Derived.Test.YtcbimnmpdpkefaaDoorAx11
import Derived.Test.YtcbimnmpdpkefaaDoorAx12
import Derived.Test.YtcbimnmpdpkefaaDoorAx13
namespace Go.Proofs.YtcbimnmpdpkefaaDoor.A
open Go.RowKit Go.Proofs.YtcbimnmpdpkefaaDoorW.PrintWords Go.Proofs.YtcbimnmpdpkefaaDoorW.PrintLast Go.Proofs.YtcbimnmpdpkefaaDoorW.PrintMore
attribute [local go_sem] max2_int min2_int max_two min_two max_three min_three max_four min_four   -- for this text's walks alone
set_option linter.unusedVariables false
set_option linter.unusedSimpArgs false

/-! ### diag_Name: function 16 -/
def diag_Name.f (a0 : Int) : Option (ByteArray) := (diag_early.f a0).bind fun t128 => ((diag_late.f a0).bind fun t129 => (if t128.size + t129.size ≤ 9223372036854775807 then ((diag_typed.f a0).bind fun t130 => (if (t128 ++ t129).size + t130.size ≤ 9223372036854775807 then (some ((t128 ++ t129) ++ t130)) else (none))) else (none)))
set_option maxHeartbeats 8000000 in
set_option maxRecDepth 100000 in
theorem diag_Name.calls (a0 : Int) (r : ByteArray) (w : World) (h : diag_Name.f a0 = some r) :
    Calls Tryd.prog 16 #[.int .i64 a0] w fun e w' => e = .returned (.string r) ∧ Drawn0 w w' := by
  have H : ((diag_early.f a0).bind fun t128 => ((diag_late.f a0).bind fun t129 => (if t128.size + t129.size ≤ 9223372036854775807 then ((diag_typed.f a0).bind fun t130 => (if (t128 ++ t129).size + t130.size ≤ 9223372036854775807 then (some ((t128 ++ t129) ++ t130)) else (none))) else (none)))) = some r := h
  clear h
  replace H := Option.bind_eq_some_iff.mp H
  obtain ⟨t128, A20, H⟩ := H
  replace H : ((diag_late.f a0).bind fun t129 => (if t128.size + t129.size ≤ 9223372036854775807 then ((diag_typed.f a0).bind fun t130 => (if (t128 ++ t129).size + t130.size ≤ 9223372036854775807 then (some ((t128 ++ t129) ++ t130)) else (none))) else (none))) = some r := H
  have A2 := Aside0.mk A20
  clear A20
  replace H := Option.bind_eq_some_iff.mp H
  obtain ⟨t129, A30, H⟩ := H
  replace H : (if t128.size + t129.size ≤ 9223372036854775807 then ((diag_typed.f a0).bind fun t130 => (if (t128 ++ t129).size + t130.size ≤ 9223372036854775807 then (some ((t128 ++ t129) ++ t130)) else (none))) else (none)) = some r := H
  have A3 := Aside0.mk A30
  clear A30
  by_cases c4 : t128.size + t129.size ≤ 9223372036854775807
  · rw [if_pos c4] at H
    have c4b0 := eq_true c4
    have c4b1 : decide (t128.size + t129.size ≤ 9223372036854775807) = true := decide_eq_true c4
    try have c4b2 : (9223372036854775807 < t128.size + t129.size) = False := eq_false (Nat.not_lt.2 c4)
    replace H := Option.bind_eq_some_iff.mp H
    obtain ⟨t130, A50, H⟩ := H
    replace H : (if (t128 ++ t129).size + t130.size ≤ 9223372036854775807 then (some ((t128 ++ t129) ++ t130)) else (none)) = some r := H
    have A5 := Aside0.mk A50
    clear A50
    by_cases c6 : (t128 ++ t129).size + t130.size ≤ 9223372036854775807
    · rw [if_pos c6] at H
      have c6b0 := eq_true c6
      have c6b1 : decide ((t128 ++ t129).size + t130.size ≤ 9223372036854775807) = true := decide_eq_true c6
      try (have c6b3 : (9223372036854775807 < t128.size + t129.size + t130.size) = False := by (refine eq_false (Nat.not_lt.2 ?_); have hh_ := c6; simp only [ByteArray.size_append, ByteArray.size_extract] at hh_; omega))
      try have c6b2 : (9223372036854775807 < (t128 ++ t129).size + t130.size) = False := eq_false (Nat.not_lt.2 c6)
      obtain rfl := Option.some.inj H
      go_enter Tryd.func16, Tryd.ntmps16
      go_wp2_with (first | ((with_reducible refine gate_callee (f := 39) rfl ?_); refine goesL_ (some 4) rfl rfl Tryd.func39 (by kernel_rfl) rfl #[.int .i64 a0] rfl (by (try simp only [List.map_toArray, List.map_cons, List.map_nil]); first | done | rfl | (simp only [List.length_drop, List.length_take]; rfl)) ?_; (with_reducible refine (diag_early.calls a0 t128 _ A2.out).mono ?_); rintro e w' ⟨rfl, ⟨nd, rfl⟩⟩; refine ⟨_, rfl, ?_⟩) | ((with_reducible refine gate_callee (f := 40) rfl ?_); refine goesL_ (some 6) rfl rfl Tryd.func40 (by kernel_rfl) rfl #[.int .i64 a0] rfl (by (try simp only [List.map_toArray, List.map_cons, List.map_nil]); first | done | rfl | (simp only [List.length_drop, List.length_take]; rfl)) ?_; (with_reducible refine (diag_late.calls a0 t129 _ A3.out).mono ?_); rintro e w' ⟨rfl, ⟨nd, rfl⟩⟩; refine ⟨_, rfl, ?_⟩) | ((with_reducible refine gate_callee (f := 41) rfl ?_); refine goesL_ (some 9) rfl rfl Tryd.func41 (by kernel_rfl) rfl #[.int .i64 a0] rfl (by (try simp only [List.map_toArray, List.map_cons, List.map_nil]); first | done | rfl | (simp only [List.length_drop, List.length_take]; rfl)) ?_; (with_reducible refine (diag_typed.calls a0 t130 _ A5.out).mono ?_); rintro e w' ⟨rfl, ⟨nd, rfl⟩⟩; refine ⟨_, rfl, ?_⟩))
      go_ret
      exact ⟨by first | rfl | (simp; done) | (simp [*]; done), by repeat (first | exact Drawn0.refl _ | apply Drawn0.step)⟩
    · rw [if_neg c6] at H
      exact absurd H (by simp)
  · rw [if_neg c4] at H
    exact absurd H (by simp)

end Go.Proofs.YtcbimnmpdpkefaaDoor.A
