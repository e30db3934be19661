/- Printed by a changed copy of the kit's print.py for all laws of the seat at once (one namespace): functions and their contracts; some parts by hand. -/
import Derived.Test.YtcbimnmpdpkefaaDoorAx0
import Derived.Test.YtcbimnmpdpkefaaDoorAx2
import Derived.Test.YtcbimnmpdpkefaaDoorAx5
import Derived.Test.YtcbimnmpdpkefaaDoorAx8
namespace Go.Proofs.YtcbimnmpdpkefaaDoor.A
open Go.RowKit Go.Proofs.YtcbimnmpdpkefaaDoorW.PrintWords Go.Proofs.YtcbimnmpdpkefaaDoorW.PrintLast Go.Proofs.YtcbimnmpdpkefaaDoorW.PrintMore
attribute [local go_sem] max2_int min2_int max_two min_two max_three min_three max_four min_four   -- for this text's walks alone
set_option linter.unusedVariables false
set_option linter.unusedSimpArgs false

/-! ### scholiastlaw01_TextChecks: function 3 -/
def scholiastlaw01_TextChecks.f (k : Nat) (a0 : ByteArray) : Option (Bool) := if (a0.size : Int) > 1073741824 then (some true) else ((text_Check.f k a0).bind fun t121 => ((scholiastref01_Check.f k a0).bind fun t124 => ((scholiastlaw01_sameDiags.f k t121 t124).bind fun t127 => (some t127))))
theorem scholiastlaw01_TextChecks.mono : ∀ a0 k, LeO (scholiastlaw01_TextChecks.f k a0) (scholiastlaw01_TextChecks.f (k + 1) a0) := by
  intro a0 k
  unfold scholiastlaw01_TextChecks.f
  repeat' first
      | (with_reducible exact scholiastlaw01_sameDiags.mono _ _ _)
      | (with_reducible exact scholiastref01_Check.mono _ _)
      | (with_reducible exact text_Check.mono _ _)
      | (with_reducible exact LeO.refl _)
      | (with_reducible exact LeO.none _)
      | (with_reducible refine LeO.ite ?_ ?_)
      | (with_reducible refine LeO.bind ?_ (fun _ => ?_))
      | exact scholiastlaw01_sameDiags.mono _ _ _
      | exact scholiastref01_Check.mono _ _
      | exact text_Check.mono _ _
      | exact LeO.none _
      | refine LeO.ite ?_ ?_
      | refine LeO.bind ?_ (fun _ => ?_)
set_option maxHeartbeats 8000000 in
set_option maxRecDepth 100000 in
theorem scholiastlaw01_TextChecks.calls (k : Nat) (a0 : ByteArray) (r : Bool) (w : World) (hG : GlobU w) (h : scholiastlaw01_TextChecks.f k a0 = some r) :
    Calls Tryd.prog 3 #[.string a0] w fun e w' => e = .returned (.bool r) ∧ Below w.heap.size w w' := by
  have HB := Aside0.mk (Below.refl w.heap.size w)
  have HGL := Aside0.mk hG
  clear hG
  have H : (if (a0.size : Int) > 1073741824 then (some true) else ((text_Check.f k a0).bind fun t121 => ((scholiastref01_Check.f k a0).bind fun t124 => ((scholiastlaw01_sameDiags.f k t121 t124).bind fun t127 => (some t127))))) = some r := h
  clear h
  by_cases c2 : (a0.size : Int) > 1073741824
  · rw [if_pos c2] at H
    have c2b0 : decide (1073741824 < (a0.size : Int)) = true := decide_eq_true c2
    have c2b1 : decide (1073741824 < a0.size) = true := decide_eq_true (by omega)
    clear c2
    obtain rfl := Option.some.inj H
    go_enter Tryd.func3, Tryd.ntmps3
    go_wp2
    go_ret
    exact ⟨by first | rfl | (simp [errW_none, errW_some] <;> rfl) | (simp [*, errW_none, errW_some] <;> rfl), by repeat (first | (with_reducible first | exact HB.out | apply below_alloc | apply pw_below_drewN | apply below_drew1) | exact HB.out)⟩
  · rw [if_neg c2] at H
    have c2b0 : decide (1073741824 < (a0.size : Int)) = false := decide_eq_false c2
    have c2b1 : decide (1073741824 < a0.size) = false := decide_eq_false (by omega)
    clear c2
    replace H := Option.bind_eq_some_iff.mp H
    obtain ⟨t121, A30, H⟩ := H
    replace H : ((scholiastref01_Check.f k a0).bind fun t124 => ((scholiastlaw01_sameDiags.f k t121 t124).bind fun t127 => (some t127))) = some r := H
    have A3 := Aside0.mk A30
    clear A30
    replace H := Option.bind_eq_some_iff.mp H
    obtain ⟨t124, A40, H⟩ := H
    replace H : ((scholiastlaw01_sameDiags.f k t121 t124).bind fun t127 => (some t127)) = some r := H
    have A4 := Aside0.mk A40
    clear A40
    replace H := Option.bind_eq_some_iff.mp H
    obtain ⟨t127, A50, H⟩ := H
    replace H : (some t127) = some r := H
    have A5 := Aside0.mk A50
    clear A50
    obtain rfl := Option.some.inj H
    go_enter Tryd.func3, Tryd.ntmps3
    go_wp2_with (first | ((with_reducible refine gate_callee (f := 13) rfl ?_); refine goesL_ (some 7) rfl rfl Tryd.func13 (by kernel_rfl) rfl #[.string a0] rfl (by (try simp only [List.map_toArray, List.map_cons, List.map_nil]); first | done | rfl | (simp only [List.length_drop, List.length_take]; rfl)) ?_; (with_reducible refine (text_Check.calls k a0 t121 _ (GlobU.below HGL.out (by repeat (first | (with_reducible first | exact HB.out | apply below_alloc | apply pw_below_drewN | apply below_drew1) | exact HB.out))) A3.out).mono ?_); rintro e w6 ⟨v122, rfl, ho0, hb⟩; refine ⟨_, rfl, ?_⟩; have n0_ := Aside0.mk (Kd.R_lower ho0 (below_size (by repeat (first | (with_reducible first | exact HB.out | apply below_alloc | apply pw_below_drewN | apply below_drew1) | exact HB.out)))); have n1_ := Aside0.mk (below_step (by repeat (first | (with_reducible first | exact HB.out | apply below_alloc | apply pw_below_drewN | apply below_drew1) | exact HB.out)) hb); clear HB; have HO123 := n0_; have HB := n1_; clear n0_ n1_; (try clear hb); (try clear hb2); (try clear hk); (try clear hi); (try clear ho0)) | ((with_reducible refine gate_callee (f := 14) rfl ?_); refine goesL_ (some 9) rfl rfl Tryd.func14 (by kernel_rfl) rfl #[.string a0] rfl (by (try simp only [List.map_toArray, List.map_cons, List.map_nil]); first | done | rfl | (simp only [List.length_drop, List.length_take]; rfl)) ?_; (with_reducible refine (scholiastref01_Check.calls k a0 t124 _ A4.out).mono ?_); rintro e w7 ⟨v125, rfl, ho0, hb⟩; refine ⟨_, rfl, ?_⟩; have n0_ := Aside0.mk (Kd.R_elder' (by (with_reducible repeat (first | apply Kd.R_alloc | apply Kd.R_drewN | apply Kd.R_drew)); exact HO123.out) (Kd.R_base ho0) hb); have n1_ := Aside0.mk (Kd.R_lower (Kd.R_new' ho0 (Kd.R_lt (by (with_reducible repeat (first | apply Kd.R_alloc | apply Kd.R_drewN | apply Kd.R_drew)); exact HO123.out))) (below_size (by repeat (first | (with_reducible first | exact HB.out | apply below_alloc | apply pw_below_drewN | apply below_drew1) | exact HB.out)))); have n2_ := Aside0.mk (below_step (by repeat (first | (with_reducible first | exact HB.out | apply below_alloc | apply pw_below_drewN | apply below_drew1) | exact HB.out)) hb); clear HO123; clear HB; have HO123 := n0_; have HO126 := n1_; have HB := n2_; clear n0_ n1_ n2_; (try clear hb); (try clear hb2); (try clear hk); (try clear hi); (try clear ho0); obtain ⟨Ao8, co8, eo8⟩ := Kd.R_slice HO123.out; subst eo8; obtain ⟨Ao9, co9, eo9⟩ := Kd.R_slice HO126.out; subst eo9) | ((with_reducible refine gate_callee (f := 12) rfl ?_); refine goesL_ (some 10) rfl rfl Tryd.func12 (by kernel_rfl) rfl #[.slice Ao8 t121.length co8, .slice Ao9 t124.length co9] rfl (by (try simp only [List.map_toArray, List.map_cons, List.map_nil]); first | done | rfl | (simp only [List.length_drop, List.length_take]; rfl)) ?_; (with_reducible refine (scholiastlaw01_sameDiags.calls k _ _ t121 _ _ t124 t127 _ ?side1 ?side2 ?side3 ?side4 A5.out).mono ?_); (case side1 => repeat (first | exact (Kd.R_reads' HO123.out).2.2 | (with_reducible refine Kd.C_alloc ?_ _) | (with_reducible refine Kd.C_drewN ?_ _) | (with_reducible refine Kd.C_drew ?_))); (case side2 => exact (Kd.R_reads' HO123.out).2.1); (case side3 => repeat (first | exact (Kd.R_reads' HO126.out).2.2 | (with_reducible refine Kd.C_alloc ?_ _) | (with_reducible refine Kd.C_drewN ?_ _) | (with_reducible refine Kd.C_drew ?_))); (case side4 => exact (Kd.R_reads' HO126.out).2.1); rintro e w' ⟨rfl, ⟨nd, rfl⟩⟩; refine ⟨_, rfl, ?_⟩))
    go_ret
    exact ⟨by first | rfl | (simp [errW_none, errW_some] <;> rfl) | (simp [*, errW_none, errW_some] <;> rfl), by repeat (first | (with_reducible first | exact HB.out | apply below_alloc | apply pw_below_drewN | apply below_drew1) | exact HB.out)⟩

end Go.Proofs.YtcbimnmpdpkefaaDoor.A
