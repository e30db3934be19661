/- Printed by a changed copy of the kit's print.py for all laws of the seat at once (one namespace): functions and their contracts; some parts by hand. -/
import Derived.Test.YtcbimnmpdpkefaaDoorAx0
namespace Go.Proofs.YtcbimnmpdpkefaaDoor.A
open Go.RowKit Go.Proofs.YtcbimnmpdpkefaaDoorW.PrintWords Go.Proofs.YtcbimnmpdpkefaaDoorW.PrintLast Go.Proofs.YtcbimnmpdpkefaaDoorW.PrintMore
attribute [local go_sem] max2_int min2_int max_two min_two max_three min_three max_four min_four   -- for this text's walks alone
set_option linter.unusedVariables false
set_option linter.unusedSimpArgs false

/-! ### diag_early: function 39 -/
def diag_early.f (a0 : Int) : Option (ByteArray) := if a0 = 101 then (some (⟨#[98, 121, 116, 101, 115, 32, 116, 104, 97, 116, 32, 97, 114, 101, 32, 110, 111, 32, 85, 84, 70, 45, 56]⟩ : ByteArray)) else (if a0 = 102 then (some (⟨#[97, 32, 98, 121, 116, 101, 32, 48]⟩ : ByteArray)) else (if a0 = 103 then (some (⟨#[97, 32, 98, 121, 116, 101, 32, 111, 114, 100, 101, 114, 32, 109, 97, 114, 107]⟩ : ByteArray)) else (if a0 = 104 then (some (⟨#[97, 32, 99, 104, 97, 114, 97, 99, 116, 101, 114, 32, 111, 102, 32, 110, 111, 32, 116, 111, 107, 101, 110]⟩ : ByteArray)) else (if a0 = 105 then (some (⟨#[97, 32, 99, 111, 109, 109, 101, 110, 116, 32, 119, 105, 116, 104, 111, 117, 116, 32, 97, 110, 32, 101, 110, 100]⟩ : ByteArray)) else (if a0 = 106 then (some (⟨#[97, 32, 116, 101, 120, 116, 32, 119, 105, 116, 104, 111, 117, 116, 32, 97, 110, 32, 101, 110, 100]⟩ : ByteArray)) else (if a0 = 107 then (some (⟨#[110, 111, 32, 114, 117, 110, 101]⟩ : ByteArray)) else (if a0 = 108 then (some (⟨#[110, 111, 32, 101, 115, 99, 97, 112, 101]⟩ : ByteArray)) else (if a0 = 109 then (some (⟨#[110, 111, 32, 110, 117, 109, 98, 101, 114]⟩ : ByteArray)) else (if a0 = 201 then (some (⟨#[115, 121, 110, 116, 97, 120]⟩ : ByteArray)) else (if a0 = 202 then (some (⟨#[116, 111, 111, 32, 100, 101, 101, 112]⟩ : ByteArray)) else (if a0 = 203 then (some (⟨#[112, 97, 99, 107, 97, 103, 101, 32, 99, 108, 97, 117, 115, 101]⟩ : ByteArray)) else (if a0 = 204 then (some (⟨#[97, 110, 32, 105, 109, 112, 111, 114, 116, 32, 98, 101, 104, 105, 110, 100, 32, 97, 32, 100, 101, 99, 108, 97, 114, 97, 116, 105, 111, 110]⟩ : ByteArray)) else (if a0 = 301 then (some (⟨#[110, 111, 32, 115, 117, 99, 104, 32, 112, 97, 99, 107, 97, 103, 101]⟩ : ByteArray)) else (if a0 = 302 then (some (⟨#[97, 110, 32, 105, 109, 112, 111, 114, 116, 32, 105, 110, 32, 97, 32, 114, 105, 110, 103]⟩ : ByteArray)) else (if a0 = 303 then (some (⟨#[97, 110, 111, 116, 104, 101, 114, 32, 112, 97, 99, 107, 97, 103, 101, 32, 110, 97, 109, 101]⟩ : ByteArray)) else (if a0 = 304 then (some (⟨#[97, 110, 32, 105, 109, 112, 111, 114, 116, 32, 111, 102, 32, 97, 32, 112, 97, 99, 107, 97, 103, 101, 32, 119, 105, 116, 104, 32, 101, 114, 114, 111, 114, 115]⟩ : ByteArray)) else (some (⟨#[]⟩ : ByteArray))))))))))))))))))
set_option maxHeartbeats 8000000 in
set_option maxRecDepth 100000 in
theorem diag_early.calls (a0 : Int) (r : ByteArray) (w : World) (h : diag_early.f a0 = some r) :
    Calls Tryd.prog 39 #[.int .i64 a0] w fun e w' => e = .returned (.string r) ∧ Drawn0 w w' := by
  have H : (if a0 = 101 then (some (⟨#[98, 121, 116, 101, 115, 32, 116, 104, 97, 116, 32, 97, 114, 101, 32, 110, 111, 32, 85, 84, 70, 45, 56]⟩ : ByteArray)) else (if a0 = 102 then (some (⟨#[97, 32, 98, 121, 116, 101, 32, 48]⟩ : ByteArray)) else (if a0 = 103 then (some (⟨#[97, 32, 98, 121, 116, 101, 32, 111, 114, 100, 101, 114, 32, 109, 97, 114, 107]⟩ : ByteArray)) else (if a0 = 104 then (some (⟨#[97, 32, 99, 104, 97, 114, 97, 99, 116, 101, 114, 32, 111, 102, 32, 110, 111, 32, 116, 111, 107, 101, 110]⟩ : ByteArray)) else (if a0 = 105 then (some (⟨#[97, 32, 99, 111, 109, 109, 101, 110, 116, 32, 119, 105, 116, 104, 111, 117, 116, 32, 97, 110, 32, 101, 110, 100]⟩ : ByteArray)) else (if a0 = 106 then (some (⟨#[97, 32, 116, 101, 120, 116, 32, 119, 105, 116, 104, 111, 117, 116, 32, 97, 110, 32, 101, 110, 100]⟩ : ByteArray)) else (if a0 = 107 then (some (⟨#[110, 111, 32, 114, 117, 110, 101]⟩ : ByteArray)) else (if a0 = 108 then (some (⟨#[110, 111, 32, 101, 115, 99, 97, 112, 101]⟩ : ByteArray)) else (if a0 = 109 then (some (⟨#[110, 111, 32, 110, 117, 109, 98, 101, 114]⟩ : ByteArray)) else (if a0 = 201 then (some (⟨#[115, 121, 110, 116, 97, 120]⟩ : ByteArray)) else (if a0 = 202 then (some (⟨#[116, 111, 111, 32, 100, 101, 101, 112]⟩ : ByteArray)) else (if a0 = 203 then (some (⟨#[112, 97, 99, 107, 97, 103, 101, 32, 99, 108, 97, 117, 115, 101]⟩ : ByteArray)) else (if a0 = 204 then (some (⟨#[97, 110, 32, 105, 109, 112, 111, 114, 116, 32, 98, 101, 104, 105, 110, 100, 32, 97, 32, 100, 101, 99, 108, 97, 114, 97, 116, 105, 111, 110]⟩ : ByteArray)) else (if a0 = 301 then (some (⟨#[110, 111, 32, 115, 117, 99, 104, 32, 112, 97, 99, 107, 97, 103, 101]⟩ : ByteArray)) else (if a0 = 302 then (some (⟨#[97, 110, 32, 105, 109, 112, 111, 114, 116, 32, 105, 110, 32, 97, 32, 114, 105, 110, 103]⟩ : ByteArray)) else (if a0 = 303 then (some (⟨#[97, 110, 111, 116, 104, 101, 114, 32, 112, 97, 99, 107, 97, 103, 101, 32, 110, 97, 109, 101]⟩ : ByteArray)) else (if a0 = 304 then (some (⟨#[97, 110, 32, 105, 109, 112, 111, 114, 116, 32, 111, 102, 32, 97, 32, 112, 97, 99, 107, 97, 103, 101, 32, 119, 105, 116, 104, 32, 101, 114, 114, 111, 114, 115]⟩ : ByteArray)) else (some (⟨#[]⟩ : ByteArray))))))))))))))))))) = some r := h
  clear h
  by_cases c2 : a0 = 101
  · rw [if_pos c2] at H
    have c2b0 : (a0 == 101) = true := beq_iff_eq.mpr c2
    have c2b1 : (a0 != 101) = false := bne_eq_false_iff_eq.mpr c2
    clear c2
    obtain rfl := Option.some.inj H
    go_enter Tryd.func39, Tryd.ntmps39
    go_wp2
    go_ret
    exact ⟨by first | rfl | (simp; done) | (simp [*]; done), by repeat (first | exact Drawn0.refl _ | apply Drawn0.step)⟩
  · rw [if_neg c2] at H
    have c2b0 : (a0 == 101) = false := beq_eq_false_iff_ne.mpr c2
    have c2b1 : (a0 != 101) = true := bne_iff_ne.mpr c2
    by_cases c3 : a0 = 102
    · rw [if_pos c3] at H
      have c3b0 : (a0 == 102) = true := beq_iff_eq.mpr c3
      have c3b1 : (a0 != 102) = false := bne_eq_false_iff_eq.mpr c3
      clear c3
      obtain rfl := Option.some.inj H
      go_enter Tryd.func39, Tryd.ntmps39
      go_wp2
      go_ret
      exact ⟨by first | rfl | (simp; done) | (simp [*]; done), by repeat (first | exact Drawn0.refl _ | apply Drawn0.step)⟩
    · rw [if_neg c3] at H
      have c3b0 : (a0 == 102) = false := beq_eq_false_iff_ne.mpr c3
      have c3b1 : (a0 != 102) = true := bne_iff_ne.mpr c3
      by_cases c4 : a0 = 103
      · rw [if_pos c4] at H
        have c4b0 : (a0 == 103) = true := beq_iff_eq.mpr c4
        have c4b1 : (a0 != 103) = false := bne_eq_false_iff_eq.mpr c4
        clear c4
        obtain rfl := Option.some.inj H
        go_enter Tryd.func39, Tryd.ntmps39
        go_wp2
        go_ret
        exact ⟨by first | rfl | (simp; done) | (simp [*]; done), by repeat (first | exact Drawn0.refl _ | apply Drawn0.step)⟩
      · rw [if_neg c4] at H
        have c4b0 : (a0 == 103) = false := beq_eq_false_iff_ne.mpr c4
        have c4b1 : (a0 != 103) = true := bne_iff_ne.mpr c4
        by_cases c5 : a0 = 104
        · rw [if_pos c5] at H
          have c5b0 : (a0 == 104) = true := beq_iff_eq.mpr c5
          have c5b1 : (a0 != 104) = false := bne_eq_false_iff_eq.mpr c5
          clear c5
          obtain rfl := Option.some.inj H
          go_enter Tryd.func39, Tryd.ntmps39
          go_wp2
          go_ret
          exact ⟨by first | rfl | (simp; done) | (simp [*]; done), by repeat (first | exact Drawn0.refl _ | apply Drawn0.step)⟩
        · rw [if_neg c5] at H
          have c5b0 : (a0 == 104) = false := beq_eq_false_iff_ne.mpr c5
          have c5b1 : (a0 != 104) = true := bne_iff_ne.mpr c5
          by_cases c6 : a0 = 105
          · rw [if_pos c6] at H
            have c6b0 : (a0 == 105) = true := beq_iff_eq.mpr c6
            have c6b1 : (a0 != 105) = false := bne_eq_false_iff_eq.mpr c6
            clear c6
            obtain rfl := Option.some.inj H
            go_enter Tryd.func39, Tryd.ntmps39
            go_wp2
            go_ret
            exact ⟨by first | rfl | (simp; done) | (simp [*]; done), by repeat (first | exact Drawn0.refl _ | apply Drawn0.step)⟩
          · rw [if_neg c6] at H
            have c6b0 : (a0 == 105) = false := beq_eq_false_iff_ne.mpr c6
            have c6b1 : (a0 != 105) = true := bne_iff_ne.mpr c6
            by_cases c7 : a0 = 106
            · rw [if_pos c7] at H
              have c7b0 : (a0 == 106) = true := beq_iff_eq.mpr c7
              have c7b1 : (a0 != 106) = false := bne_eq_false_iff_eq.mpr c7
              clear c7
              obtain rfl := Option.some.inj H
              go_enter Tryd.func39, Tryd.ntmps39
              go_wp2
              go_ret
              exact ⟨by first | rfl | (simp; done) | (simp [*]; done), by repeat (first | exact Drawn0.refl _ | apply Drawn0.step)⟩
            · rw [if_neg c7] at H
              have c7b0 : (a0 == 106) = false := beq_eq_false_iff_ne.mpr c7
              have c7b1 : (a0 != 106) = true := bne_iff_ne.mpr c7
              by_cases c8 : a0 = 107
              · rw [if_pos c8] at H
                have c8b0 : (a0 == 107) = true := beq_iff_eq.mpr c8
                have c8b1 : (a0 != 107) = false := bne_eq_false_iff_eq.mpr c8
                clear c8
                obtain rfl := Option.some.inj H
                go_enter Tryd.func39, Tryd.ntmps39
                go_wp2
                go_ret
                exact ⟨by first | rfl | (simp; done) | (simp [*]; done), by repeat (first | exact Drawn0.refl _ | apply Drawn0.step)⟩
              · rw [if_neg c8] at H
                have c8b0 : (a0 == 107) = false := beq_eq_false_iff_ne.mpr c8
                have c8b1 : (a0 != 107) = true := bne_iff_ne.mpr c8
                by_cases c9 : a0 = 108
                · rw [if_pos c9] at H
                  have c9b0 : (a0 == 108) = true := beq_iff_eq.mpr c9
                  have c9b1 : (a0 != 108) = false := bne_eq_false_iff_eq.mpr c9
                  clear c9
                  obtain rfl := Option.some.inj H
                  go_enter Tryd.func39, Tryd.ntmps39
                  go_wp2
                  go_ret
                  exact ⟨by first | rfl | (simp; done) | (simp [*]; done), by repeat (first | exact Drawn0.refl _ | apply Drawn0.step)⟩
                · rw [if_neg c9] at H
                  have c9b0 : (a0 == 108) = false := beq_eq_false_iff_ne.mpr c9
                  have c9b1 : (a0 != 108) = true := bne_iff_ne.mpr c9
                  by_cases c10 : a0 = 109
                  · rw [if_pos c10] at H
                    have c10b0 : (a0 == 109) = true := beq_iff_eq.mpr c10
                    have c10b1 : (a0 != 109) = false := bne_eq_false_iff_eq.mpr c10
                    clear c10
                    obtain rfl := Option.some.inj H
                    go_enter Tryd.func39, Tryd.ntmps39
                    go_wp2
                    go_ret
                    exact ⟨by first | rfl | (simp; done) | (simp [*]; done), by repeat (first | exact Drawn0.refl _ | apply Drawn0.step)⟩
                  · rw [if_neg c10] at H
                    have c10b0 : (a0 == 109) = false := beq_eq_false_iff_ne.mpr c10
                    have c10b1 : (a0 != 109) = true := bne_iff_ne.mpr c10
                    by_cases c11 : a0 = 201
                    · rw [if_pos c11] at H
                      have c11b0 : (a0 == 201) = true := beq_iff_eq.mpr c11
                      have c11b1 : (a0 != 201) = false := bne_eq_false_iff_eq.mpr c11
                      clear c11
                      obtain rfl := Option.some.inj H
                      go_enter Tryd.func39, Tryd.ntmps39
                      go_wp2
                      go_ret
                      exact ⟨by first | rfl | (simp; done) | (simp [*]; done), by repeat (first | exact Drawn0.refl _ | apply Drawn0.step)⟩
                    · rw [if_neg c11] at H
                      have c11b0 : (a0 == 201) = false := beq_eq_false_iff_ne.mpr c11
                      have c11b1 : (a0 != 201) = true := bne_iff_ne.mpr c11
                      by_cases c12 : a0 = 202
                      · rw [if_pos c12] at H
                        have c12b0 : (a0 == 202) = true := beq_iff_eq.mpr c12
                        have c12b1 : (a0 != 202) = false := bne_eq_false_iff_eq.mpr c12
                        clear c12
                        obtain rfl := Option.some.inj H
                        go_enter Tryd.func39, Tryd.ntmps39
                        go_wp2
                        go_ret
                        exact ⟨by first | rfl | (simp; done) | (simp [*]; done), by repeat (first | exact Drawn0.refl _ | apply Drawn0.step)⟩
                      · rw [if_neg c12] at H
                        have c12b0 : (a0 == 202) = false := beq_eq_false_iff_ne.mpr c12
                        have c12b1 : (a0 != 202) = true := bne_iff_ne.mpr c12
                        by_cases c13 : a0 = 203
                        · rw [if_pos c13] at H
                          have c13b0 : (a0 == 203) = true := beq_iff_eq.mpr c13
                          have c13b1 : (a0 != 203) = false := bne_eq_false_iff_eq.mpr c13
                          clear c13
                          obtain rfl := Option.some.inj H
                          go_enter Tryd.func39, Tryd.ntmps39
                          go_wp2
                          go_ret
                          exact ⟨by first | rfl | (simp; done) | (simp [*]; done), by repeat (first | exact Drawn0.refl _ | apply Drawn0.step)⟩
                        · rw [if_neg c13] at H
                          have c13b0 : (a0 == 203) = false := beq_eq_false_iff_ne.mpr c13
                          have c13b1 : (a0 != 203) = true := bne_iff_ne.mpr c13
                          by_cases c14 : a0 = 204
                          · rw [if_pos c14] at H
                            have c14b0 : (a0 == 204) = true := beq_iff_eq.mpr c14
                            have c14b1 : (a0 != 204) = false := bne_eq_false_iff_eq.mpr c14
                            clear c14
                            obtain rfl := Option.some.inj H
                            go_enter Tryd.func39, Tryd.ntmps39
                            go_wp2
                            go_ret
                            exact ⟨by first | rfl | (simp; done) | (simp [*]; done), by repeat (first | exact Drawn0.refl _ | apply Drawn0.step)⟩
                          · rw [if_neg c14] at H
                            have c14b0 : (a0 == 204) = false := beq_eq_false_iff_ne.mpr c14
                            have c14b1 : (a0 != 204) = true := bne_iff_ne.mpr c14
                            by_cases c15 : a0 = 301
                            · rw [if_pos c15] at H
                              have c15b0 : (a0 == 301) = true := beq_iff_eq.mpr c15
                              have c15b1 : (a0 != 301) = false := bne_eq_false_iff_eq.mpr c15
                              clear c15
                              obtain rfl := Option.some.inj H
                              go_enter Tryd.func39, Tryd.ntmps39
                              go_wp2
                              go_ret
                              exact ⟨by first | rfl | (simp; done) | (simp [*]; done), by repeat (first | exact Drawn0.refl _ | apply Drawn0.step)⟩
                            · rw [if_neg c15] at H
                              have c15b0 : (a0 == 301) = false := beq_eq_false_iff_ne.mpr c15
                              have c15b1 : (a0 != 301) = true := bne_iff_ne.mpr c15
                              by_cases c16 : a0 = 302
                              · rw [if_pos c16] at H
                                have c16b0 : (a0 == 302) = true := beq_iff_eq.mpr c16
                                have c16b1 : (a0 != 302) = false := bne_eq_false_iff_eq.mpr c16
                                clear c16
                                obtain rfl := Option.some.inj H
                                go_enter Tryd.func39, Tryd.ntmps39
                                go_wp2
                                go_ret
                                exact ⟨by first | rfl | (simp; done) | (simp [*]; done), by repeat (first | exact Drawn0.refl _ | apply Drawn0.step)⟩
                              · rw [if_neg c16] at H
                                have c16b0 : (a0 == 302) = false := beq_eq_false_iff_ne.mpr c16
                                have c16b1 : (a0 != 302) = true := bne_iff_ne.mpr c16
                                by_cases c17 : a0 = 303
                                · rw [if_pos c17] at H
                                  have c17b0 : (a0 == 303) = true := beq_iff_eq.mpr c17
                                  have c17b1 : (a0 != 303) = false := bne_eq_false_iff_eq.mpr c17
                                  clear c17
                                  obtain rfl := Option.some.inj H
                                  go_enter Tryd.func39, Tryd.ntmps39
                                  go_wp2
                                  go_ret
                                  exact ⟨by first | rfl | (simp; done) | (simp [*]; done), by repeat (first | exact Drawn0.refl _ | apply Drawn0.step)⟩
                                · rw [if_neg c17] at H
                                  have c17b0 : (a0 == 303) = false := beq_eq_false_iff_ne.mpr c17
                                  have c17b1 : (a0 != 303) = true := bne_iff_ne.mpr c17
                                  by_cases c18 : a0 = 304
                                  · rw [if_pos c18] at H
                                    have c18b0 : (a0 == 304) = true := beq_iff_eq.mpr c18
                                    have c18b1 : (a0 != 304) = false := bne_eq_false_iff_eq.mpr c18
                                    clear c18
                                    obtain rfl := Option.some.inj H
                                    go_enter Tryd.func39, Tryd.ntmps39
                                    go_wp2
                                    go_ret
                                    exact ⟨by first | rfl | (simp; done) | (simp [*]; done), by repeat (first | exact Drawn0.refl _ | apply Drawn0.step)⟩
                                  · rw [if_neg c18] at H
                                    have c18b0 : (a0 == 304) = false := beq_eq_false_iff_ne.mpr c18
                                    have c18b1 : (a0 != 304) = true := bne_iff_ne.mpr c18
                                    obtain rfl := Option.some.inj H
                                    go_enter Tryd.func39, Tryd.ntmps39
                                    go_wp2
                                    go_ret
                                    exact ⟨by first | rfl | (simp; done) | (simp [*]; done), by repeat (first | exact Drawn0.refl _ | apply Drawn0.step)⟩

end Go.Proofs.YtcbimnmpdpkefaaDoor.A
