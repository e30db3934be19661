/- Printed by a changed copy of the kit's print.py for all laws of the seat at once (one namespace): functions and their contracts; some parts by hand. -/
import Derived.Test.YtcbimnmpdpkefaaDoorAx0
namespace Go.Proofs.YtcbimnmpdpkefaaDoor.A
open Go.RowKit Go.Proofs.YtcbimnmpdpkefaaDoorW.PrintWords Go.Proofs.YtcbimnmpdpkefaaDoorW.PrintLast Go.Proofs.YtcbimnmpdpkefaaDoorW.PrintMore
attribute [local go_sem] max2_int min2_int max_two min_two max_three min_three max_four min_four   -- for this text's walks alone
set_option linter.unusedVariables false
set_option linter.unusedSimpArgs false

/-! ### diag_typed: function 41 -/
def diag_typed.f (a0 : Int) : Option (ByteArray) := if a0 = 511 then (some (⟨#[110, 111, 32, 116, 121, 112, 101]⟩ : ByteArray)) else (if a0 = 512 then (some (⟨#[110, 111, 32, 118, 97, 108, 117, 101]⟩ : ByteArray)) else (if a0 = 513 then (some (⟨#[116, 121, 112, 101, 115, 32, 116, 104, 97, 116, 32, 100, 111, 32, 110, 111, 116, 32, 109, 97, 116, 99, 104]⟩ : ByteArray)) else (if a0 = 514 then (some (⟨#[110, 111, 32, 115, 117, 99, 104, 32, 111, 112, 101, 114, 97, 116, 111, 114]⟩ : ByteArray)) else (if a0 = 515 then (some (⟨#[119, 104, 97, 116, 32, 99, 97, 110, 32, 110, 111, 116, 32, 98, 101, 32, 97, 115, 115, 105, 103, 110, 101, 100, 32, 116, 111]⟩ : ByteArray)) else (if a0 = 516 then (some (⟨#[119, 104, 97, 116, 32, 99, 97, 110, 32, 110, 111, 116, 32, 98, 101, 32, 97, 115, 115, 105, 103, 110, 101, 100]⟩ : ByteArray)) else (if a0 = 517 then (some (⟨#[110, 111, 32, 102, 117, 110, 99, 116, 105, 111, 110]⟩ : ByteArray)) else (if a0 = 518 then (some (⟨#[97, 110, 111, 116, 104, 101, 114, 32, 110, 117, 109, 98, 101, 114]⟩ : ByteArray)) else (if a0 = 519 then (some (⟨#[110, 111, 32, 115, 117, 99, 104, 32, 102, 105, 101, 108, 100, 32, 111, 114, 32, 109, 101, 116, 104, 111, 100]⟩ : ByteArray)) else (if a0 = 520 then (some (⟨#[97, 110, 32, 105, 110, 100, 101, 120]⟩ : ByteArray)) else (if a0 = 521 then (some (⟨#[97, 32, 108, 105, 116, 101, 114, 97, 108]⟩ : ByteArray)) else (if a0 = 522 then (some (⟨#[97, 32, 99, 111, 110, 118, 101, 114, 115, 105, 111, 110]⟩ : ByteArray)) else (if a0 = 523 then (some (⟨#[97, 110, 32, 97, 115, 115, 101, 114, 116, 105, 111, 110]⟩ : ByteArray)) else (if a0 = 524 then (some (⟨#[97, 32, 98, 117, 105, 108, 116, 45, 105, 110, 32, 102, 117, 110, 99, 116, 105, 111, 110]⟩ : ByteArray)) else (if a0 = 525 then (some (⟨#[97, 32, 110, 105, 108, 32, 119, 105, 116, 104, 111, 117, 116, 32, 97, 32, 116, 121, 112, 101]⟩ : ByteArray)) else (if a0 = 526 then (some (⟨#[116, 121, 112, 101, 32, 97, 114, 103, 117, 109, 101, 110, 116, 115]⟩ : ByteArray)) else (if a0 = 527 then (some (⟨#[97, 32, 116, 121, 112, 101, 32, 97, 114, 103, 117, 109, 101, 110, 116, 32, 116, 104, 97, 116, 32, 99, 97, 110, 32, 110, 111, 116, 32, 98, 101, 32, 116, 111, 108, 100]⟩ : ByteArray)) else (if a0 = 528 then (some (⟨#[97, 32, 99, 111, 110, 115, 116, 114, 97, 105, 110, 116]⟩ : ByteArray)) else (if a0 = 529 then (some (⟨#[119, 104, 97, 116, 32, 99, 97, 110, 32, 110, 111, 116, 32, 98, 101, 32, 99, 111, 109, 112, 97, 114, 101, 100]⟩ : ByteArray)) else (if a0 = 530 then (some (⟨#[97, 32, 118, 97, 108, 117, 101, 32, 116, 104, 97, 116, 32, 105, 115, 32, 110, 111, 116, 32, 117, 115, 101, 100]⟩ : ByteArray)) else (if a0 = 541 then (some (⟨#[114, 101, 115, 117, 108, 116, 115]⟩ : ByteArray)) else (if a0 = 542 then (some (⟨#[97, 32, 99, 97, 115, 101]⟩ : ByteArray)) else (if a0 = 543 then (some (⟨#[97, 32, 106, 117, 109, 112]⟩ : ByteArray)) else (if a0 = 551 then (some (⟨#[97, 32, 116, 121, 112, 101, 32, 116, 104, 97, 116, 32, 99, 111, 110, 116, 97, 105, 110, 115, 32, 105, 116, 115, 101, 108, 102]⟩ : ByteArray)) else (if a0 = 552 then (some (⟨#[119, 104, 97, 116, 32, 110, 101, 101, 100, 115, 32, 105, 116, 115, 101, 108, 102]⟩ : ByteArray)) else (if a0 = 553 then (some (⟨#[97, 32, 114, 101, 99, 101, 105, 118, 101, 114]⟩ : ByteArray)) else (if a0 = 554 then (some (⟨#[97, 32, 109, 101, 116, 104, 111, 100, 32, 97, 103, 97, 105, 110]⟩ : ByteArray)) else (if a0 = 555 then (some (⟨#[105, 110, 105, 116, 32, 111, 114, 32, 109, 97, 105, 110]⟩ : ByteArray)) else (if a0 = 561 then (some (⟨#[97, 32, 108, 105, 109, 105, 116]⟩ : ByteArray)) else (some (⟨#[]⟩ : ByteArray))))))))))))))))))))))))))))))
set_option maxHeartbeats 8000000 in
set_option maxRecDepth 100000 in
theorem diag_typed.calls (a0 : Int) (r : ByteArray) (w : World) (h : diag_typed.f a0 = some r) :
    Calls Tryd.prog 41 #[.int .i64 a0] w fun e w' => e = .returned (.string r) ∧ Drawn0 w w' := by
  have H : (if a0 = 511 then (some (⟨#[110, 111, 32, 116, 121, 112, 101]⟩ : ByteArray)) else (if a0 = 512 then (some (⟨#[110, 111, 32, 118, 97, 108, 117, 101]⟩ : ByteArray)) else (if a0 = 513 then (some (⟨#[116, 121, 112, 101, 115, 32, 116, 104, 97, 116, 32, 100, 111, 32, 110, 111, 116, 32, 109, 97, 116, 99, 104]⟩ : ByteArray)) else (if a0 = 514 then (some (⟨#[110, 111, 32, 115, 117, 99, 104, 32, 111, 112, 101, 114, 97, 116, 111, 114]⟩ : ByteArray)) else (if a0 = 515 then (some (⟨#[119, 104, 97, 116, 32, 99, 97, 110, 32, 110, 111, 116, 32, 98, 101, 32, 97, 115, 115, 105, 103, 110, 101, 100, 32, 116, 111]⟩ : ByteArray)) else (if a0 = 516 then (some (⟨#[119, 104, 97, 116, 32, 99, 97, 110, 32, 110, 111, 116, 32, 98, 101, 32, 97, 115, 115, 105, 103, 110, 101, 100]⟩ : ByteArray)) else (if a0 = 517 then (some (⟨#[110, 111, 32, 102, 117, 110, 99, 116, 105, 111, 110]⟩ : ByteArray)) else (if a0 = 518 then (some (⟨#[97, 110, 111, 116, 104, 101, 114, 32, 110, 117, 109, 98, 101, 114]⟩ : ByteArray)) else (if a0 = 519 then (some (⟨#[110, 111, 32, 115, 117, 99, 104, 32, 102, 105, 101, 108, 100, 32, 111, 114, 32, 109, 101, 116, 104, 111, 100]⟩ : ByteArray)) else (if a0 = 520 then (some (⟨#[97, 110, 32, 105, 110, 100, 101, 120]⟩ : ByteArray)) else (if a0 = 521 then (some (⟨#[97, 32, 108, 105, 116, 101, 114, 97, 108]⟩ : ByteArray)) else (if a0 = 522 then (some (⟨#[97, 32, 99, 111, 110, 118, 101, 114, 115, 105, 111, 110]⟩ : ByteArray)) else (if a0 = 523 then (some (⟨#[97, 110, 32, 97, 115, 115, 101, 114, 116, 105, 111, 110]⟩ : ByteArray)) else (if a0 = 524 then (some (⟨#[97, 32, 98, 117, 105, 108, 116, 45, 105, 110, 32, 102, 117, 110, 99, 116, 105, 111, 110]⟩ : ByteArray)) else (if a0 = 525 then (some (⟨#[97, 32, 110, 105, 108, 32, 119, 105, 116, 104, 111, 117, 116, 32, 97, 32, 116, 121, 112, 101]⟩ : ByteArray)) else (if a0 = 526 then (some (⟨#[116, 121, 112, 101, 32, 97, 114, 103, 117, 109, 101, 110, 116, 115]⟩ : ByteArray)) else (if a0 = 527 then (some (⟨#[97, 32, 116, 121, 112, 101, 32, 97, 114, 103, 117, 109, 101, 110, 116, 32, 116, 104, 97, 116, 32, 99, 97, 110, 32, 110, 111, 116, 32, 98, 101, 32, 116, 111, 108, 100]⟩ : ByteArray)) else (if a0 = 528 then (some (⟨#[97, 32, 99, 111, 110, 115, 116, 114, 97, 105, 110, 116]⟩ : ByteArray)) else (if a0 = 529 then (some (⟨#[119, 104, 97, 116, 32, 99, 97, 110, 32, 110, 111, 116, 32, 98, 101, 32, 99, 111, 109, 112, 97, 114, 101, 100]⟩ : ByteArray)) else (if a0 = 530 then (some (⟨#[97, 32, 118, 97, 108, 117, 101, 32, 116, 104, 97, 116, 32, 105, 115, 32, 110, 111, 116, 32, 117, 115, 101, 100]⟩ : ByteArray)) else (if a0 = 541 then (some (⟨#[114, 101, 115, 117, 108, 116, 115]⟩ : ByteArray)) else (if a0 = 542 then (some (⟨#[97, 32, 99, 97, 115, 101]⟩ : ByteArray)) else (if a0 = 543 then (some (⟨#[97, 32, 106, 117, 109, 112]⟩ : ByteArray)) else (if a0 = 551 then (some (⟨#[97, 32, 116, 121, 112, 101, 32, 116, 104, 97, 116, 32, 99, 111, 110, 116, 97, 105, 110, 115, 32, 105, 116, 115, 101, 108, 102]⟩ : ByteArray)) else (if a0 = 552 then (some (⟨#[119, 104, 97, 116, 32, 110, 101, 101, 100, 115, 32, 105, 116, 115, 101, 108, 102]⟩ : ByteArray)) else (if a0 = 553 then (some (⟨#[97, 32, 114, 101, 99, 101, 105, 118, 101, 114]⟩ : ByteArray)) else (if a0 = 554 then (some (⟨#[97, 32, 109, 101, 116, 104, 111, 100, 32, 97, 103, 97, 105, 110]⟩ : ByteArray)) else (if a0 = 555 then (some (⟨#[105, 110, 105, 116, 32, 111, 114, 32, 109, 97, 105, 110]⟩ : ByteArray)) else (if a0 = 561 then (some (⟨#[97, 32, 108, 105, 109, 105, 116]⟩ : ByteArray)) else (some (⟨#[]⟩ : ByteArray))))))))))))))))))))))))))))))) = some r := h
  clear h
  by_cases c2 : a0 = 511
  · rw [if_pos c2] at H
    have c2b0 : (a0 == 511) = true := beq_iff_eq.mpr c2
    have c2b1 : (a0 != 511) = false := bne_eq_false_iff_eq.mpr c2
    clear c2
    obtain rfl := Option.some.inj H
    go_enter Tryd.func41, Tryd.ntmps41
    go_wp2
    go_ret
    exact ⟨by first | rfl | (simp; done) | (simp [*]; done), by repeat (first | exact Drawn0.refl _ | apply Drawn0.step)⟩
  · rw [if_neg c2] at H
    have c2b0 : (a0 == 511) = false := beq_eq_false_iff_ne.mpr c2
    have c2b1 : (a0 != 511) = true := bne_iff_ne.mpr c2
    by_cases c3 : a0 = 512
    · rw [if_pos c3] at H
      have c3b0 : (a0 == 512) = true := beq_iff_eq.mpr c3
      have c3b1 : (a0 != 512) = false := bne_eq_false_iff_eq.mpr c3
      clear c3
      obtain rfl := Option.some.inj H
      go_enter Tryd.func41, Tryd.ntmps41
      go_wp2
      go_ret
      exact ⟨by first | rfl | (simp; done) | (simp [*]; done), by repeat (first | exact Drawn0.refl _ | apply Drawn0.step)⟩
    · rw [if_neg c3] at H
      have c3b0 : (a0 == 512) = false := beq_eq_false_iff_ne.mpr c3
      have c3b1 : (a0 != 512) = true := bne_iff_ne.mpr c3
      by_cases c4 : a0 = 513
      · rw [if_pos c4] at H
        have c4b0 : (a0 == 513) = true := beq_iff_eq.mpr c4
        have c4b1 : (a0 != 513) = false := bne_eq_false_iff_eq.mpr c4
        clear c4
        obtain rfl := Option.some.inj H
        go_enter Tryd.func41, Tryd.ntmps41
        go_wp2
        go_ret
        exact ⟨by first | rfl | (simp; done) | (simp [*]; done), by repeat (first | exact Drawn0.refl _ | apply Drawn0.step)⟩
      · rw [if_neg c4] at H
        have c4b0 : (a0 == 513) = false := beq_eq_false_iff_ne.mpr c4
        have c4b1 : (a0 != 513) = true := bne_iff_ne.mpr c4
        by_cases c5 : a0 = 514
        · rw [if_pos c5] at H
          have c5b0 : (a0 == 514) = true := beq_iff_eq.mpr c5
          have c5b1 : (a0 != 514) = false := bne_eq_false_iff_eq.mpr c5
          clear c5
          obtain rfl := Option.some.inj H
          go_enter Tryd.func41, Tryd.ntmps41
          go_wp2
          go_ret
          exact ⟨by first | rfl | (simp; done) | (simp [*]; done), by repeat (first | exact Drawn0.refl _ | apply Drawn0.step)⟩
        · rw [if_neg c5] at H
          have c5b0 : (a0 == 514) = false := beq_eq_false_iff_ne.mpr c5
          have c5b1 : (a0 != 514) = true := bne_iff_ne.mpr c5
          by_cases c6 : a0 = 515
          · rw [if_pos c6] at H
            have c6b0 : (a0 == 515) = true := beq_iff_eq.mpr c6
            have c6b1 : (a0 != 515) = false := bne_eq_false_iff_eq.mpr c6
            clear c6
            obtain rfl := Option.some.inj H
            go_enter Tryd.func41, Tryd.ntmps41
            go_wp2
            go_ret
            exact ⟨by first | rfl | (simp; done) | (simp [*]; done), by repeat (first | exact Drawn0.refl _ | apply Drawn0.step)⟩
          · rw [if_neg c6] at H
            have c6b0 : (a0 == 515) = false := beq_eq_false_iff_ne.mpr c6
            have c6b1 : (a0 != 515) = true := bne_iff_ne.mpr c6
            by_cases c7 : a0 = 516
            · rw [if_pos c7] at H
              have c7b0 : (a0 == 516) = true := beq_iff_eq.mpr c7
              have c7b1 : (a0 != 516) = false := bne_eq_false_iff_eq.mpr c7
              clear c7
              obtain rfl := Option.some.inj H
              go_enter Tryd.func41, Tryd.ntmps41
              go_wp2
              go_ret
              exact ⟨by first | rfl | (simp; done) | (simp [*]; done), by repeat (first | exact Drawn0.refl _ | apply Drawn0.step)⟩
            · rw [if_neg c7] at H
              have c7b0 : (a0 == 516) = false := beq_eq_false_iff_ne.mpr c7
              have c7b1 : (a0 != 516) = true := bne_iff_ne.mpr c7
              by_cases c8 : a0 = 517
              · rw [if_pos c8] at H
                have c8b0 : (a0 == 517) = true := beq_iff_eq.mpr c8
                have c8b1 : (a0 != 517) = false := bne_eq_false_iff_eq.mpr c8
                clear c8
                obtain rfl := Option.some.inj H
                go_enter Tryd.func41, Tryd.ntmps41
                go_wp2
                go_ret
                exact ⟨by first | rfl | (simp; done) | (simp [*]; done), by repeat (first | exact Drawn0.refl _ | apply Drawn0.step)⟩
              · rw [if_neg c8] at H
                have c8b0 : (a0 == 517) = false := beq_eq_false_iff_ne.mpr c8
                have c8b1 : (a0 != 517) = true := bne_iff_ne.mpr c8
                by_cases c9 : a0 = 518
                · rw [if_pos c9] at H
                  have c9b0 : (a0 == 518) = true := beq_iff_eq.mpr c9
                  have c9b1 : (a0 != 518) = false := bne_eq_false_iff_eq.mpr c9
                  clear c9
                  obtain rfl := Option.some.inj H
                  go_enter Tryd.func41, Tryd.ntmps41
                  go_wp2
                  go_ret
                  exact ⟨by first | rfl | (simp; done) | (simp [*]; done), by repeat (first | exact Drawn0.refl _ | apply Drawn0.step)⟩
                · rw [if_neg c9] at H
                  have c9b0 : (a0 == 518) = false := beq_eq_false_iff_ne.mpr c9
                  have c9b1 : (a0 != 518) = true := bne_iff_ne.mpr c9
                  by_cases c10 : a0 = 519
                  · rw [if_pos c10] at H
                    have c10b0 : (a0 == 519) = true := beq_iff_eq.mpr c10
                    have c10b1 : (a0 != 519) = false := bne_eq_false_iff_eq.mpr c10
                    clear c10
                    obtain rfl := Option.some.inj H
                    go_enter Tryd.func41, Tryd.ntmps41
                    go_wp2
                    go_ret
                    exact ⟨by first | rfl | (simp; done) | (simp [*]; done), by repeat (first | exact Drawn0.refl _ | apply Drawn0.step)⟩
                  · rw [if_neg c10] at H
                    have c10b0 : (a0 == 519) = false := beq_eq_false_iff_ne.mpr c10
                    have c10b1 : (a0 != 519) = true := bne_iff_ne.mpr c10
                    by_cases c11 : a0 = 520
                    · rw [if_pos c11] at H
                      have c11b0 : (a0 == 520) = true := beq_iff_eq.mpr c11
                      have c11b1 : (a0 != 520) = false := bne_eq_false_iff_eq.mpr c11
                      clear c11
                      obtain rfl := Option.some.inj H
                      go_enter Tryd.func41, Tryd.ntmps41
                      go_wp2
                      go_ret
                      exact ⟨by first | rfl | (simp; done) | (simp [*]; done), by repeat (first | exact Drawn0.refl _ | apply Drawn0.step)⟩
                    · rw [if_neg c11] at H
                      have c11b0 : (a0 == 520) = false := beq_eq_false_iff_ne.mpr c11
                      have c11b1 : (a0 != 520) = true := bne_iff_ne.mpr c11
                      by_cases c12 : a0 = 521
                      · rw [if_pos c12] at H
                        have c12b0 : (a0 == 521) = true := beq_iff_eq.mpr c12
                        have c12b1 : (a0 != 521) = false := bne_eq_false_iff_eq.mpr c12
                        clear c12
                        obtain rfl := Option.some.inj H
                        go_enter Tryd.func41, Tryd.ntmps41
                        go_wp2
                        go_ret
                        exact ⟨by first | rfl | (simp; done) | (simp [*]; done), by repeat (first | exact Drawn0.refl _ | apply Drawn0.step)⟩
                      · rw [if_neg c12] at H
                        have c12b0 : (a0 == 521) = false := beq_eq_false_iff_ne.mpr c12
                        have c12b1 : (a0 != 521) = true := bne_iff_ne.mpr c12
                        by_cases c13 : a0 = 522
                        · rw [if_pos c13] at H
                          have c13b0 : (a0 == 522) = true := beq_iff_eq.mpr c13
                          have c13b1 : (a0 != 522) = false := bne_eq_false_iff_eq.mpr c13
                          clear c13
                          obtain rfl := Option.some.inj H
                          go_enter Tryd.func41, Tryd.ntmps41
                          go_wp2
                          go_ret
                          exact ⟨by first | rfl | (simp; done) | (simp [*]; done), by repeat (first | exact Drawn0.refl _ | apply Drawn0.step)⟩
                        · rw [if_neg c13] at H
                          have c13b0 : (a0 == 522) = false := beq_eq_false_iff_ne.mpr c13
                          have c13b1 : (a0 != 522) = true := bne_iff_ne.mpr c13
                          by_cases c14 : a0 = 523
                          · rw [if_pos c14] at H
                            have c14b0 : (a0 == 523) = true := beq_iff_eq.mpr c14
                            have c14b1 : (a0 != 523) = false := bne_eq_false_iff_eq.mpr c14
                            clear c14
                            obtain rfl := Option.some.inj H
                            go_enter Tryd.func41, Tryd.ntmps41
                            go_wp2
                            go_ret
                            exact ⟨by first | rfl | (simp; done) | (simp [*]; done), by repeat (first | exact Drawn0.refl _ | apply Drawn0.step)⟩
                          · rw [if_neg c14] at H
                            have c14b0 : (a0 == 523) = false := beq_eq_false_iff_ne.mpr c14
                            have c14b1 : (a0 != 523) = true := bne_iff_ne.mpr c14
                            by_cases c15 : a0 = 524
                            · rw [if_pos c15] at H
                              have c15b0 : (a0 == 524) = true := beq_iff_eq.mpr c15
                              have c15b1 : (a0 != 524) = false := bne_eq_false_iff_eq.mpr c15
                              clear c15
                              obtain rfl := Option.some.inj H
                              go_enter Tryd.func41, Tryd.ntmps41
                              go_wp2
                              go_ret
                              exact ⟨by first | rfl | (simp; done) | (simp [*]; done), by repeat (first | exact Drawn0.refl _ | apply Drawn0.step)⟩
                            · rw [if_neg c15] at H
                              have c15b0 : (a0 == 524) = false := beq_eq_false_iff_ne.mpr c15
                              have c15b1 : (a0 != 524) = true := bne_iff_ne.mpr c15
                              by_cases c16 : a0 = 525
                              · rw [if_pos c16] at H
                                have c16b0 : (a0 == 525) = true := beq_iff_eq.mpr c16
                                have c16b1 : (a0 != 525) = false := bne_eq_false_iff_eq.mpr c16
                                clear c16
                                obtain rfl := Option.some.inj H
                                go_enter Tryd.func41, Tryd.ntmps41
                                go_wp2
                                go_ret
                                exact ⟨by first | rfl | (simp; done) | (simp [*]; done), by repeat (first | exact Drawn0.refl _ | apply Drawn0.step)⟩
                              · rw [if_neg c16] at H
                                have c16b0 : (a0 == 525) = false := beq_eq_false_iff_ne.mpr c16
                                have c16b1 : (a0 != 525) = true := bne_iff_ne.mpr c16
                                by_cases c17 : a0 = 526
                                · rw [if_pos c17] at H
                                  have c17b0 : (a0 == 526) = true := beq_iff_eq.mpr c17
                                  have c17b1 : (a0 != 526) = false := bne_eq_false_iff_eq.mpr c17
                                  clear c17
                                  obtain rfl := Option.some.inj H
                                  go_enter Tryd.func41, Tryd.ntmps41
                                  go_wp2
                                  go_ret
                                  exact ⟨by first | rfl | (simp; done) | (simp [*]; done), by repeat (first | exact Drawn0.refl _ | apply Drawn0.step)⟩
                                · rw [if_neg c17] at H
                                  have c17b0 : (a0 == 526) = false := beq_eq_false_iff_ne.mpr c17
                                  have c17b1 : (a0 != 526) = true := bne_iff_ne.mpr c17
                                  by_cases c18 : a0 = 527
                                  · rw [if_pos c18] at H
                                    have c18b0 : (a0 == 527) = true := beq_iff_eq.mpr c18
                                    have c18b1 : (a0 != 527) = false := bne_eq_false_iff_eq.mpr c18
                                    clear c18
                                    obtain rfl := Option.some.inj H
                                    go_enter Tryd.func41, Tryd.ntmps41
                                    go_wp2
                                    go_ret
                                    exact ⟨by first | rfl | (simp; done) | (simp [*]; done), by repeat (first | exact Drawn0.refl _ | apply Drawn0.step)⟩
                                  · rw [if_neg c18] at H
                                    have c18b0 : (a0 == 527) = false := beq_eq_false_iff_ne.mpr c18
                                    have c18b1 : (a0 != 527) = true := bne_iff_ne.mpr c18
                                    by_cases c19 : a0 = 528
                                    · rw [if_pos c19] at H
                                      have c19b0 : (a0 == 528) = true := beq_iff_eq.mpr c19
                                      have c19b1 : (a0 != 528) = false := bne_eq_false_iff_eq.mpr c19
                                      clear c19
                                      obtain rfl := Option.some.inj H
                                      go_enter Tryd.func41, Tryd.ntmps41
                                      go_wp2
                                      go_ret
                                      exact ⟨by first | rfl | (simp; done) | (simp [*]; done), by repeat (first | exact Drawn0.refl _ | apply Drawn0.step)⟩
                                    · rw [if_neg c19] at H
                                      have c19b0 : (a0 == 528) = false := beq_eq_false_iff_ne.mpr c19
                                      have c19b1 : (a0 != 528) = true := bne_iff_ne.mpr c19
                                      by_cases c20 : a0 = 529
                                      · rw [if_pos c20] at H
                                        have c20b0 : (a0 == 529) = true := beq_iff_eq.mpr c20
                                        have c20b1 : (a0 != 529) = false := bne_eq_false_iff_eq.mpr c20
                                        clear c20
                                        obtain rfl := Option.some.inj H
                                        go_enter Tryd.func41, Tryd.ntmps41
                                        go_wp2
                                        go_ret
                                        exact ⟨by first | rfl | (simp; done) | (simp [*]; done), by repeat (first | exact Drawn0.refl _ | apply Drawn0.step)⟩
                                      · rw [if_neg c20] at H
                                        have c20b0 : (a0 == 529) = false := beq_eq_false_iff_ne.mpr c20
                                        have c20b1 : (a0 != 529) = true := bne_iff_ne.mpr c20
                                        by_cases c21 : a0 = 530
                                        · rw [if_pos c21] at H
                                          have c21b0 : (a0 == 530) = true := beq_iff_eq.mpr c21
                                          have c21b1 : (a0 != 530) = false := bne_eq_false_iff_eq.mpr c21
                                          clear c21
                                          obtain rfl := Option.some.inj H
                                          go_enter Tryd.func41, Tryd.ntmps41
                                          go_wp2
                                          go_ret
                                          exact ⟨by first | rfl | (simp; done) | (simp [*]; done), by repeat (first | exact Drawn0.refl _ | apply Drawn0.step)⟩
                                        · rw [if_neg c21] at H
                                          have c21b0 : (a0 == 530) = false := beq_eq_false_iff_ne.mpr c21
                                          have c21b1 : (a0 != 530) = true := bne_iff_ne.mpr c21
                                          by_cases c22 : a0 = 541
                                          · rw [if_pos c22] at H
                                            have c22b0 : (a0 == 541) = true := beq_iff_eq.mpr c22
                                            have c22b1 : (a0 != 541) = false := bne_eq_false_iff_eq.mpr c22
                                            clear c22
                                            obtain rfl := Option.some.inj H
                                            go_enter Tryd.func41, Tryd.ntmps41
                                            go_wp2
                                            go_ret
                                            exact ⟨by first | rfl | (simp; done) | (simp [*]; done), by repeat (first | exact Drawn0.refl _ | apply Drawn0.step)⟩
                                          · rw [if_neg c22] at H
                                            have c22b0 : (a0 == 541) = false := beq_eq_false_iff_ne.mpr c22
                                            have c22b1 : (a0 != 541) = true := bne_iff_ne.mpr c22
                                            by_cases c23 : a0 = 542
                                            · rw [if_pos c23] at H
                                              have c23b0 : (a0 == 542) = true := beq_iff_eq.mpr c23
                                              have c23b1 : (a0 != 542) = false := bne_eq_false_iff_eq.mpr c23
                                              clear c23
                                              obtain rfl := Option.some.inj H
                                              go_enter Tryd.func41, Tryd.ntmps41
                                              go_wp2
                                              go_ret
                                              exact ⟨by first | rfl | (simp; done) | (simp [*]; done), by repeat (first | exact Drawn0.refl _ | apply Drawn0.step)⟩
                                            · rw [if_neg c23] at H
                                              have c23b0 : (a0 == 542) = false := beq_eq_false_iff_ne.mpr c23
                                              have c23b1 : (a0 != 542) = true := bne_iff_ne.mpr c23
                                              by_cases c24 : a0 = 543
                                              · rw [if_pos c24] at H
                                                have c24b0 : (a0 == 543) = true := beq_iff_eq.mpr c24
                                                have c24b1 : (a0 != 543) = false := bne_eq_false_iff_eq.mpr c24
                                                clear c24
                                                obtain rfl := Option.some.inj H
                                                go_enter Tryd.func41, Tryd.ntmps41
                                                go_wp2
                                                go_ret
                                                exact ⟨by first | rfl | (simp; done) | (simp [*]; done), by repeat (first | exact Drawn0.refl _ | apply Drawn0.step)⟩
                                              · rw [if_neg c24] at H
                                                have c24b0 : (a0 == 543) = false := beq_eq_false_iff_ne.mpr c24
                                                have c24b1 : (a0 != 543) = true := bne_iff_ne.mpr c24
                                                by_cases c25 : a0 = 551
                                                · rw [if_pos c25] at H
                                                  have c25b0 : (a0 == 551) = true := beq_iff_eq.mpr c25
                                                  have c25b1 : (a0 != 551) = false := bne_eq_false_iff_eq.mpr c25
                                                  clear c25
                                                  obtain rfl := Option.some.inj H
                                                  go_enter Tryd.func41, Tryd.ntmps41
                                                  go_wp2
                                                  go_ret
                                                  exact ⟨by first | rfl | (simp; done) | (simp [*]; done), by repeat (first | exact Drawn0.refl _ | apply Drawn0.step)⟩
                                                · rw [if_neg c25] at H
                                                  have c25b0 : (a0 == 551) = false := beq_eq_false_iff_ne.mpr c25
                                                  have c25b1 : (a0 != 551) = true := bne_iff_ne.mpr c25
                                                  by_cases c26 : a0 = 552
                                                  · rw [if_pos c26] at H
                                                    have c26b0 : (a0 == 552) = true := beq_iff_eq.mpr c26
                                                    have c26b1 : (a0 != 552) = false := bne_eq_false_iff_eq.mpr c26
                                                    clear c26
                                                    obtain rfl := Option.some.inj H
                                                    go_enter Tryd.func41, Tryd.ntmps41
                                                    go_wp2
                                                    go_ret
                                                    exact ⟨by first | rfl | (simp; done) | (simp [*]; done), by repeat (first | exact Drawn0.refl _ | apply Drawn0.step)⟩
                                                  · rw [if_neg c26] at H
                                                    have c26b0 : (a0 == 552) = false := beq_eq_false_iff_ne.mpr c26
                                                    have c26b1 : (a0 != 552) = true := bne_iff_ne.mpr c26
                                                    by_cases c27 : a0 = 553
                                                    · rw [if_pos c27] at H
                                                      have c27b0 : (a0 == 553) = true := beq_iff_eq.mpr c27
                                                      have c27b1 : (a0 != 553) = false := bne_eq_false_iff_eq.mpr c27
                                                      clear c27
                                                      obtain rfl := Option.some.inj H
                                                      go_enter Tryd.func41, Tryd.ntmps41
                                                      go_wp2
                                                      go_ret
                                                      exact ⟨by first | rfl | (simp; done) | (simp [*]; done), by repeat (first | exact Drawn0.refl _ | apply Drawn0.step)⟩
                                                    · rw [if_neg c27] at H
                                                      have c27b0 : (a0 == 553) = false := beq_eq_false_iff_ne.mpr c27
                                                      have c27b1 : (a0 != 553) = true := bne_iff_ne.mpr c27
                                                      by_cases c28 : a0 = 554
                                                      · rw [if_pos c28] at H
                                                        have c28b0 : (a0 == 554) = true := beq_iff_eq.mpr c28
                                                        have c28b1 : (a0 != 554) = false := bne_eq_false_iff_eq.mpr c28
                                                        clear c28
                                                        obtain rfl := Option.some.inj H
                                                        go_enter Tryd.func41, Tryd.ntmps41
                                                        go_wp2
                                                        go_ret
                                                        exact ⟨by first | rfl | (simp; done) | (simp [*]; done), by repeat (first | exact Drawn0.refl _ | apply Drawn0.step)⟩
                                                      · rw [if_neg c28] at H
                                                        have c28b0 : (a0 == 554) = false := beq_eq_false_iff_ne.mpr c28
                                                        have c28b1 : (a0 != 554) = true := bne_iff_ne.mpr c28
                                                        by_cases c29 : a0 = 555
                                                        · rw [if_pos c29] at H
                                                          have c29b0 : (a0 == 555) = true := beq_iff_eq.mpr c29
                                                          have c29b1 : (a0 != 555) = false := bne_eq_false_iff_eq.mpr c29
                                                          clear c29
                                                          obtain rfl := Option.some.inj H
                                                          go_enter Tryd.func41, Tryd.ntmps41
                                                          go_wp2
                                                          go_ret
                                                          exact ⟨by first | rfl | (simp; done) | (simp [*]; done), by repeat (first | exact Drawn0.refl _ | apply Drawn0.step)⟩
                                                        · rw [if_neg c29] at H
                                                          have c29b0 : (a0 == 555) = false := beq_eq_false_iff_ne.mpr c29
                                                          have c29b1 : (a0 != 555) = true := bne_iff_ne.mpr c29
                                                          by_cases c30 : a0 = 561
                                                          · rw [if_pos c30] at H
                                                            have c30b0 : (a0 == 561) = true := beq_iff_eq.mpr c30
                                                            have c30b1 : (a0 != 561) = false := bne_eq_false_iff_eq.mpr c30
                                                            clear c30
                                                            obtain rfl := Option.some.inj H
                                                            go_enter Tryd.func41, Tryd.ntmps41
                                                            go_wp2
                                                            go_ret
                                                            exact ⟨by first | rfl | (simp; done) | (simp [*]; done), by repeat (first | exact Drawn0.refl _ | apply Drawn0.step)⟩
                                                          · rw [if_neg c30] at H
                                                            have c30b0 : (a0 == 561) = false := beq_eq_false_iff_ne.mpr c30
                                                            have c30b1 : (a0 != 561) = true := bne_iff_ne.mpr c30
                                                            obtain rfl := Option.some.inj H
                                                            go_enter Tryd.func41, Tryd.ntmps41
                                                            go_wp2
                                                            go_ret
                                                            exact ⟨by first | rfl | (simp; done) | (simp [*]; done), by repeat (first | exact Drawn0.refl _ | apply Drawn0.step)⟩

end Go.Proofs.YtcbimnmpdpkefaaDoor.A
