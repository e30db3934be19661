/- Printed by a changed copy of the kit's print.py for all laws of the seat at once (one namespace): functions and their contracts; some parts by hand. -/
import Derived.Test.YtcbimnmpdpkefaaDoorAx0
namespace Go.Proofs.YtcbimnmpdpkefaaDoor.A
open Go.RowKit Go.Proofs.YtcbimnmpdpkefaaDoorW.PrintWords Go.Proofs.YtcbimnmpdpkefaaDoorW.PrintLast Go.Proofs.YtcbimnmpdpkefaaDoorW.PrintMore
attribute [local go_sem] max2_int min2_int max_two min_two max_three min_three max_four min_four   -- for this text's walks alone
set_option linter.unusedVariables false
set_option linter.unusedSimpArgs false

/-! ### diag_late: function 40 -/
def diag_late.f (a0 : Int) : Option (ByteArray) := if a0 = 401 then (some (⟨#[100, 101, 99, 108, 97, 114, 101, 100, 32, 97, 108, 114, 101, 97, 100, 121]⟩ : ByteArray)) else (if a0 = 402 then (some (⟨#[110, 111, 116, 32, 100, 101, 99, 108, 97, 114, 101, 100]⟩ : ByteArray)) else (if a0 = 403 then (some (⟨#[97, 32, 118, 97, 114, 105, 97, 98, 108, 101, 32, 116, 104, 97, 116, 32, 105, 115, 32, 110, 111, 116, 32, 117, 115, 101, 100]⟩ : ByteArray)) else (if a0 = 404 then (some (⟨#[97, 110, 32, 105, 109, 112, 111, 114, 116, 32, 116, 104, 97, 116, 32, 105, 115, 32, 110, 111, 116, 32, 117, 115, 101, 100]⟩ : ByteArray)) else (if a0 = 405 then (some (⟨#[110, 111, 32, 115, 117, 99, 104, 32, 108, 97, 98, 101, 108]⟩ : ByteArray)) else (if a0 = 406 then (some (⟨#[97, 32, 108, 97, 98, 101, 108, 32, 116, 104, 97, 116, 32, 105, 115, 32, 110, 111, 116, 32, 117, 115, 101, 100]⟩ : ByteArray)) else (if a0 = 501 then (some (⟨#[110, 111, 32, 99, 111, 110, 115, 116, 97, 110, 116]⟩ : ByteArray)) else (if a0 = 502 then (some (⟨#[97, 32, 99, 111, 110, 115, 116, 97, 110, 116, 32, 116, 104, 97, 116, 32, 105, 115, 32, 116, 111, 111, 32, 108, 97, 114, 103, 101]⟩ : ByteArray)) else (if a0 = 503 then (some (⟨#[110, 111, 116, 32, 111, 102, 32, 116, 104, 101, 32, 116, 121, 112, 101]⟩ : ByteArray)) else (if a0 = 504 then (some (⟨#[100, 105, 118, 105, 115, 105, 111, 110, 32, 98, 121, 32, 48]⟩ : ByteArray)) else (if a0 = 505 then (some (⟨#[97, 32, 115, 104, 105, 102, 116, 32, 99, 111, 117, 110, 116]⟩ : ByteArray)) else (some (⟨#[]⟩ : ByteArray))))))))))))
set_option maxHeartbeats 8000000 in
set_option maxRecDepth 100000 in
theorem diag_late.calls (a0 : Int) (r : ByteArray) (w : World) (h : diag_late.f a0 = some r) :
    Calls Tryd.prog 40 #[.int .i64 a0] w fun e w' => e = .returned (.string r) ∧ Drawn0 w w' := by
  have H : (if a0 = 401 then (some (⟨#[100, 101, 99, 108, 97, 114, 101, 100, 32, 97, 108, 114, 101, 97, 100, 121]⟩ : ByteArray)) else (if a0 = 402 then (some (⟨#[110, 111, 116, 32, 100, 101, 99, 108, 97, 114, 101, 100]⟩ : ByteArray)) else (if a0 = 403 then (some (⟨#[97, 32, 118, 97, 114, 105, 97, 98, 108, 101, 32, 116, 104, 97, 116, 32, 105, 115, 32, 110, 111, 116, 32, 117, 115, 101, 100]⟩ : ByteArray)) else (if a0 = 404 then (some (⟨#[97, 110, 32, 105, 109, 112, 111, 114, 116, 32, 116, 104, 97, 116, 32, 105, 115, 32, 110, 111, 116, 32, 117, 115, 101, 100]⟩ : ByteArray)) else (if a0 = 405 then (some (⟨#[110, 111, 32, 115, 117, 99, 104, 32, 108, 97, 98, 101, 108]⟩ : ByteArray)) else (if a0 = 406 then (some (⟨#[97, 32, 108, 97, 98, 101, 108, 32, 116, 104, 97, 116, 32, 105, 115, 32, 110, 111, 116, 32, 117, 115, 101, 100]⟩ : ByteArray)) else (if a0 = 501 then (some (⟨#[110, 111, 32, 99, 111, 110, 115, 116, 97, 110, 116]⟩ : ByteArray)) else (if a0 = 502 then (some (⟨#[97, 32, 99, 111, 110, 115, 116, 97, 110, 116, 32, 116, 104, 97, 116, 32, 105, 115, 32, 116, 111, 111, 32, 108, 97, 114, 103, 101]⟩ : ByteArray)) else (if a0 = 503 then (some (⟨#[110, 111, 116, 32, 111, 102, 32, 116, 104, 101, 32, 116, 121, 112, 101]⟩ : ByteArray)) else (if a0 = 504 then (some (⟨#[100, 105, 118, 105, 115, 105, 111, 110, 32, 98, 121, 32, 48]⟩ : ByteArray)) else (if a0 = 505 then (some (⟨#[97, 32, 115, 104, 105, 102, 116, 32, 99, 111, 117, 110, 116]⟩ : ByteArray)) else (some (⟨#[]⟩ : ByteArray))))))))))))) = some r := h
  clear h
  by_cases c2 : a0 = 401
  · rw [if_pos c2] at H
    have c2b0 : (a0 == 401) = true := beq_iff_eq.mpr c2
    have c2b1 : (a0 != 401) = false := bne_eq_false_iff_eq.mpr c2
    clear c2
    obtain rfl := Option.some.inj H
    go_enter Tryd.func40, Tryd.ntmps40
    go_wp2
    go_ret
    exact ⟨by first | rfl | (simp; done) | (simp [*]; done), by repeat (first | exact Drawn0.refl _ | apply Drawn0.step)⟩
  · rw [if_neg c2] at H
    have c2b0 : (a0 == 401) = false := beq_eq_false_iff_ne.mpr c2
    have c2b1 : (a0 != 401) = true := bne_iff_ne.mpr c2
    by_cases c3 : a0 = 402
    · rw [if_pos c3] at H
      have c3b0 : (a0 == 402) = true := beq_iff_eq.mpr c3
      have c3b1 : (a0 != 402) = false := bne_eq_false_iff_eq.mpr c3
      clear c3
      obtain rfl := Option.some.inj H
      go_enter Tryd.func40, Tryd.ntmps40
      go_wp2
      go_ret
      exact ⟨by first | rfl | (simp; done) | (simp [*]; done), by repeat (first | exact Drawn0.refl _ | apply Drawn0.step)⟩
    · rw [if_neg c3] at H
      have c3b0 : (a0 == 402) = false := beq_eq_false_iff_ne.mpr c3
      have c3b1 : (a0 != 402) = true := bne_iff_ne.mpr c3
      by_cases c4 : a0 = 403
      · rw [if_pos c4] at H
        have c4b0 : (a0 == 403) = true := beq_iff_eq.mpr c4
        have c4b1 : (a0 != 403) = false := bne_eq_false_iff_eq.mpr c4
        clear c4
        obtain rfl := Option.some.inj H
        go_enter Tryd.func40, Tryd.ntmps40
        go_wp2
        go_ret
        exact ⟨by first | rfl | (simp; done) | (simp [*]; done), by repeat (first | exact Drawn0.refl _ | apply Drawn0.step)⟩
      · rw [if_neg c4] at H
        have c4b0 : (a0 == 403) = false := beq_eq_false_iff_ne.mpr c4
        have c4b1 : (a0 != 403) = true := bne_iff_ne.mpr c4
        by_cases c5 : a0 = 404
        · rw [if_pos c5] at H
          have c5b0 : (a0 == 404) = true := beq_iff_eq.mpr c5
          have c5b1 : (a0 != 404) = false := bne_eq_false_iff_eq.mpr c5
          clear c5
          obtain rfl := Option.some.inj H
          go_enter Tryd.func40, Tryd.ntmps40
          go_wp2
          go_ret
          exact ⟨by first | rfl | (simp; done) | (simp [*]; done), by repeat (first | exact Drawn0.refl _ | apply Drawn0.step)⟩
        · rw [if_neg c5] at H
          have c5b0 : (a0 == 404) = false := beq_eq_false_iff_ne.mpr c5
          have c5b1 : (a0 != 404) = true := bne_iff_ne.mpr c5
          by_cases c6 : a0 = 405
          · rw [if_pos c6] at H
            have c6b0 : (a0 == 405) = true := beq_iff_eq.mpr c6
            have c6b1 : (a0 != 405) = false := bne_eq_false_iff_eq.mpr c6
            clear c6
            obtain rfl := Option.some.inj H
            go_enter Tryd.func40, Tryd.ntmps40
            go_wp2
            go_ret
            exact ⟨by first | rfl | (simp; done) | (simp [*]; done), by repeat (first | exact Drawn0.refl _ | apply Drawn0.step)⟩
          · rw [if_neg c6] at H
            have c6b0 : (a0 == 405) = false := beq_eq_false_iff_ne.mpr c6
            have c6b1 : (a0 != 405) = true := bne_iff_ne.mpr c6
            by_cases c7 : a0 = 406
            · rw [if_pos c7] at H
              have c7b0 : (a0 == 406) = true := beq_iff_eq.mpr c7
              have c7b1 : (a0 != 406) = false := bne_eq_false_iff_eq.mpr c7
              clear c7
              obtain rfl := Option.some.inj H
              go_enter Tryd.func40, Tryd.ntmps40
              go_wp2
              go_ret
              exact ⟨by first | rfl | (simp; done) | (simp [*]; done), by repeat (first | exact Drawn0.refl _ | apply Drawn0.step)⟩
            · rw [if_neg c7] at H
              have c7b0 : (a0 == 406) = false := beq_eq_false_iff_ne.mpr c7
              have c7b1 : (a0 != 406) = true := bne_iff_ne.mpr c7
              by_cases c8 : a0 = 501
              · rw [if_pos c8] at H
                have c8b0 : (a0 == 501) = true := beq_iff_eq.mpr c8
                have c8b1 : (a0 != 501) = false := bne_eq_false_iff_eq.mpr c8
                clear c8
                obtain rfl := Option.some.inj H
                go_enter Tryd.func40, Tryd.ntmps40
                go_wp2
                go_ret
                exact ⟨by first | rfl | (simp; done) | (simp [*]; done), by repeat (first | exact Drawn0.refl _ | apply Drawn0.step)⟩
              · rw [if_neg c8] at H
                have c8b0 : (a0 == 501) = false := beq_eq_false_iff_ne.mpr c8
                have c8b1 : (a0 != 501) = true := bne_iff_ne.mpr c8
                by_cases c9 : a0 = 502
                · rw [if_pos c9] at H
                  have c9b0 : (a0 == 502) = true := beq_iff_eq.mpr c9
                  have c9b1 : (a0 != 502) = false := bne_eq_false_iff_eq.mpr c9
                  clear c9
                  obtain rfl := Option.some.inj H
                  go_enter Tryd.func40, Tryd.ntmps40
                  go_wp2
                  go_ret
                  exact ⟨by first | rfl | (simp; done) | (simp [*]; done), by repeat (first | exact Drawn0.refl _ | apply Drawn0.step)⟩
                · rw [if_neg c9] at H
                  have c9b0 : (a0 == 502) = false := beq_eq_false_iff_ne.mpr c9
                  have c9b1 : (a0 != 502) = true := bne_iff_ne.mpr c9
                  by_cases c10 : a0 = 503
                  · rw [if_pos c10] at H
                    have c10b0 : (a0 == 503) = true := beq_iff_eq.mpr c10
                    have c10b1 : (a0 != 503) = false := bne_eq_false_iff_eq.mpr c10
                    clear c10
                    obtain rfl := Option.some.inj H
                    go_enter Tryd.func40, Tryd.ntmps40
                    go_wp2
                    go_ret
                    exact ⟨by first | rfl | (simp; done) | (simp [*]; done), by repeat (first | exact Drawn0.refl _ | apply Drawn0.step)⟩
                  · rw [if_neg c10] at H
                    have c10b0 : (a0 == 503) = false := beq_eq_false_iff_ne.mpr c10
                    have c10b1 : (a0 != 503) = true := bne_iff_ne.mpr c10
                    by_cases c11 : a0 = 504
                    · rw [if_pos c11] at H
                      have c11b0 : (a0 == 504) = true := beq_iff_eq.mpr c11
                      have c11b1 : (a0 != 504) = false := bne_eq_false_iff_eq.mpr c11
                      clear c11
                      obtain rfl := Option.some.inj H
                      go_enter Tryd.func40, Tryd.ntmps40
                      go_wp2
                      go_ret
                      exact ⟨by first | rfl | (simp; done) | (simp [*]; done), by repeat (first | exact Drawn0.refl _ | apply Drawn0.step)⟩
                    · rw [if_neg c11] at H
                      have c11b0 : (a0 == 504) = false := beq_eq_false_iff_ne.mpr c11
                      have c11b1 : (a0 != 504) = true := bne_iff_ne.mpr c11
                      by_cases c12 : a0 = 505
                      · rw [if_pos c12] at H
                        have c12b0 : (a0 == 505) = true := beq_iff_eq.mpr c12
                        have c12b1 : (a0 != 505) = false := bne_eq_false_iff_eq.mpr c12
                        clear c12
                        obtain rfl := Option.some.inj H
                        go_enter Tryd.func40, Tryd.ntmps40
                        go_wp2
                        go_ret
                        exact ⟨by first | rfl | (simp; done) | (simp [*]; done), by repeat (first | exact Drawn0.refl _ | apply Drawn0.step)⟩
                      · rw [if_neg c12] at H
                        have c12b0 : (a0 == 505) = false := beq_eq_false_iff_ne.mpr c12
                        have c12b1 : (a0 != 505) = true := bne_iff_ne.mpr c12
                        obtain rfl := Option.some.inj H
                        go_enter Tryd.func40, Tryd.ntmps40
                        go_wp2
                        go_ret
                        exact ⟨by first | rfl | (simp; done) | (simp [*]; done), by repeat (first | exact Drawn0.refl _ | apply Drawn0.step)⟩

end Go.Proofs.YtcbimnmpdpkefaaDoor.A
