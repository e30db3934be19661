/- Printed by a changed copy of the kit's print.py for all laws of the seat at once (one namespace): functions and their contracts; some parts by hand. -/
import Derived.Test.YtcbimnmpdpkefaaAx0
import Derived.Test.YtcbimnmpdpkefaaAx7
namespace Go.Proofs.Ytcbimnmpdpkefaa.A
open Go.RowKit Go.Proofs.YtcbimnmpdpkefaaW.PrintWords Go.Proofs.YtcbimnmpdpkefaaW.PrintLast Go.Proofs.YtcbimnmpdpkefaaW.PrintMore
attribute [local go_sem] max2_int min2_int max_two min_two max_three min_three max_four min_four   -- for this text's walks alone
set_option linter.unusedVariables false
set_option linter.unusedSimpArgs false

/-! ### scholiastref01_Buffer_Place: function 28 -/
mutual
def scholiastref01_Buffer_Place.j0 : Nat → Int → Bool → ByteArray → Option (Int × Int × Int × ByteArray)
  | 0, _, _, _ => none
  | k + 1, x1, x20, x1000 => if x20 = true then (some (0, 0, 10, x1000)) else (scholiastref01_Buffer_Place.l0 k x1 0 0 0 x1000)
def scholiastref01_Buffer_Place.l0 : Nat → Int → Int → Int → Int → ByteArray → Option (Int × Int × Int × ByteArray)
  | 0, _, _, _, _, _ => none
  | k + 1, x1, x7, x8, x9, x1000 => if x9 < x1 then (if 0 ≤ x9 then (if x9 < (x1000.size : Int) then (if (bt x1000 x9) = 10 then (scholiastref01_Buffer_Place.l0 k x1 (wrap64 (x7 + 1)) (wrap64 (x9 + 1)) (wrap64 (x9 + 1)) x1000) else (scholiastref01_Buffer_Place.l0 k x1 x7 x8 (wrap64 (x9 + 1)) x1000)) else (none)) else (none)) else (some (x7, wrap64 (x1 - x8), 0, x1000))
end
def scholiastref01_Buffer_Place.f (k : Nat) (s0_0 : ByteArray) (a1 : Int) : Option (Int × Int × Int × ByteArray) := if a1 < 0 then (scholiastref01_Buffer_Place.j0 k a1 true s0_0) else (scholiastref01_Buffer_Place.j0 k a1 (decide (a1 > (s0_0.size : Int))) s0_0)
theorem scholiastref01_Buffer_Place.mono_l : ∀ k, (∀ y0 y1 y2, LeO (scholiastref01_Buffer_Place.j0 k y0 y1 y2) (scholiastref01_Buffer_Place.j0 (k + 1) y0 y1 y2)) ∧ (∀ y0 y1 y2 y3 y4, LeO (scholiastref01_Buffer_Place.l0 k y0 y1 y2 y3 y4) (scholiastref01_Buffer_Place.l0 (k + 1) y0 y1 y2 y3 y4))
  | 0 => ⟨fun _ _ _ r h => by simp [scholiastref01_Buffer_Place.j0] at h, fun _ _ _ _ _ r h => by simp [scholiastref01_Buffer_Place.l0] at h⟩
  | k + 1 => by
    obtain ⟨ih0, ih1⟩ := scholiastref01_Buffer_Place.mono_l k
    refine ⟨?_, ?_⟩
    · intro y0 y1 y2
      unfold scholiastref01_Buffer_Place.j0
      repeat' first
      | (with_reducible exact ih0 _ _ _)
      | (with_reducible exact ih1 _ _ _ _ _)
      | (with_reducible exact LeO.refl _)
      | (with_reducible exact LeO.none _)
      | (with_reducible refine LeO.ite ?_ ?_)
      | (with_reducible refine LeO.bind ?_ (fun _ => ?_))
      | exact ih0 _ _ _
      | exact ih1 _ _ _ _ _
      | exact LeO.none _
      | refine LeO.ite ?_ ?_
      | refine LeO.bind ?_ (fun _ => ?_)
    · intro y0 y1 y2 y3 y4
      unfold scholiastref01_Buffer_Place.l0
      repeat' first
      | (with_reducible exact ih0 _ _ _)
      | (with_reducible exact ih1 _ _ _ _ _)
      | (with_reducible exact LeO.refl _)
      | (with_reducible exact LeO.none _)
      | (with_reducible refine LeO.ite ?_ ?_)
      | (with_reducible refine LeO.bind ?_ (fun _ => ?_))
      | exact ih0 _ _ _
      | exact ih1 _ _ _ _ _
      | exact LeO.none _
      | refine LeO.ite ?_ ?_
      | refine LeO.bind ?_ (fun _ => ?_)
theorem scholiastref01_Buffer_Place.mono : ∀ a0 a1 k, LeO (scholiastref01_Buffer_Place.f k a0 a1) (scholiastref01_Buffer_Place.f (k + 1) a0 a1) := by
  intro a0 a1 k
  obtain ⟨ih0, ih1⟩ := scholiastref01_Buffer_Place.mono_l k
  unfold scholiastref01_Buffer_Place.f
  repeat' first
      | (with_reducible exact ih0 _ _ _)
      | (with_reducible exact ih1 _ _ _ _ _)
      | (with_reducible exact LeO.refl _)
      | (with_reducible exact LeO.none _)
      | (with_reducible refine LeO.ite ?_ ?_)
      | (with_reducible refine LeO.bind ?_ (fun _ => ?_))
      | exact ih0 _ _ _
      | exact ih1 _ _ _ _ _
      | exact LeO.none _
      | refine LeO.ite ?_ ?_
      | refine LeO.bind ?_ (fun _ => ?_)
set_option maxHeartbeats 8000000 in
set_option maxRecDepth 100000 in
theorem scholiastref01_Buffer_Place.calls (k : Nat) (g : Nat) (s0_0 : ByteArray) (a1 : Int) (r1 : Int) (r2 : Int) (r3 : Int) (r4 : ByteArray) (w0 w : World) (hI : IsS54 w0 w g s0_0) (hB : Below w0.heap.size w0 w) (h : scholiastref01_Buffer_Place.f k s0_0 a1 = some (r1, r2, r3, r4)) :
    Calls Try.prog 28 #[.pointer (some ⟨g, 0, none⟩), .int .i64 a1] w fun e w' => e = .returned (.tuple #[.int .i64 r1, .int .i64 r2, .int .i64 r3]) ∧ IsS54 w0 w' g r4 ∧ Below w0.heap.size w0 w' ∧ KeepBut w w' g none := by
  have HI0 := Aside0.mk hI
  have HK := Aside0.mk (KeepBut.refl w g none)
  have HL := Aside0.mk hB.size
  clear hI
  have HW0 := Aside0.mk hB.size
  have HB := Aside0.mk hB
  clear hB
  have H : (if a1 < 0 then (scholiastref01_Buffer_Place.j0 k a1 true s0_0) else (scholiastref01_Buffer_Place.j0 k a1 (decide (a1 > (s0_0.size : Int))) s0_0)) = some (r1, r2, r3, r4) := h
  clear h
  have HC3 := Aside0.mk H
  clear H
  go_enter Try.func28, Try.ntmps28
  go_upto_region 1 with (fail)
  go_cut [20] (fun v20 wc => ∃ (kq : Nat) (x20_2 : Bool), v20 = .bool x20_2 ∧ Aside0 (scholiastref01_Buffer_Place.j0 kq a1 x20_2 s0_0 = some (r1, r2, r3, r4)) ∧ Aside0 (kq ≤ k) ∧ Aside0 (IsS54 w0 wc g s0_0) ∧ Aside0 (KeepBut w wc g none) ∧ Aside0 (Below w0.heap.size w0 wc))
  case first =>
    have H := HC3.out
    clear HC3
    by_cases c4 : a1 < 0
    · rw [if_pos c4] at H
      have c4b0 : decide (a1 < 0) = true := decide_eq_true c4
      clear c4
      (first | rw [c4b0] | (simp only [i64_w, i32_w]; rw [c4b0]) | skip)
      have H' := Aside0.mk H
      clear H
      go_wp2
      go_meet
      case rel => exact ⟨_, (true), (by first | rfl | (simp; done) | (simp [*]; done)), H', ⟨by first | omega | exact Nat.le_refl _⟩, ⟨by repeat (first | (with_reducible first | exact HI0.out | apply IsS54.alloc | apply IsS54.drewN | apply IsS54.drew | apply IsS54.set_0) | exact HI0.out)⟩, ⟨by repeat (first | (with_reducible first | exact HK.out | apply KeepBut.set_ | apply keep_drewN | apply keep_drew | apply keep_alloc) | exact HK.out)⟩, ⟨by repeat (first | (with_reducible first | exact HB.out | apply below_alloc | apply pw_below_drewN | apply below_drew1 | refine below_set ?_ (IsS54.ge HI0.out)) | exact HB.out)⟩⟩
    · rw [if_neg c4] at H
      have c4b0 : decide (a1 < 0) = false := decide_eq_false c4
      clear c4
      (first | rw [c4b0] | (simp only [i64_w, i32_w]; rw [c4b0]) | skip)
      have H' := Aside0.mk H
      clear H
      obtain ⟨HGz5, hgz5⟩ := HI0.out
      have hcz5_0 := cellS54_0 HGz5
      have hfz5_0 := blk_frozen HGz5 0
      clear HGz5 hgz5
      go_wp2
      go_meet
      case rel => exact ⟨_, (decide (a1 > (s0_0.size : Int))), (by first | rfl | (simp; done) | (simp [*]; done)), H', ⟨by first | omega | exact Nat.le_refl _⟩, ⟨by repeat (first | (with_reducible first | exact HI0.out | apply IsS54.alloc | apply IsS54.drewN | apply IsS54.drew | apply IsS54.set_0) | exact HI0.out)⟩, ⟨by repeat (first | (with_reducible first | exact HK.out | apply KeepBut.set_ | apply keep_drewN | apply keep_drew | apply keep_alloc) | exact HK.out)⟩, ⟨by repeat (first | (with_reducible first | exact HB.out | apply below_alloc | apply pw_below_drewN | apply below_drew1 | refine below_set ?_ (IsS54.ge HI0.out)) | exact HB.out)⟩⟩
  case rest =>
    clear HC3
    try clear c2
    try clear p2
    try clear c4
    try clear c4b0
    try clear hcz5_0
    try clear hfz5_0
    obtain ⟨kq, x20_2, rfl, HA, HJ2, HI0, HK, HB⟩ := hcut
    cases kq with
    | zero => exact absurd HA.out (by simp [scholiastref01_Buffer_Place.j0])
    | succ kj2 =>
      have H := HA.out
      clear HA
      simp only [scholiastref01_Buffer_Place.j0] at H
      by_cases c6 : x20_2 = true
      · subst c6
        have H1 : (some (0, 0, 10, s0_0)) = some (r1, r2, r3, r4) := by rw [if_pos rfl] at H; exact H
        clear H
        have H := H1
        clear H1
        simp only [Option.some.injEq, Prod.mk.injEq] at H
        obtain ⟨rfl, rfl, rfl, rfl⟩ := H
        go_wp2
        go_ret3
        exact ⟨by first | rfl | (simp [errW_none, errW_some] <;> rfl) | (simp [*, errW_none, errW_some] <;> rfl), by repeat (first | (with_reducible first | exact HI0.out | apply IsS54.alloc | apply IsS54.drewN | apply IsS54.drew | apply IsS54.set_0) | exact HI0.out), by repeat (first | (with_reducible first | exact HB.out | apply below_alloc | apply pw_below_drewN | apply below_drew1 | refine below_set ?_ (IsS54.ge HI0.out)) | exact HB.out), by repeat (first | (with_reducible first | exact HK.out | apply KeepBut.set_ | apply keep_drewN | apply keep_drew | apply keep_alloc) | exact HK.out)⟩
      · replace c6 := Bool.eq_false_iff.mpr c6
        subst c6
        have H1 : (scholiastref01_Buffer_Place.l0 kj2 a1 0 0 0 s0_0) = some (r1, r2, r3, r4) := by rw [if_neg (show ¬ (false = true) by decide)] at H; exact H
        clear H
        have H := H1
        clear H1
        have H' := Aside0.mk H
        clear H
        go_wp2
        go_loopg [7, 8, 9] kj2 (fun kq v7 v8 v9 w' => ∃ (x7_2 : Int) (x8_2 : Int) (x9_2 : Int), v7 = .int .i64 x7_2 ∧ v8 = .int .i64 x8_2 ∧ v9 = .int .i64 x9_2 ∧ Aside0 (scholiastref01_Buffer_Place.l0 kq a1 x7_2 x8_2 x9_2 s0_0 = some (r1, r2, r3, r4)) ∧ Aside0 (kq ≤ kj2) ∧ Aside0 (IsS54 w0 w' g s0_0) ∧ Aside0 (KeepBut w w' g none) ∧ Aside0 (Below w0.heap.size w0 w'))
        case atStart => exact ⟨(0), (0), (0), (by first | rfl | (simp; done) | (simp [*]; done)), (by first | rfl | (simp; done) | (simp [*]; done)), (by first | rfl | (simp; done) | (simp [*]; done)), H', ⟨Nat.le_refl _⟩, ⟨by repeat (first | (with_reducible first | exact HI0.out | apply IsS54.alloc | apply IsS54.drewN | apply IsS54.drew | apply IsS54.set_0) | exact HI0.out)⟩, ⟨by repeat (first | (with_reducible first | exact HK.out | apply KeepBut.set_ | apply keep_drewN | apply keep_drew | apply keep_alloc) | exact HK.out)⟩, ⟨by repeat (first | (with_reducible first | exact HB.out | apply below_alloc | apply pw_below_drewN | apply below_drew1 | refine below_set ?_ (IsS54.ge HI0.out)) | exact HB.out)⟩⟩
        case round =>
          clear H'
          try clear c2
          try clear p2
          try clear c4
          try clear c4b0
          try clear c6
          try clear hcz5_0
          try clear hfz5_0
          try clear p2
          obtain ⟨x7_2, x8_2, x9_2, rfl, rfl, rfl, HA, HK2, HI0, HK, HB⟩ := hrel
          cases gk with
          | zero => exact absurd HA.out (by simp [scholiastref01_Buffer_Place.l0])
          | succ k2 =>
            have H := HA.out
            clear HA
            simp only [scholiastref01_Buffer_Place.l0] at H
            by_cases c7 : x9_2 < a1
            · rw [if_pos c7] at H
              have c7b0 : decide (x9_2 < a1) = true := decide_eq_true c7
              clear c7
              by_cases c8 : 0 ≤ x9_2
              · rw [if_pos c8] at H
                have c8b0 : decide (0 ≤ x9_2) = true := decide_eq_true c8
                clear c8
                by_cases c9 : x9_2 < (s0_0.size : Int)
                · rw [if_pos c9] at H
                  have c9b0 : decide (x9_2 < (s0_0.size : Int)) = true := decide_eq_true c9
                  clear c9
                  by_cases c11 : (bt s0_0 x9_2) = 10
                  · rw [if_pos c11] at H
                    have c11b0 : ((bt s0_0 x9_2) == 10) = true := beq_iff_eq.mpr c11
                    have c11b1 : ((bt s0_0 x9_2) != 10) = false := bne_eq_false_iff_eq.mpr c11
                    clear c11
                    have H' := Aside0.mk H
                    clear H
                    obtain ⟨HGz12, hgz12⟩ := HI0.out
                    have hcz12_0 := cellS54_0 HGz12
                    have hfz12_0 := blk_frozen HGz12 0
                    clear HGz12 hgz12
                    have p10 : 0 ≤ (x9_2 : Int) := of_decide_eq_true (by first | (with_reducible assumption) | assumption)
                    have q10 : x9_2 < (s0_0.size : Int) := of_decide_eq_true (by first | (with_reducible assumption) | assumption)
                    have hx10 := bt_at s0_0 x9_2
                    replace p10 := eq_true p10
                    replace q10 := eq_true q10
                    go_wp2
                    go_roundg k2
                    case measure => have := HJ2.out; have := HK2.out; omega
                    case rel => exact ⟨(wrap64 (x7_2 + 1)), (wrap64 (x9_2 + 1)), (wrap64 (x9_2 + 1)), (by first | rfl | (simp; done) | (simp [*]; done)), (by first | rfl | (simp; done) | (simp [*]; done)), (by first | rfl | (simp; done) | (simp [*]; done)), H', ⟨by have := HJ2.out; have := HK2.out; omega⟩, ⟨by repeat (first | (with_reducible first | exact HI0.out | apply IsS54.alloc | apply IsS54.drewN | apply IsS54.drew | apply IsS54.set_0) | exact HI0.out)⟩, ⟨by repeat (first | (with_reducible first | exact HK.out | apply KeepBut.set_ | apply keep_drewN | apply keep_drew | apply keep_alloc) | exact HK.out)⟩, ⟨by repeat (first | (with_reducible first | exact HB.out | apply below_alloc | apply pw_below_drewN | apply below_drew1 | refine below_set ?_ (IsS54.ge HI0.out)) | exact HB.out)⟩⟩
                  · rw [if_neg c11] at H
                    have c11b0 : ((bt s0_0 x9_2) == 10) = false := beq_eq_false_iff_ne.mpr c11
                    have c11b1 : ((bt s0_0 x9_2) != 10) = true := bne_iff_ne.mpr c11
                    have H' := Aside0.mk H
                    clear H
                    obtain ⟨HGz13, hgz13⟩ := HI0.out
                    have hcz13_0 := cellS54_0 HGz13
                    have hfz13_0 := blk_frozen HGz13 0
                    clear HGz13 hgz13
                    have p10 : 0 ≤ (x9_2 : Int) := of_decide_eq_true (by first | (with_reducible assumption) | assumption)
                    have q10 : x9_2 < (s0_0.size : Int) := of_decide_eq_true (by first | (with_reducible assumption) | assumption)
                    have hx10 := bt_at s0_0 x9_2
                    replace p10 := eq_true p10
                    replace q10 := eq_true q10
                    go_wp2
                    go_roundg k2
                    case measure => have := HJ2.out; have := HK2.out; omega
                    case rel => exact ⟨(x7_2), (x8_2), (wrap64 (x9_2 + 1)), (by first | rfl | (simp; done) | (simp [*]; done)), (by first | rfl | (simp; done) | (simp [*]; done)), (by first | rfl | (simp; done) | (simp [*]; done)), H', ⟨by have := HJ2.out; have := HK2.out; omega⟩, ⟨by repeat (first | (with_reducible first | exact HI0.out | apply IsS54.alloc | apply IsS54.drewN | apply IsS54.drew | apply IsS54.set_0) | exact HI0.out)⟩, ⟨by repeat (first | (with_reducible first | exact HK.out | apply KeepBut.set_ | apply keep_drewN | apply keep_drew | apply keep_alloc) | exact HK.out)⟩, ⟨by repeat (first | (with_reducible first | exact HB.out | apply below_alloc | apply pw_below_drewN | apply below_drew1 | refine below_set ?_ (IsS54.ge HI0.out)) | exact HB.out)⟩⟩
                · rw [if_neg c9] at H
                  exact absurd H (by simp)
              · rw [if_neg c8] at H
                exact absurd H (by simp)
            · rw [if_neg c7] at H
              have c7b0 : decide (x9_2 < a1) = false := decide_eq_false c7
              clear c7
              simp only [Option.some.injEq, Prod.mk.injEq] at H
              obtain ⟨rfl, rfl, rfl, rfl⟩ := H
              go_wp2
              go_ret3
              exact ⟨by first | rfl | (simp [errW_none, errW_some] <;> rfl) | (simp [*, errW_none, errW_some] <;> rfl), by repeat (first | (with_reducible first | exact HI0.out | apply IsS54.alloc | apply IsS54.drewN | apply IsS54.drew | apply IsS54.set_0) | exact HI0.out), by repeat (first | (with_reducible first | exact HB.out | apply below_alloc | apply pw_below_drewN | apply below_drew1 | refine below_set ?_ (IsS54.ge HI0.out)) | exact HB.out), by repeat (first | (with_reducible first | exact HK.out | apply KeepBut.set_ | apply keep_drewN | apply keep_drew | apply keep_alloc) | exact HK.out)⟩

end Go.Proofs.Ytcbimnmpdpkefaa.A
