/- Printed by a changed copy of the kit's print.py for all laws of the seat at once (one namespace): functions and their contracts; some parts by hand. -/
import Derived.Test.YtcbimnmpdpkefaaAx0
import Derived.Test.YtcbimnmpdpkefaaAx1
namespace Go.Proofs.Ytcbimnmpdpkefaa.A
open Go.RowKit Go.Proofs.YtcbimnmpdpkefaaW.PrintWords Go.Proofs.YtcbimnmpdpkefaaW.PrintLast Go.Proofs.YtcbimnmpdpkefaaW.PrintMore
attribute [local go_sem] max2_int min2_int max_two min_two max_three min_three max_four min_four   -- for this text's walks alone
set_option linter.unusedVariables false
set_option linter.unusedSimpArgs false

attribute [local go_sem high] eqA34
/-! ### scholiastlaw01_still: function 17 -/
mutual
def scholiastlaw01_still.j0 : Nat → List (S34) → List (S34) → Int → Bool → Option (Bool × (List (S34)))
  | 0, _, _, _, _ => none
  | k + 1, x0, x1, x5, x6 => scholiastlaw01_still.l0 k x0 x1 x5 x6 0
def scholiastlaw01_still.l0 : Nat → List (S34) → List (S34) → Int → Bool → Int → Option (Bool × (List (S34)))
  | 0, _, _, _, _, _ => none
  | k + 1, x0, x1, x5, x6, x7 => if x7 < x5 then (if x6 = true then (if 0 ≤ x7 then (if x7 < (x0.length : Int) then (if x7 < (x1.length : Int) then (scholiastlaw01_still.l0 k x0 x1 x5 (((rd_T34 x0 x7).f0) == ((rd_T34 x1 x7).f0) && (((rd_T34 x0 x7).f1) == ((rd_T34 x1 x7).f1) && ((((rd_T34 x0 x7).f2).toList) == (((rd_T34 x1 x7).f2).toList)))) (wrap64 (x7 + 1))) else (none)) else (none)) else (none)) else (scholiastlaw01_still.l0 k x0 x1 x5 false (wrap64 (x7 + 1)))) else (scholiastlaw01_still.l1 k x0 x6 0)
def scholiastlaw01_still.l1 : Nat → List (S34) → Bool → Int → Option (Bool × (List (S34)))
  | 0, _, _, _ => none
  | k + 1, x0, x6, x8 => if x8 < (x0.length : Int) then (if 0 ≤ x8 then (scholiastlaw01_still.l1 k (x0.set (x8 : Int).toNat (⟨0, 0, (⟨#[115, 112, 111, 105, 108, 116]⟩ : ByteArray)⟩ : S34)) x6 (wrap64 (x8 + 1))) else (none)) else (some (x6, x0))
end
def scholiastlaw01_still.f (k : Nat) (l0 : List (S34)) (l1 : List (S34)) : Option (Bool × (List (S34))) := if 0 ≤ (l1.length : Int) then (if (l1.length : Int) < (l0.length : Int) then (if ((rd_T34 l0 (l1.length : Int)).f2).toList = ([109, 97, 114, 107] : List UInt8) then (if 0 ≤ (wrap64 ((l1.length : Int) + 1)) then (if (wrap64 ((l1.length : Int) + 1)) < (l0.length : Int) then (scholiastlaw01_still.j0 k l0 l1 (l1.length : Int) (((rd_T34 l0 (wrap64 ((l1.length : Int) + 1))).f2).toList == ([98, 101, 104, 105, 110, 100] : List UInt8))) else (none)) else (none)) else (scholiastlaw01_still.j0 k l0 l1 (l1.length : Int) false)) else (none)) else (none)
theorem scholiastlaw01_still.mono_l : ∀ k, (∀ y0 y1 y2 y3, LeO (scholiastlaw01_still.j0 k y0 y1 y2 y3) (scholiastlaw01_still.j0 (k + 1) y0 y1 y2 y3)) ∧ (∀ y0 y1 y2 y3 y4, LeO (scholiastlaw01_still.l0 k y0 y1 y2 y3 y4) (scholiastlaw01_still.l0 (k + 1) y0 y1 y2 y3 y4)) ∧ (∀ y0 y1 y2, LeO (scholiastlaw01_still.l1 k y0 y1 y2) (scholiastlaw01_still.l1 (k + 1) y0 y1 y2))
  | 0 => ⟨fun _ _ _ _ r h => by simp [scholiastlaw01_still.j0] at h, fun _ _ _ _ _ r h => by simp [scholiastlaw01_still.l0] at h, fun _ _ _ r h => by simp [scholiastlaw01_still.l1] at h⟩
  | k + 1 => by
    obtain ⟨ih0, ih1, ih2⟩ := scholiastlaw01_still.mono_l k
    refine ⟨?_, ?_, ?_⟩
    · intro y0 y1 y2 y3
      unfold scholiastlaw01_still.j0
      repeat' first
      | (with_reducible exact ih0 _ _ _ _)
      | (with_reducible exact ih1 _ _ _ _ _)
      | (with_reducible exact ih2 _ _ _)
      | (with_reducible exact LeO.refl _)
      | (with_reducible exact LeO.none _)
      | (with_reducible refine LeO.ite ?_ ?_)
      | (with_reducible refine LeO.bind ?_ (fun _ => ?_))
      | exact ih0 _ _ _ _
      | exact ih1 _ _ _ _ _
      | exact ih2 _ _ _
      | exact LeO.none _
      | refine LeO.ite ?_ ?_
      | refine LeO.bind ?_ (fun _ => ?_)
    · intro y0 y1 y2 y3 y4
      unfold scholiastlaw01_still.l0
      repeat' first
      | (with_reducible exact ih0 _ _ _ _)
      | (with_reducible exact ih1 _ _ _ _ _)
      | (with_reducible exact ih2 _ _ _)
      | (with_reducible exact LeO.refl _)
      | (with_reducible exact LeO.none _)
      | (with_reducible refine LeO.ite ?_ ?_)
      | (with_reducible refine LeO.bind ?_ (fun _ => ?_))
      | exact ih0 _ _ _ _
      | exact ih1 _ _ _ _ _
      | exact ih2 _ _ _
      | exact LeO.none _
      | refine LeO.ite ?_ ?_
      | refine LeO.bind ?_ (fun _ => ?_)
    · intro y0 y1 y2
      unfold scholiastlaw01_still.l1
      repeat' first
      | (with_reducible exact ih0 _ _ _ _)
      | (with_reducible exact ih1 _ _ _ _ _)
      | (with_reducible exact ih2 _ _ _)
      | (with_reducible exact LeO.refl _)
      | (with_reducible exact LeO.none _)
      | (with_reducible refine LeO.ite ?_ ?_)
      | (with_reducible refine LeO.bind ?_ (fun _ => ?_))
      | exact ih0 _ _ _ _
      | exact ih1 _ _ _ _ _
      | exact ih2 _ _ _
      | exact LeO.none _
      | refine LeO.ite ?_ ?_
      | refine LeO.bind ?_ (fun _ => ?_)
theorem scholiastlaw01_still.mono : ∀ a0 a1 k, LeO (scholiastlaw01_still.f k a0 a1) (scholiastlaw01_still.f (k + 1) a0 a1) := by
  intro a0 a1 k
  obtain ⟨ih0, ih1, ih2⟩ := scholiastlaw01_still.mono_l k
  unfold scholiastlaw01_still.f
  repeat' first
      | (with_reducible exact ih0 _ _ _ _)
      | (with_reducible exact ih1 _ _ _ _ _)
      | (with_reducible exact ih2 _ _ _)
      | (with_reducible exact LeO.refl _)
      | (with_reducible exact LeO.none _)
      | (with_reducible refine LeO.ite ?_ ?_)
      | (with_reducible refine LeO.bind ?_ (fun _ => ?_))
      | exact ih0 _ _ _ _
      | exact ih1 _ _ _ _ _
      | exact ih2 _ _ _
      | exact LeO.none _
      | refine LeO.ite ?_ ?_
      | refine LeO.bind ?_ (fun _ => ?_)
set_option maxHeartbeats 8000000 in
set_option maxRecDepth 100000 in
theorem scholiastlaw01_still.calls (k : Nat) (P0_ : Nat → Prop) (u9000_ : Value) (l0 : List (S34)) (A1 : Option Addr) (c1 : Nat) (l1 : List (S34)) (r1 : Bool) (r2 : List (S34)) (w0 w : World) (hB : Below w0.heap.size w0 w) (ho0 : Kd.R k34 34 w w0.heap.size P0_ u9000_ l0) (hr1 : ∀ W_, Kept w W_ (fun k_ => P0_ k_) → Kd.C k34 W_ A1 l1.length l1) (hc1 : l1.length ≤ c1) (h : scholiastlaw01_still.f k l0 l1 = some (r1, r2)) :
    Calls Try.prog 17 #[u9000_, .slice A1 l1.length c1] w fun e w' => e = .returned (.bool r1) ∧ Kd.R k34 34 w' w0.heap.size (fun k_ => (P0_ k_ ∨ w.heap.size ≤ k_)) u9000_ r2 ∧ Below w0.heap.size w0 w' ∧ Kept w w' (fun k_ => P0_ k_) := by
  have hu34 := Try.underlying34
  have HO0 := Aside0.mk (show Kd.R k34 34 w w0.heap.size (fun k_ => (P0_ k_ ∨ w.heap.size ≤ k_)) u9000_ l0 from Kd.R_mono ho0 (fun k_ hk => (.inl hk)))
  have HR1 := Aside0.mk hr1
  have HC1 := Aside0.mk hc1
  clear hr1 hc1
  have HK := Aside0.mk (Kept.refl w (fun k_ => P0_ k_))
  have HW0 := Aside0.mk hB.size
  have HB := Aside0.mk hB
  clear hB
  have H : (if 0 ≤ (l1.length : Int) then (if (l1.length : Int) < (l0.length : Int) then (if ((rd_T34 l0 (l1.length : Int)).f2).toList = ([109, 97, 114, 107] : List UInt8) then (if 0 ≤ (wrap64 ((l1.length : Int) + 1)) then (if (wrap64 ((l1.length : Int) + 1)) < (l0.length : Int) then (scholiastlaw01_still.j0 k l0 l1 (l1.length : Int) (((rd_T34 l0 (wrap64 ((l1.length : Int) + 1))).f2).toList == ([98, 101, 104, 105, 110, 100] : List UInt8))) else (none)) else (none)) else (scholiastlaw01_still.j0 k l0 l1 (l1.length : Int) false)) else (none)) else (none)) = some (r1, r2) := h
  clear h
  have HC3 := Aside0.mk H
  clear H
  go_enter Try.func17, Try.ntmps17
  go_upto_region 2 with (fail)
  repeat (go_quiet (fail); go_upto_region 2 with (fail))
  go_cut [6] (fun v6 wc => ∃ (kq : Nat) (x6_2 : Bool), v6 = .bool x6_2 ∧ Aside0 (scholiastlaw01_still.j0 kq l0 l1 (l1.length : Int) x6_2 = some (r1, r2)) ∧ Aside0 (kq ≤ k) ∧ Aside0 (Kd.R k34 34 wc w0.heap.size (fun k_ => (P0_ k_ ∨ w.heap.size ≤ k_)) u9000_ l0) ∧ Aside0 (Kept w wc (fun k_ => P0_ k_)) ∧ Aside0 (Below w0.heap.size w0 wc))
  case first =>
    have H := HC3.out
    clear HC3
    by_cases c4 : 0 ≤ (l1.length : Int)
    · rw [if_pos c4] at H
      have c4b0 : decide (0 ≤ (l1.length : Int)) = true := decide_eq_true c4
      have c4b1 : decide (0 ≤ l1.length) = true := decide_eq_true (by omega)
      clear c4
      (first | rw [c4b0] | (simp only [i64_w, i32_w]; rw [c4b0]) | skip)
      by_cases c5 : (l1.length : Int) < (l0.length : Int)
      · rw [if_pos c5] at H
        have c5b0 : decide ((l1.length : Int) < (l0.length : Int)) = true := decide_eq_true c5
        have c5b1 : decide (l1.length < l0.length) = true := decide_eq_true (Int.ofNat_lt.mp c5)
        clear c5
        by_cases c6 : ((rd_T34 l0 (l1.length : Int)).f2).toList = ([109, 97, 114, 107] : List UInt8)
        · rw [if_pos c6] at H
          have c6b0 : (((rd_T34 l0 (l1.length : Int)).f2).toList == ([109, 97, 114, 107] : List UInt8)) = true := beq_iff_eq.mpr c6
          have c6b1 : (((rd_T34 l0 (l1.length : Int)).f2).toList != ([109, 97, 114, 107] : List UInt8)) = false := bne_eq_false_iff_eq.mpr c6
          clear c6
          obtain ⟨ji7, hji7⟩ : ∃ j_ : Int, (wrap64 ((l1.length : Int) + 1)) = j_ := ⟨_, rfl⟩
          replace H : (if 0 ≤ (ji7) then (if (ji7) < (l0.length : Int) then (scholiastlaw01_still.j0 k l0 l1 (l1.length : Int) (((rd_T34 l0 (ji7)).f2).toList == ([98, 101, 104, 105, 110, 100] : List UInt8))) else (none)) else (none)) = some (r1, r2) := by first | (rw [hji7] at H; exact H) | (simp only [hji7] at H ⊢; exact H)
          have hji7w : (IntKind.i64.wrap ((l1.length : Int) + 1)) = ji7 := (i64_w _).trans hji7
          by_cases c8 : 0 ≤ (ji7)
          · rw [if_pos c8] at H
            have c8b0 : decide (0 ≤ (ji7)) = true := decide_eq_true c8
            clear c8
            by_cases c9 : (ji7) < (l0.length : Int)
            · rw [if_pos c9] at H
              have c9b0 : decide ((ji7) < (l0.length : Int)) = true := decide_eq_true c9
              clear c9
              have H' := Aside0.mk H
              clear H
              obtain ⟨Ao10, co10, eo10⟩ := Kd.R_slice HO0.out
              subst eo10
              have p130 : 0 ≤ ((l1.length : Int) : Int) := of_decide_eq_true (by first | (with_reducible assumption) | assumption)
              have q130 : (l1.length : Int) < (l0.length : Int) := of_decide_eq_true (by first | (with_reducible assumption) | assumption)
              obtain ⟨ad130, e130, hx130_0, hx130_1, hx130_2⟩ := at_T34 (Kd.R_reads' HO0.out).2.2 (l1.length : Int) p130 q130
              cases e130
              (try simp only [Go.IntWalk.toNatUp] at hx130_0)
              (try simp only [Go.IntWalk.toNatUp] at hx130_1)
              (try simp only [Go.IntWalk.toNatUp] at hx130_2)
              replace p130 := eq_true p130
              replace q130 := eq_true q130
              have p131 : 0 ≤ ((ji7) : Int) := of_decide_eq_true (by first | (with_reducible assumption) | assumption)
              have q131 : (ji7) < (l0.length : Int) := of_decide_eq_true (by first | (with_reducible assumption) | assumption)
              obtain ⟨ad131, e131, hx131_0, hx131_1, hx131_2⟩ := at_T34 (Kd.R_reads' HO0.out).2.2 (ji7) p131 q131
              obtain rfl : ad130 = ad131 := (by injection e131)
              replace p131 := eq_true p131
              replace q131 := eq_true q131
              go_wp2
              repeat (go_quiet (fail); try go_wp2)
              go_meet
              case rel => exact ⟨_, ((((rd_T34 l0 (ji7)).f2).toList == ([98, 101, 104, 105, 110, 100] : List UInt8))), (by first | rfl | (simp; done) | (simp only [← hji7] <;> (first | rfl | simp)) | (simp [*]; done)), H', ⟨by first | omega | exact Nat.le_refl _⟩, ⟨by (with_reducible repeat (first | apply Kd.R_alloc | apply Kd.R_drewN | apply Kd.R_drew)); exact HO0.out⟩, ⟨by repeat (first | (with_reducible first | exact HK.out | apply Kept.alloc | apply Kept.drewN | apply Kept.drew) | exact HK.out)⟩, ⟨by repeat (first | (with_reducible first | exact HB.out | apply below_alloc | apply pw_below_drewN | apply below_drew1) | exact HB.out)⟩⟩
            · rw [if_neg c9] at H
              exact absurd H (by simp)
          · rw [if_neg c8] at H
            exact absurd H (by simp)
        · rw [if_neg c6] at H
          have c6b0 : (((rd_T34 l0 (l1.length : Int)).f2).toList == ([109, 97, 114, 107] : List UInt8)) = false := beq_eq_false_iff_ne.mpr c6
          have c6b1 : (((rd_T34 l0 (l1.length : Int)).f2).toList != ([109, 97, 114, 107] : List UInt8)) = true := bne_iff_ne.mpr c6
          have H' := Aside0.mk H
          clear H
          obtain ⟨Ao11, co11, eo11⟩ := Kd.R_slice HO0.out
          subst eo11
          have p130 : 0 ≤ ((l1.length : Int) : Int) := of_decide_eq_true (by first | (with_reducible assumption) | assumption)
          have q130 : (l1.length : Int) < (l0.length : Int) := of_decide_eq_true (by first | (with_reducible assumption) | assumption)
          obtain ⟨ad130, e130, hx130_0, hx130_1, hx130_2⟩ := at_T34 (Kd.R_reads' HO0.out).2.2 (l1.length : Int) p130 q130
          cases e130
          (try simp only [Go.IntWalk.toNatUp] at hx130_0)
          (try simp only [Go.IntWalk.toNatUp] at hx130_1)
          (try simp only [Go.IntWalk.toNatUp] at hx130_2)
          replace p130 := eq_true p130
          replace q130 := eq_true q130
          go_wp2
          repeat (go_quiet (fail); try go_wp2)
          go_meet
          case rel => exact ⟨_, (false), (by first | rfl | (simp; done) | (simp [*]; done)), H', ⟨by first | omega | exact Nat.le_refl _⟩, ⟨by (with_reducible repeat (first | apply Kd.R_alloc | apply Kd.R_drewN | apply Kd.R_drew)); exact HO0.out⟩, ⟨by repeat (first | (with_reducible first | exact HK.out | apply Kept.alloc | apply Kept.drewN | apply Kept.drew) | exact HK.out)⟩, ⟨by repeat (first | (with_reducible first | exact HB.out | apply below_alloc | apply pw_below_drewN | apply below_drew1) | exact HB.out)⟩⟩
      · rw [if_neg c5] at H
        exact absurd H (by simp)
    · rw [if_neg c4] at H
      exact absurd H (by simp)
  case rest =>
    clear HC3
    try clear c1
    try clear p1
    try clear q1
    try clear hx1
    try clear p2
    try clear c4
    try clear c4b0
    try clear c4b1
    try clear c5
    try clear c5b0
    try clear c5b1
    try clear c6
    try clear c6b0
    try clear c6b1
    try clear p6
    try clear c8
    try clear c8b0
    try clear c9
    try clear c9b0
    try clear hx130_0
    try clear hx130_1
    try clear hx130_2
    try clear hx131_0
    try clear hx131_1
    try clear hx131_2
    try clear p130
    try clear p131
    try clear q130
    try clear q131
    obtain ⟨kq, x6_2, rfl, HA, HJ2, HO_0, HK, HB⟩ := hcut
    cases kq with
    | zero => exact absurd HA.out (by simp [scholiastlaw01_still.j0])
    | succ kj2 =>
      have H := HA.out
      clear HA
      simp only [scholiastlaw01_still.j0] at H
      have H' := Aside0.mk H
      clear H
      go_wp2
      repeat (go_quiet (fail); try go_wp2)
      go_loopg [6, 7] kj2 (fun kq v6 v7 w' => ∃ (x6_2 : Bool) (x7_2 : Int), v6 = .bool x6_2 ∧ v7 = .int .i64 x7_2 ∧ Aside0 (scholiastlaw01_still.l0 kq l0 l1 (l1.length : Int) x6_2 x7_2 = some (r1, r2)) ∧ Aside0 (kq ≤ kj2) ∧ Aside0 (Kd.R k34 34 w' w0.heap.size (fun k_ => (P0_ k_ ∨ w.heap.size ≤ k_)) u9000_ l0) ∧ Aside0 (Kept w w' (fun k_ => P0_ k_)) ∧ Aside0 (Below w0.heap.size w0 w'))
      case atStart => exact ⟨(x6_2), (0), (by first | rfl | (simp; done) | (simp [*]; done)), (by first | rfl | (simp; done) | (simp [*]; done)), H', ⟨Nat.le_refl _⟩, ⟨by (with_reducible repeat (first | apply Kd.R_alloc | apply Kd.R_drewN | apply Kd.R_drew)); exact HO_0.out⟩, ⟨by repeat (first | (with_reducible first | exact HK.out | apply Kept.alloc | apply Kept.drewN | apply Kept.drew) | exact HK.out)⟩, ⟨by repeat (first | (with_reducible first | exact HB.out | apply below_alloc | apply pw_below_drewN | apply below_drew1) | exact HB.out)⟩⟩
      case round =>
        clear H'
        try clear c1
        try clear p1
        try clear q1
        try clear hx1
        try clear p2
        try clear c4
        try clear c4b0
        try clear c4b1
        try clear c5
        try clear c5b0
        try clear c5b1
        try clear c6
        try clear c6b0
        try clear c6b1
        try clear p6
        try clear c8
        try clear c8b0
        try clear c9
        try clear c9b0
        try clear hx130_0
        try clear hx130_1
        try clear hx130_2
        try clear hx131_0
        try clear hx131_1
        try clear hx131_2
        try clear p1
        try clear p130
        try clear p131
        try clear p2
        try clear p6
        try clear q1
        try clear q130
        try clear q131
        obtain ⟨x6_2, x7_2, rfl, rfl, HA, HK2, HO_0, HK, HB⟩ := hrel
        cases gk with
        | zero => exact absurd HA.out (by simp [scholiastlaw01_still.l0])
        | succ k2 =>
          have H := HA.out
          clear HA
          simp only [scholiastlaw01_still.l0] at H
          by_cases c12 : x7_2 < (l1.length : Int)
          · rw [if_pos c12] at H
            have c12b0 : decide (x7_2 < (l1.length : Int)) = true := decide_eq_true c12
            clear c12
            by_cases c13 : x6_2 = true
            · subst c13
              have H1 : (if 0 ≤ x7_2 then (if x7_2 < (l0.length : Int) then (if x7_2 < (l1.length : Int) then (scholiastlaw01_still.l0 k2 l0 l1 (l1.length : Int) (((rd_T34 l0 x7_2).f0) == ((rd_T34 l1 x7_2).f0) && (((rd_T34 l0 x7_2).f1) == ((rd_T34 l1 x7_2).f1) && ((((rd_T34 l0 x7_2).f2).toList) == (((rd_T34 l1 x7_2).f2).toList)))) (wrap64 (x7_2 + 1))) else (none)) else (none)) else (none)) = some (r1, r2) := by rw [if_pos rfl] at H; exact H
              clear H
              have H := H1
              clear H1
              by_cases c14 : 0 ≤ x7_2
              · rw [if_pos c14] at H
                have c14b0 : decide (0 ≤ x7_2) = true := decide_eq_true c14
                clear c14
                by_cases c15 : x7_2 < (l0.length : Int)
                · rw [if_pos c15] at H
                  have c15b0 : decide (x7_2 < (l0.length : Int)) = true := decide_eq_true c15
                  clear c15
                  by_cases c16 : x7_2 < (l1.length : Int)
                  · rw [if_pos c16] at H
                    have c16b0 : decide (x7_2 < (l1.length : Int)) = true := decide_eq_true c16
                    clear c16
                    have H' := Aside0.mk H
                    clear H
                    obtain ⟨Ao17, co17, eo17⟩ := Kd.R_slice HO_0.out
                    subst eo17
                    have p132 : 0 ≤ (x7_2 : Int) := of_decide_eq_true (by first | (with_reducible assumption) | assumption)
                    have q132 : x7_2 < (l0.length : Int) := of_decide_eq_true (by first | (with_reducible assumption) | assumption)
                    obtain ⟨ad132, e132, hx132_0, hx132_1, hx132_2⟩ := at_T34 (Kd.R_reads' HO_0.out).2.2 x7_2 p132 q132
                    cases e132
                    replace p132 := eq_true p132
                    replace q132 := eq_true q132
                    have p133 : 0 ≤ (x7_2 : Int) := of_decide_eq_true (by first | (with_reducible assumption) | assumption)
                    have q133 : x7_2 < (l1.length : Int) := of_decide_eq_true (by first | (with_reducible assumption) | assumption)
                    obtain ⟨ad133, e133, hx133_0, hx133_1, hx133_2⟩ := at_T34 (Kd.C_kept_now HR1.out HK.out) x7_2 p133 q133
                    cases e133
                    replace p133 := eq_true p133
                    replace q133 := eq_true q133
                    go_wp2
                    repeat (go_quiet (fail); try go_wp2)
                    go_roundg k2
                    case measure => have := HJ2.out; have := HK2.out; omega
                    case rel => exact ⟨((((rd_T34 l0 x7_2).f0) == ((rd_T34 l1 x7_2).f0) && (((rd_T34 l0 x7_2).f1) == ((rd_T34 l1 x7_2).f1) && ((((rd_T34 l0 x7_2).f2).toList) == (((rd_T34 l1 x7_2).f2).toList))))), (wrap64 (x7_2 + 1)), (by first | rfl | (simp; done) | (simp [*]; done)), (by first | rfl | (simp; done) | (simp [*]; done)), H', ⟨by have := HJ2.out; have := HK2.out; omega⟩, ⟨by (with_reducible repeat (first | apply Kd.R_alloc | apply Kd.R_drewN | apply Kd.R_drew)); exact HO_0.out⟩, ⟨by repeat (first | (with_reducible first | exact HK.out | apply Kept.alloc | apply Kept.drewN | apply Kept.drew) | exact HK.out)⟩, ⟨by repeat (first | (with_reducible first | exact HB.out | apply below_alloc | apply pw_below_drewN | apply below_drew1) | exact HB.out)⟩⟩
                  · rw [if_neg c16] at H
                    exact absurd H (by simp)
                · rw [if_neg c15] at H
                  exact absurd H (by simp)
              · rw [if_neg c14] at H
                exact absurd H (by simp)
            · replace c13 := Bool.eq_false_iff.mpr c13
              subst c13
              have H1 : (scholiastlaw01_still.l0 k2 l0 l1 (l1.length : Int) false (wrap64 (x7_2 + 1))) = some (r1, r2) := by rw [if_neg (show ¬ (false = true) by decide)] at H; exact H
              clear H
              have H := H1
              clear H1
              have H' := Aside0.mk H
              clear H
              go_wp2
              repeat (go_quiet (fail); try go_wp2)
              go_roundg k2
              case measure => have := HJ2.out; have := HK2.out; omega
              case rel => exact ⟨(false), (wrap64 (x7_2 + 1)), (by first | rfl | (simp; done) | (simp [*]; done)), (by first | rfl | (simp; done) | (simp [*]; done)), H', ⟨by have := HJ2.out; have := HK2.out; omega⟩, ⟨by (with_reducible repeat (first | apply Kd.R_alloc | apply Kd.R_drewN | apply Kd.R_drew)); exact HO_0.out⟩, ⟨by repeat (first | (with_reducible first | exact HK.out | apply Kept.alloc | apply Kept.drewN | apply Kept.drew) | exact HK.out)⟩, ⟨by repeat (first | (with_reducible first | exact HB.out | apply below_alloc | apply pw_below_drewN | apply below_drew1) | exact HB.out)⟩⟩
          · rw [if_neg c12] at H
            have c12b0 : decide (x7_2 < (l1.length : Int)) = false := decide_eq_false c12
            clear c12
            have H' := Aside0.mk H
            clear H
            go_wp2
            repeat (go_quiet (fail); try go_wp2)
            go_loopg [8] k2 (fun kq v8 w' => ∃ (x0_3 : List (S34)) (x8_3 : Int), v8 = .int .i64 x8_3 ∧ Aside0 (scholiastlaw01_still.l1 kq x0_3 x6_2 x8_3 = some (r1, r2)) ∧ Aside0 (kq ≤ k2) ∧ Aside0 (Kd.R k34 34 w' w0.heap.size (fun k_ => (P0_ k_ ∨ w.heap.size ≤ k_)) u9000_ x0_3) ∧ Aside0 (Kept w w' (fun k_ => P0_ k_)) ∧ Aside0 (Below w0.heap.size w0 w'))
            case atStart => exact ⟨(l0), (0), (by first | rfl | (simp; done) | (simp [*]; done)), H', ⟨Nat.le_refl _⟩, ⟨by (with_reducible repeat (first | apply Kd.R_alloc | apply Kd.R_drewN | apply Kd.R_drew)); exact HO_0.out⟩, ⟨by repeat (first | (with_reducible first | exact HK.out | apply Kept.alloc | apply Kept.drewN | apply Kept.drew) | exact HK.out)⟩, ⟨by repeat (first | (with_reducible first | exact HB.out | apply below_alloc | apply pw_below_drewN | apply below_drew1) | exact HB.out)⟩⟩
            case round =>
              clear H'
              try clear c1
              try clear p1
              try clear q1
              try clear hx1
              try clear p2
              try clear c4
              try clear c4b0
              try clear c4b1
              try clear c5
              try clear c5b0
              try clear c5b1
              try clear c6
              try clear c6b0
              try clear c6b1
              try clear p6
              try clear c8
              try clear c8b0
              try clear c9
              try clear c9b0
              try clear c12
              try clear c12b0
              try clear c13
              try clear p13
              try clear q13
              try clear hx13
              try clear c14
              try clear c14b0
              try clear c15
              try clear c15b0
              try clear c16
              try clear c16b0
              try clear c17
              try clear hx130_0
              try clear hx130_1
              try clear hx130_2
              try clear hx131_0
              try clear hx131_1
              try clear hx131_2
              try clear hx132_0
              try clear hx132_1
              try clear hx132_2
              try clear hx133_0
              try clear hx133_1
              try clear hx133_2
              try clear p1
              try clear p130
              try clear p131
              try clear p132
              try clear p133
              try clear p2
              try clear p6
              try clear q1
              try clear q130
              try clear q131
              try clear q132
              try clear q133
              obtain ⟨x0_3, x8_3, rfl, HA, HK3, HO_0, HK, HB⟩ := hrel
              cases gk with
              | zero => exact absurd HA.out (by simp [scholiastlaw01_still.l1])
              | succ k3 =>
                have H := HA.out
                clear HA
                simp only [scholiastlaw01_still.l1] at H
                by_cases c18 : x8_3 < (x0_3.length : Int)
                · rw [if_pos c18] at H
                  have c18b0 : decide (x8_3 < (x0_3.length : Int)) = true := decide_eq_true c18
                  clear c18
                  by_cases c19 : 0 ≤ x8_3
                  · rw [if_pos c19] at H
                    have c19b0 : decide (0 ≤ x8_3) = true := decide_eq_true c19
                    clear c19
                    obtain ⟨y134, hy134⟩ : ∃ y_ : List (S34), y_ = (x0_3.set (x8_3 : Int).toNat (⟨0, 0, (⟨#[115, 112, 111, 105, 108, 116]⟩ : ByteArray)⟩ : S34)) := ⟨_, rfl⟩
                    replace H : (scholiastlaw01_still.l1 k3 y134 x6_2 (wrap64 (x8_3 + 1))) = some (r1, r2) := by first | (rw [hy134]; with_reducible exact H) | (have H2_ := (Option.bind_some _ _).symm.trans H; rw [hy134]; with_reducible exact H2_) | (have H2_ := (Option.bind_some _ _).symm.trans H; with_reducible exact H2_) | with_reducible exact H | (rw [hy134]; exact H) | exact H
                    have Ny134 := Aside0.mk hy134
                    clear hy134
                    have H' := Aside0.mk H
                    clear H
                    obtain ⟨Ao21, co21, eo21⟩ := Kd.R_slice HO_0.out
                    subst eo21
                    have p20 : 0 ≤ (x8_3 : Int) := of_decide_eq_true (by first | (with_reducible assumption) | assumption)
                    have q20 : (x8_3 : Int) < ((x0_3.length : Int) : Int) := of_decide_eq_true (by first | (with_reducible assumption) | assumption)
                    obtain ⟨go20, co20, eo20, gb20, gl20, cl20, HG20⟩ := Kd.R_form HO_0.out (by omega)
                    (first | cases eo20 | (injection eo20 with ea_ en_ ec_; (first | subst ea_ | (injection ea_ with ea_; subst ea_)); subst ec_; clear en_))
                    have GB20 := Aside0.mk gb20
                    have GG20 := Aside0.mk HG20
                    clear gb20 gl20 HG20
                    have HMgo20 := Aside0.mk (show (P0_ go20 ∨ w.heap.size ≤ go20) from (HO_0.out.1 _ rfl))
                    obtain ⟨ce20, hcl20, hM20, hcc20, hfr20⟩ := Kd.R_elem HO_0.out z34 (x8_3 : Int) p20 q20
                    obtain rfl := k34_openM hM20
                    have hx20_0 : wr.cell? ⟨go20, (x8_3 : Int).toNat * 3, none⟩ = some (.int .i64 ((rd_T34 x0_3 x8_3).f0)) := hcc20 0 _ rfl
                    have hx20_1 : wr.cell? ⟨go20, (x8_3 : Int).toNat * 3 + 1, none⟩ = some (.int .i64 ((rd_T34 x0_3 x8_3).f1)) := hcc20 1 _ rfl
                    have hx20_2 : wr.cell? ⟨go20, (x8_3 : Int).toNat * 3 + 2, none⟩ = some (.string ((rd_T34 x0_3 x8_3).f2)) := hcc20 2 _ rfl
                    have hf20_0 : wr.frozen? ⟨go20, (x8_3 : Int).toNat * 3, none⟩ = false := hfr20 0
                    have hf20_1 : wr.frozen? ⟨go20, (x8_3 : Int).toNat * 3 + 1, none⟩ = false := hfr20 1
                    have hf20_2 : wr.frozen? ⟨go20, (x8_3 : Int).toNat * 3 + 2, none⟩ = false := hfr20 2
                    clear hcl20 hcc20 hfr20 hM20
                    replace p20 := eq_true p20
                    replace q20 := eq_true q20
                    have HX22 := Aside0.mk (show Kd.R k34 34 wr w0.heap.size (fun k_ => (P0_ k_ ∨ w.heap.size ≤ k_)) (.slice (some ⟨go20, 0, none⟩) x0_3.length co21) x0_3 from (by (with_reducible repeat (first | apply Kd.R_alloc | apply Kd.R_drewN | apply Kd.R_drew)); exact HO_0.out))
                    obtain ⟨ce22, hcl22, hM22, hcc22, hfr22⟩ := Kd.R_elem HX22.out z34 (x8_3 : Int) (of_decide_eq_true (by first | (with_reducible assumption) | assumption)) (by have h_ : (x8_3 : Int) < ((x0_3.length : Int) : Int) := of_decide_eq_true (by first | (with_reducible assumption) | assumption); first | exact h_ | (have e_ := (Kd.R_reads' HO_0.out).1; omega) | simpa using h_)
                    obtain rfl := k34_openM hM22
                    have HP22 := Kd.R_seg HX22.out (x8_3 : Int) (of_decide_eq_true (by first | (with_reducible assumption) | assumption)) (by have h_ : (x8_3 : Int) < ((x0_3.length : Int) : Int) := of_decide_eq_true (by first | (with_reducible assumption) | assumption); first | exact h_ | (have e_ := (Kd.R_reads' HO_0.out).1; omega) | simpa using h_) (seg := [.int .i64 0, .int .i64 0, .string (⟨#[115, 112, 111, 105, 108, 116]⟩ : ByteArray)]) (j := 0) hcl22 hcc22 (show 3 ≤ 3 from by decide) (x' := (⟨0, 0, (⟨#[115, 112, 111, 105, 108, 116]⟩ : ByteArray)⟩ : S34)) (k34_mkM _ _ _ (⟨0, 0, (⟨#[115, 112, 111, 105, 108, 116]⟩ : ByteArray)⟩ : S34) ) (fun _ hk => hk)
                    have hx22_0 := hcc22 0 _ rfl
                    (try simp only [show (k34).sz = 3 from rfl, Nat.mul_one, Nat.add_zero] at hx22_0)
                    have hf22_0 := hfr22 0
                    (try simp only [show (k34).sz = 3 from rfl, Nat.mul_one, Nat.add_zero] at hf22_0)
                    have hx22_1 := hcc22 1 _ rfl
                    (try simp only [show (k34).sz = 3 from rfl, Nat.mul_one, Nat.add_zero] at hx22_1)
                    have hf22_1 := hfr22 1
                    (try simp only [show (k34).sz = 3 from rfl, Nat.mul_one, Nat.add_zero] at hf22_1)
                    have hx22_2 := hcc22 2 _ rfl
                    (try simp only [show (k34).sz = 3 from rfl, Nat.mul_one, Nat.add_zero] at hx22_2)
                    have hf22_2 := hfr22 2
                    (try simp only [show (k34).sz = 3 from rfl, Nat.mul_one, Nat.add_zero] at hf22_2)
                    clear hcl22 hcc22 hfr22 hM22
                    go_wp2_with (first | ((with_reducible refine gate_store (t := 34) (p := 52) rfl ?_); (try (rw [drewN_self wr]; generalize hq_ : World.drewN wr _ = wr; have n0_ := Aside0.mk (Kd.R_at hq_ HO_0.out); have n1_ := Aside0.mk (kept_at hq_ HK.out); have n2_ := Aside0.mk (below_at hq_ HB.out); clear hq_ HO_0 HK HB; have HO_0 := n0_; have HK := n1_; have HB := n2_; clear n0_ n1_ n2_; (try (have HX22 := Aside0.mk (show Kd.R k34 34 wr w0.heap.size (fun k_ => (P0_ k_ ∨ w.heap.size ≤ k_)) (.slice (some ⟨go20, 0, none⟩) x0_3.length co21) x0_3 from (by (with_reducible repeat (first | apply Kd.R_alloc | apply Kd.R_drewN | apply Kd.R_drew)); exact HO_0.out)))); (try (obtain ⟨ce22, hcl22, hM22, hcc22, hfr22⟩ := Kd.R_elem HX22.out z34 (x8_3 : Int) (of_decide_eq_true (by first | (with_reducible assumption) | assumption)) (by have h_ : (x8_3 : Int) < ((x0_3.length : Int) : Int) := of_decide_eq_true (by first | (with_reducible assumption) | assumption); first | exact h_ | (have e_ := (Kd.R_reads' HO_0.out).1; omega) | simpa using h_))); (try (obtain rfl := k34_openM hM22)); (try (have HP22 := Kd.R_seg HX22.out (x8_3 : Int) (of_decide_eq_true (by first | (with_reducible assumption) | assumption)) (by have h_ : (x8_3 : Int) < ((x0_3.length : Int) : Int) := of_decide_eq_true (by first | (with_reducible assumption) | assumption); first | exact h_ | (have e_ := (Kd.R_reads' HO_0.out).1; omega) | simpa using h_) (seg := [.int .i64 0, .int .i64 0, .string (⟨#[115, 112, 111, 105, 108, 116]⟩ : ByteArray)]) (j := 0) hcl22 hcc22 (show 3 ≤ 3 from by decide) (x' := (⟨0, 0, (⟨#[115, 112, 111, 105, 108, 116]⟩ : ByteArray)⟩ : S34)) (k34_mkM _ _ _ (⟨0, 0, (⟨#[115, 112, 111, 105, 108, 116]⟩ : ByteArray)⟩ : S34) ) (fun _ hk => hk))); (try (have hx22_0 := hcc22 0 _ rfl)); (try (try simp only [show (k34).sz = 3 from rfl, Nat.mul_one, Nat.add_zero] at hx22_0)); (try (have hf22_0 := hfr22 0)); (try (try simp only [show (k34).sz = 3 from rfl, Nat.mul_one, Nat.add_zero] at hf22_0)); (try (have hx22_1 := hcc22 1 _ rfl)); (try (try simp only [show (k34).sz = 3 from rfl, Nat.mul_one, Nat.add_zero] at hx22_1)); (try (have hf22_1 := hfr22 1)); (try (try simp only [show (k34).sz = 3 from rfl, Nat.mul_one, Nat.add_zero] at hf22_1)); (try (have hx22_2 := hcc22 2 _ rfl)); (try (try simp only [show (k34).sz = 3 from rfl, Nat.mul_one, Nat.add_zero] at hx22_2)); (try (have hf22_2 := hfr22 2)); (try (try simp only [show (k34).sz = 3 from rfl, Nat.mul_one, Nat.add_zero] at hf22_2)); (try (clear hcl22 hcc22 hfr22 hM22)))); refine store_event (t := 34) (p := 52) (v := ?vo_w23) (w1 := (((wr.setCell ⟨go20, (x8_3 : Int).toNat * 3, none⟩ (.int .i64 0)).setCell ⟨go20, (x8_3 : Int).toNat * 3 + 1, none⟩ (.int .i64 0)).setCell ⟨go20, (x8_3 : Int).toNat * 3 + 2, none⟩ (.string (⟨#[115, 112, 111, 105, 108, 116]⟩ : ByteArray)))) ?hg ?ho ?hn ?hr ?_; (case ho => rfl); (case hg => rfl); (case hn => rfl); (case hr => first | (go_simp; done) | (go_simp; rfl)); intro w23 hw; have hg : wr.grownBy w23 (some go20) := (by rw [hw]; exact HP22.2); have hp_ : Kd.R k34 34 w23 w0.heap.size (fun k_ => (P0_ k_ ∨ w.heap.size ≤ k_)) (.slice (some ⟨go20, 0, none⟩) x0_3.length co21) y134 := (by rw [hw, Ny134.out]; exact HP22.1); clear HP22; have n0_ := Aside0.mk (hp_); have n1_ := Aside0.mk ((by rw [hw]; exact below_set (below_set (below_set (HB.out) GB20.out) GB20.out) GB20.out : Below w0.heap.size w0 w23)); have n2_ := Aside0.mk (Kept.of_grown (S := (fun k_ => P0_ k_)) hg (by repeat (first | (with_reducible first | exact HK.out | apply Kept.alloc | apply Kept.drewN | apply Kept.drew) | exact HK.out)) (fun k_ e_ => (HO_0.out.1 k_ e_))); clear HO_0; clear HB; clear HK; have HO_0 := n0_; have HB := n1_; have HK := n2_; clear n0_ n1_ n2_; clear hg hw hp_))
                    repeat (go_quiet (first | ((with_reducible refine gate_store (t := 34) (p := 52) rfl ?_); (try (rw [drewN_self wr]; generalize hq_ : World.drewN wr _ = wr; have n0_ := Aside0.mk (Kd.R_at hq_ HO_0.out); have n1_ := Aside0.mk (kept_at hq_ HK.out); have n2_ := Aside0.mk (below_at hq_ HB.out); clear hq_ HO_0 HK HB; have HO_0 := n0_; have HK := n1_; have HB := n2_; clear n0_ n1_ n2_; (try (have HX22 := Aside0.mk (show Kd.R k34 34 wr w0.heap.size (fun k_ => (P0_ k_ ∨ w.heap.size ≤ k_)) (.slice (some ⟨go20, 0, none⟩) x0_3.length co21) x0_3 from (by (with_reducible repeat (first | apply Kd.R_alloc | apply Kd.R_drewN | apply Kd.R_drew)); exact HO_0.out)))); (try (obtain ⟨ce22, hcl22, hM22, hcc22, hfr22⟩ := Kd.R_elem HX22.out z34 (x8_3 : Int) (of_decide_eq_true (by first | (with_reducible assumption) | assumption)) (by have h_ : (x8_3 : Int) < ((x0_3.length : Int) : Int) := of_decide_eq_true (by first | (with_reducible assumption) | assumption); first | exact h_ | (have e_ := (Kd.R_reads' HO_0.out).1; omega) | simpa using h_))); (try (obtain rfl := k34_openM hM22)); (try (have HP22 := Kd.R_seg HX22.out (x8_3 : Int) (of_decide_eq_true (by first | (with_reducible assumption) | assumption)) (by have h_ : (x8_3 : Int) < ((x0_3.length : Int) : Int) := of_decide_eq_true (by first | (with_reducible assumption) | assumption); first | exact h_ | (have e_ := (Kd.R_reads' HO_0.out).1; omega) | simpa using h_) (seg := [.int .i64 0, .int .i64 0, .string (⟨#[115, 112, 111, 105, 108, 116]⟩ : ByteArray)]) (j := 0) hcl22 hcc22 (show 3 ≤ 3 from by decide) (x' := (⟨0, 0, (⟨#[115, 112, 111, 105, 108, 116]⟩ : ByteArray)⟩ : S34)) (k34_mkM _ _ _ (⟨0, 0, (⟨#[115, 112, 111, 105, 108, 116]⟩ : ByteArray)⟩ : S34) ) (fun _ hk => hk))); (try (have hx22_0 := hcc22 0 _ rfl)); (try (try simp only [show (k34).sz = 3 from rfl, Nat.mul_one, Nat.add_zero] at hx22_0)); (try (have hf22_0 := hfr22 0)); (try (try simp only [show (k34).sz = 3 from rfl, Nat.mul_one, Nat.add_zero] at hf22_0)); (try (have hx22_1 := hcc22 1 _ rfl)); (try (try simp only [show (k34).sz = 3 from rfl, Nat.mul_one, Nat.add_zero] at hx22_1)); (try (have hf22_1 := hfr22 1)); (try (try simp only [show (k34).sz = 3 from rfl, Nat.mul_one, Nat.add_zero] at hf22_1)); (try (have hx22_2 := hcc22 2 _ rfl)); (try (try simp only [show (k34).sz = 3 from rfl, Nat.mul_one, Nat.add_zero] at hx22_2)); (try (have hf22_2 := hfr22 2)); (try (try simp only [show (k34).sz = 3 from rfl, Nat.mul_one, Nat.add_zero] at hf22_2)); (try (clear hcl22 hcc22 hfr22 hM22)))); refine store_event (t := 34) (p := 52) (v := ?vo_w23) (w1 := (((wr.setCell ⟨go20, (x8_3 : Int).toNat * 3, none⟩ (.int .i64 0)).setCell ⟨go20, (x8_3 : Int).toNat * 3 + 1, none⟩ (.int .i64 0)).setCell ⟨go20, (x8_3 : Int).toNat * 3 + 2, none⟩ (.string (⟨#[115, 112, 111, 105, 108, 116]⟩ : ByteArray)))) ?hg ?ho ?hn ?hr ?_; (case ho => rfl); (case hg => rfl); (case hn => rfl); (case hr => first | (go_simp; done) | (go_simp; rfl)); intro w23 hw; have hg : wr.grownBy w23 (some go20) := (by rw [hw]; exact HP22.2); have hp_ : Kd.R k34 34 w23 w0.heap.size (fun k_ => (P0_ k_ ∨ w.heap.size ≤ k_)) (.slice (some ⟨go20, 0, none⟩) x0_3.length co21) y134 := (by rw [hw, Ny134.out]; exact HP22.1); clear HP22; have n0_ := Aside0.mk (hp_); have n1_ := Aside0.mk ((by rw [hw]; exact below_set (below_set (below_set (HB.out) GB20.out) GB20.out) GB20.out : Below w0.heap.size w0 w23)); have n2_ := Aside0.mk (Kept.of_grown (S := (fun k_ => P0_ k_)) hg (by repeat (first | (with_reducible first | exact HK.out | apply Kept.alloc | apply Kept.drewN | apply Kept.drew) | exact HK.out)) (fun k_ e_ => (HO_0.out.1 k_ e_))); clear HO_0; clear HB; clear HK; have HO_0 := n0_; have HB := n1_; have HK := n2_; clear n0_ n1_ n2_; clear hg hw hp_)); try go_wp2_with (first | ((with_reducible refine gate_store (t := 34) (p := 52) rfl ?_); (try (rw [drewN_self wr]; generalize hq_ : World.drewN wr _ = wr; have n0_ := Aside0.mk (Kd.R_at hq_ HO_0.out); have n1_ := Aside0.mk (kept_at hq_ HK.out); have n2_ := Aside0.mk (below_at hq_ HB.out); clear hq_ HO_0 HK HB; have HO_0 := n0_; have HK := n1_; have HB := n2_; clear n0_ n1_ n2_; (try (have HX22 := Aside0.mk (show Kd.R k34 34 wr w0.heap.size (fun k_ => (P0_ k_ ∨ w.heap.size ≤ k_)) (.slice (some ⟨go20, 0, none⟩) x0_3.length co21) x0_3 from (by (with_reducible repeat (first | apply Kd.R_alloc | apply Kd.R_drewN | apply Kd.R_drew)); exact HO_0.out)))); (try (obtain ⟨ce22, hcl22, hM22, hcc22, hfr22⟩ := Kd.R_elem HX22.out z34 (x8_3 : Int) (of_decide_eq_true (by first | (with_reducible assumption) | assumption)) (by have h_ : (x8_3 : Int) < ((x0_3.length : Int) : Int) := of_decide_eq_true (by first | (with_reducible assumption) | assumption); first | exact h_ | (have e_ := (Kd.R_reads' HO_0.out).1; omega) | simpa using h_))); (try (obtain rfl := k34_openM hM22)); (try (have HP22 := Kd.R_seg HX22.out (x8_3 : Int) (of_decide_eq_true (by first | (with_reducible assumption) | assumption)) (by have h_ : (x8_3 : Int) < ((x0_3.length : Int) : Int) := of_decide_eq_true (by first | (with_reducible assumption) | assumption); first | exact h_ | (have e_ := (Kd.R_reads' HO_0.out).1; omega) | simpa using h_) (seg := [.int .i64 0, .int .i64 0, .string (⟨#[115, 112, 111, 105, 108, 116]⟩ : ByteArray)]) (j := 0) hcl22 hcc22 (show 3 ≤ 3 from by decide) (x' := (⟨0, 0, (⟨#[115, 112, 111, 105, 108, 116]⟩ : ByteArray)⟩ : S34)) (k34_mkM _ _ _ (⟨0, 0, (⟨#[115, 112, 111, 105, 108, 116]⟩ : ByteArray)⟩ : S34) ) (fun _ hk => hk))); (try (have hx22_0 := hcc22 0 _ rfl)); (try (try simp only [show (k34).sz = 3 from rfl, Nat.mul_one, Nat.add_zero] at hx22_0)); (try (have hf22_0 := hfr22 0)); (try (try simp only [show (k34).sz = 3 from rfl, Nat.mul_one, Nat.add_zero] at hf22_0)); (try (have hx22_1 := hcc22 1 _ rfl)); (try (try simp only [show (k34).sz = 3 from rfl, Nat.mul_one, Nat.add_zero] at hx22_1)); (try (have hf22_1 := hfr22 1)); (try (try simp only [show (k34).sz = 3 from rfl, Nat.mul_one, Nat.add_zero] at hf22_1)); (try (have hx22_2 := hcc22 2 _ rfl)); (try (try simp only [show (k34).sz = 3 from rfl, Nat.mul_one, Nat.add_zero] at hx22_2)); (try (have hf22_2 := hfr22 2)); (try (try simp only [show (k34).sz = 3 from rfl, Nat.mul_one, Nat.add_zero] at hf22_2)); (try (clear hcl22 hcc22 hfr22 hM22)))); refine store_event (t := 34) (p := 52) (v := ?vo_w23) (w1 := (((wr.setCell ⟨go20, (x8_3 : Int).toNat * 3, none⟩ (.int .i64 0)).setCell ⟨go20, (x8_3 : Int).toNat * 3 + 1, none⟩ (.int .i64 0)).setCell ⟨go20, (x8_3 : Int).toNat * 3 + 2, none⟩ (.string (⟨#[115, 112, 111, 105, 108, 116]⟩ : ByteArray)))) ?hg ?ho ?hn ?hr ?_; (case ho => rfl); (case hg => rfl); (case hn => rfl); (case hr => first | (go_simp; done) | (go_simp; rfl)); intro w23 hw; have hg : wr.grownBy w23 (some go20) := (by rw [hw]; exact HP22.2); have hp_ : Kd.R k34 34 w23 w0.heap.size (fun k_ => (P0_ k_ ∨ w.heap.size ≤ k_)) (.slice (some ⟨go20, 0, none⟩) x0_3.length co21) y134 := (by rw [hw, Ny134.out]; exact HP22.1); clear HP22; have n0_ := Aside0.mk (hp_); have n1_ := Aside0.mk ((by rw [hw]; exact below_set (below_set (below_set (HB.out) GB20.out) GB20.out) GB20.out : Below w0.heap.size w0 w23)); have n2_ := Aside0.mk (Kept.of_grown (S := (fun k_ => P0_ k_)) hg (by repeat (first | (with_reducible first | exact HK.out | apply Kept.alloc | apply Kept.drewN | apply Kept.drew) | exact HK.out)) (fun k_ e_ => (HO_0.out.1 k_ e_))); clear HO_0; clear HB; clear HK; have HO_0 := n0_; have HB := n1_; have HK := n2_; clear n0_ n1_ n2_; clear hg hw hp_)))
                    go_roundg k3
                    case measure => have := HJ2.out; have := HK2.out; have := HK3.out; omega
                    case rel => exact ⟨(y134), (wrap64 (x8_3 + 1)), (by first | rfl | (simp; done) | (simp [*]; done)), H', ⟨by have := HJ2.out; have := HK2.out; have := HK3.out; omega⟩, ⟨by (with_reducible repeat (first | apply Kd.R_alloc | apply Kd.R_drewN | apply Kd.R_drew)); exact HO_0.out⟩, ⟨by repeat (first | (with_reducible first | exact HK.out | apply Kept.alloc | apply Kept.drewN | apply Kept.drew) | exact HK.out)⟩, ⟨by repeat (first | (with_reducible first | exact HB.out | apply below_alloc | apply pw_below_drewN | apply below_drew1) | exact HB.out)⟩⟩
                  · rw [if_neg c19] at H
                    exact absurd H (by simp)
                · rw [if_neg c18] at H
                  have c18b0 : decide (x8_3 < (x0_3.length : Int)) = false := decide_eq_false c18
                  clear c18
                  simp only [Option.some.injEq, Prod.mk.injEq] at H
                  obtain ⟨rfl, rfl⟩ := H
                  obtain ⟨Ao24, co24, eo24⟩ := Kd.R_slice HO_0.out
                  subst eo24
                  go_wp2
                  repeat (go_quiet (fail); try go_wp2)
                  go_ret
                  exact ⟨by first | rfl | (simp [errW_none, errW_some] <;> rfl) | (simp [*, errW_none, errW_some] <;> rfl), by (with_reducible repeat (first | apply Kd.R_alloc | apply Kd.R_drewN | apply Kd.R_drew)); exact HO_0.out, by repeat (first | (with_reducible first | exact HB.out | apply below_alloc | apply pw_below_drewN | apply below_drew1) | exact HB.out), by repeat (first | (with_reducible first | exact HK.out | apply Kept.alloc | apply Kept.drewN | apply Kept.drew) | exact HK.out)⟩

end Go.Proofs.Ytcbimnmpdpkefaa.A
