/- Printed by a changed copy of the kit's print.py for all laws of the seat at once (one namespace): functions and their contracts; some parts by hand. -/
import Derived.Test.YtcbimnmpdpkefaaDoorAx0
import Derived.Test.YtcbimnmpdpkefaaDoorAx24
import Derived.Test.YtcbimnmpdpkefaaDoorAx39
namespace Go.Proofs.YtcbimnmpdpkefaaDoor.A
open Go.RowKit Go.Proofs.YtcbimnmpdpkefaaDoorW.PrintWords Go.Proofs.YtcbimnmpdpkefaaDoorW.PrintLast Go.Proofs.YtcbimnmpdpkefaaDoorW.PrintMore
attribute [local go_sem] max2_int min2_int max_two min_two max_three min_three max_four min_four   -- for this text's walks alone
set_option linter.unusedVariables false
set_option linter.unusedSimpArgs false

/-! ### scholiastref20_Print: function 30 -/
def scholiastref20_Print.j0 : Nat → ByteArray → Bool → Int → Int → Int → Option (ByteArray × Int)
  | 0, _, _, _, _, _ => none
  | k + 1, x0, x26, x361000, x361001, x361002 => if x26 = true then (some ((⟨#[]⟩ : ByteArray), 10)) else ((scholiastref20_place.f k x0 x361001).bind fun t362 => (if t362.size + 1 ≤ 9223372036854775807 then ((scholiastref20_place.f k x0 x361002).bind fun t363 => (if (t362 ++ (⟨#[45]⟩ : ByteArray)).size + t363.size ≤ 9223372036854775807 then (if ((t362 ++ (⟨#[45]⟩ : ByteArray)) ++ t363).size + 1 ≤ 9223372036854775807 then ((scholiastref20_Name.f x361000).bind fun t364 => (if (((t362 ++ (⟨#[45]⟩ : ByteArray)) ++ t363) ++ (⟨#[32]⟩ : ByteArray)).size + t364.size ≤ 9223372036854775807 then (some ((((t362 ++ (⟨#[45]⟩ : ByteArray)) ++ t363) ++ (⟨#[32]⟩ : ByteArray)) ++ t364, 0)) else (none))) else (none)) else (none))) else (none)))
def scholiastref20_Print.f (k : Nat) (a0 : ByteArray) (a1_0 : Int) (a1_1 : Int) (a1_2 : Int) : Option (ByteArray × Int) := (scholiastref20_Name.f a1_0).bind fun t361 => (if t361.toList = ([] : List UInt8) then (some ((⟨#[]⟩ : ByteArray), 1)) else (if a1_1 < 0 then (scholiastref20_Print.j0 k a0 true a1_0 a1_1 a1_2) else (if a1_2 < a1_1 then (scholiastref20_Print.j0 k a0 true a1_0 a1_1 a1_2) else (scholiastref20_Print.j0 k a0 (decide (a1_2 > (a0.size : Int))) a1_0 a1_1 a1_2))))
theorem scholiastref20_Print.mono_l : ∀ k, (∀ y0 y1 y2 y3 y4, LeO (scholiastref20_Print.j0 k y0 y1 y2 y3 y4) (scholiastref20_Print.j0 (k + 1) y0 y1 y2 y3 y4))
  | 0 => fun _ _ _ _ _ r h => by simp [scholiastref20_Print.j0] at h
  | k + 1 => by
    have ih0 := scholiastref20_Print.mono_l k
    · intro y0 y1 y2 y3 y4
      unfold scholiastref20_Print.j0
      repeat' first
      | (with_reducible exact ih0 _ _ _ _ _)
      | (with_reducible exact scholiastref20_place.mono _ _ _)
      | (with_reducible exact LeO.refl _)
      | (with_reducible exact LeO.none _)
      | (with_reducible refine LeO.ite ?_ ?_)
      | (with_reducible refine LeO.bind ?_ (fun _ => ?_))
      | exact ih0 _ _ _ _ _
      | exact scholiastref20_place.mono _ _ _
      | exact LeO.none _
      | refine LeO.ite ?_ ?_
      | refine LeO.bind ?_ (fun _ => ?_)
theorem scholiastref20_Print.mono : ∀ a0 a1 a2 a3 k, LeO (scholiastref20_Print.f k a0 a1 a2 a3) (scholiastref20_Print.f (k + 1) a0 a1 a2 a3) := by
  intro a0 a1 a2 a3 k
  have ih0 := scholiastref20_Print.mono_l k
  unfold scholiastref20_Print.f
  repeat' first
      | (with_reducible exact ih0 _ _ _ _ _)
      | (with_reducible exact scholiastref20_place.mono _ _ _)
      | (with_reducible exact LeO.refl _)
      | (with_reducible exact LeO.none _)
      | (with_reducible refine LeO.ite ?_ ?_)
      | (with_reducible refine LeO.bind ?_ (fun _ => ?_))
      | exact ih0 _ _ _ _ _
      | exact scholiastref20_place.mono _ _ _
      | exact LeO.none _
      | refine LeO.ite ?_ ?_
      | refine LeO.bind ?_ (fun _ => ?_)
def scholiastref20_Print.T5 : Bool × List (List Nat × List Nat) := (true, [([], []), ([], []), ([1], [1]), ([0, 2], [0, 2]), ([3], [3]), ([], []), ([], []), ([6], [6]), ([5, 7, 3], [5, 7]), ([4, 8], [4, 8]), ([9], [9]), ([], []), ([11], [11]), ([12, 8], [12]), ([10, 13], [10, 13]), ([14, 13, 0, 1, 2, 3, 4, 5, 6, 7, 8, 9, 10, 11, 12, 13, 14], [14]), ([15, 0, 1, 2, 3, 4, 5, 6, 7, 8, 9, 10, 11, 12, 13, 14, 15], [])])
def scholiastref20_Print.B5 : List Nat := [0, 0, 2, 7, 15, 0, 0, 64, 239, 511, 1023, 0, 2048, 6639, 16383, 32767, 65535]
theorem scholiastref20_Print.tab5 : rtab .any (opsOf Tryd.f30 5) = scholiastref20_Print.T5 := by kernel_rfl
theorem scholiastref20_Print.bits5 : waitsOk scholiastref20_Print.T5.2 scholiastref20_Print.B5 = true := by kernel_rfl
set_option maxHeartbeats 8000000 in
set_option maxRecDepth 100000 in
theorem scholiastref20_Print.calls (k : Nat) (a0 : ByteArray) (a1_0 : Int) (a1_1 : Int) (a1_2 : Int) (r1 : ByteArray) (r2 : Int) (w : World) (h : scholiastref20_Print.f k a0 a1_0 a1_1 a1_2 = some (r1, r2)) :
    Calls Tryd.prog 30 #[.string a0, .agg #[.int .i64 a1_0, .int .i64 a1_1, .int .i64 a1_2]] w fun e w' => e = .returned (.tuple #[.string r1, .int .i64 r2]) ∧ Below w.heap.size w w' := by
  have hu36 := Tryd.underlying36
  have HB := Aside0.mk (Below.refl w.heap.size w)
  have H : ((scholiastref20_Name.f a1_0).bind fun t361 => (if t361.toList = ([] : List UInt8) then (some ((⟨#[]⟩ : ByteArray), 1)) else (if a1_1 < 0 then (scholiastref20_Print.j0 k a0 true a1_0 a1_1 a1_2) else (if a1_2 < a1_1 then (scholiastref20_Print.j0 k a0 true a1_0 a1_1 a1_2) else (scholiastref20_Print.j0 k a0 (decide (a1_2 > (a0.size : Int))) a1_0 a1_1 a1_2))))) = some (r1, r2) := h
  clear h
  replace H := Option.bind_eq_some_iff.mp H
  obtain ⟨t361, A30, H⟩ := H
  replace H : (if t361.toList = ([] : List UInt8) then (some ((⟨#[]⟩ : ByteArray), 1)) else (if a1_1 < 0 then (scholiastref20_Print.j0 k a0 true a1_0 a1_1 a1_2) else (if a1_2 < a1_1 then (scholiastref20_Print.j0 k a0 true a1_0 a1_1 a1_2) else (scholiastref20_Print.j0 k a0 (decide (a1_2 > (a0.size : Int))) a1_0 a1_1 a1_2)))) = some (r1, r2) := H
  have A3 := Aside0.mk A30
  clear A30
  by_cases c4 : t361.toList = ([] : List UInt8)
  · rw [if_pos c4] at H
    have c4b0 : (t361.toList == ([] : List UInt8)) = true := beq_iff_eq.mpr c4
    have c4b1 : (t361.toList != ([] : List UInt8)) = false := bne_eq_false_iff_eq.mpr c4
    clear c4
    simp only [Option.some.injEq, Prod.mk.injEq] at H
    obtain ⟨rfl, rfl⟩ := H
    go_enter Tryd.func30, Tryd.ntmps30
    go_wp2_with (first | ((with_reducible refine gate_dst (N := 3) rfl ?_); (try (refine gate_guard (by rfl) ?_; dsimp only)); refine box_event ?hg (N := 3) ?hd (cs := #[.int .i64 a1_0, .int .i64 a1_1, .int .i64 a1_2]) (t := 36) ?hr ?_; (case hd => rfl); (case hg => rfl); (case hr => first | (go_simp; done) | (go_simp; rfl)); intro gb360 hg w5 hbox hb; have n0_ := Aside0.mk (below_step (by repeat (first | (with_reducible first | exact HB.out | apply below_alloc | apply pw_below_drewN | apply below_drew1) | exact HB.out)) hb); have n1_ := Aside0.mk (hbox); have n2_ := Aside0.mk ((by rw [hg]; exact (below_size (by repeat (first | (with_reducible first | exact HB.out | apply below_alloc | apply pw_below_drewN | apply below_drew1) | exact HB.out))) : w.heap.size ≤ gb360)); have n3_ := Aside0.mk ((by rw [hg]; exact (below_size (by repeat (first | (with_reducible first | exact HB.out | apply below_alloc | apply pw_below_drewN | apply below_drew1) | exact HB.out))) : w.heap.size ≤ gb360)); clear HB; have HB := n0_; have BK360 := n1_; have GW360 := n2_; have GE360 := n3_; clear n0_ n1_ n2_ n3_; clear hb hbox hg; have hcz6_0 : w5.cell? ⟨gb360, 0, none⟩ = some (.int .i64 a1_0) := (blk_cell BK360.out 0).trans rfl; have hcz6_1 : w5.cell? ⟨gb360, 1, none⟩ = some (.int .i64 a1_1) := (blk_cell BK360.out 1).trans rfl; have hcz6_2 : w5.cell? ⟨gb360, 2, none⟩ = some (.int .i64 a1_2) := (blk_cell BK360.out 2).trans rfl; have hfz6_0 := blk_frozen BK360.out 0; have hfz6_1 := blk_frozen BK360.out 1; have hfz6_2 := blk_frozen BK360.out 2) | ((with_reducible refine gate_callee (f := 17) rfl ?_); refine goesL_ (some 8) rfl rfl Tryd.func17 (by kernel_rfl) rfl #[.int .i64 a1_0] rfl (by (try simp only [List.map_toArray, List.map_cons, List.map_nil]); first | done | rfl | (simp only [List.length_drop, List.length_take]; rfl)) ?_; (with_reducible refine (scholiastref20_Name.calls a1_0 t361 _ A3.out).mono ?_); rintro e w' ⟨rfl, ⟨nd, rfl⟩⟩; refine ⟨_, rfl, ?_⟩))
    go_ret2
    exact ⟨by first | rfl | (simp [errW_none, errW_some] <;> rfl) | (simp [*, errW_none, errW_some] <;> rfl), by repeat (first | (with_reducible first | exact HB.out | apply below_alloc | apply pw_below_drewN | apply below_drew1 | refine below_set ?_ GE360.out) | exact HB.out)⟩
  · rw [if_neg c4] at H
    have c4b0 : (t361.toList == ([] : List UInt8)) = false := beq_eq_false_iff_ne.mpr c4
    have c4b1 : (t361.toList != ([] : List UInt8)) = true := bne_iff_ne.mpr c4
    have HC7 := Aside0.mk H
    clear H
    go_enter Tryd.func30, Tryd.ntmps30
    go_upto_region 3 with (first | ((with_reducible refine gate_dst (N := 3) rfl ?_); (try (refine gate_guard (by rfl) ?_; dsimp only)); refine box_event ?hg (N := 3) ?hd (cs := #[.int .i64 a1_0, .int .i64 a1_1, .int .i64 a1_2]) (t := 36) ?hr ?_; (case hd => rfl); (case hg => rfl); (case hr => first | (go_simp; done) | (go_simp; rfl)); intro gb360 hg w8 hbox hb; have n0_ := Aside0.mk (below_step (by repeat (first | (with_reducible first | exact HB.out | apply below_alloc | apply pw_below_drewN | apply below_drew1) | exact HB.out)) hb); have n1_ := Aside0.mk (hbox); have n2_ := Aside0.mk ((by rw [hg]; exact (below_size (by repeat (first | (with_reducible first | exact HB.out | apply below_alloc | apply pw_below_drewN | apply below_drew1) | exact HB.out))) : w.heap.size ≤ gb360)); have n3_ := Aside0.mk ((by rw [hg]; exact (below_size (by repeat (first | (with_reducible first | exact HB.out | apply below_alloc | apply pw_below_drewN | apply below_drew1) | exact HB.out))) : w.heap.size ≤ gb360)); clear HB; have HB := n0_; have BK360 := n1_; have GW360 := n2_; have GE360 := n3_; clear n0_ n1_ n2_ n3_; clear hb hbox hg; have hcz9_0 : w8.cell? ⟨gb360, 0, none⟩ = some (.int .i64 a1_0) := (blk_cell BK360.out 0).trans rfl; have hcz9_1 : w8.cell? ⟨gb360, 1, none⟩ = some (.int .i64 a1_1) := (blk_cell BK360.out 1).trans rfl; have hcz9_2 : w8.cell? ⟨gb360, 2, none⟩ = some (.int .i64 a1_2) := (blk_cell BK360.out 2).trans rfl; have hfz9_0 := blk_frozen BK360.out 0; have hfz9_1 := blk_frozen BK360.out 1; have hfz9_2 := blk_frozen BK360.out 2) | ((with_reducible refine gate_callee (f := 17) rfl ?_); refine goesL_ (some 8) rfl rfl Tryd.func17 (by kernel_rfl) rfl #[.int .i64 a1_0] rfl (by (try simp only [List.map_toArray, List.map_cons, List.map_nil]); first | done | rfl | (simp only [List.length_drop, List.length_take]; rfl)) ?_; (with_reducible refine (scholiastref20_Name.calls a1_0 t361 _ A3.out).mono ?_); rintro e w' ⟨rfl, ⟨nd, rfl⟩⟩; refine ⟨_, rfl, ?_⟩))
    (try simp only [Act.put, List.setIfInBounds_toArray, List.set_cons_zero, List.set_cons_succ])
    go_cut [26] (fun v26 wc => ∃ (kq : Nat) (x26_6 : Bool), v26 = .bool x26_6 ∧ Aside0 (scholiastref20_Print.j0 kq a0 x26_6 a1_0 a1_1 a1_2 = some (r1, r2)) ∧ Aside0 (kq ≤ k) ∧ Aside0 (wc.heap[gb360]? = some (.cells #[.int .i64 a1_0, .int .i64 a1_1, .int .i64 a1_2] 36 (0, 0))) ∧ Aside0 (Below w.heap.size w wc))
    case first =>
      have H := HC7.out
      clear HC7
      by_cases c10 : a1_1 < 0
      · rw [if_pos c10] at H
        have c10b0 : decide (a1_1 < 0) = true := decide_eq_true c10
        clear c10
        (first | rw [c10b0] | (simp only [i64_w, i32_w]; rw [c10b0]) | skip)
        have H' := Aside0.mk H
        clear H
        have hcz11_0 : w8.cell? ⟨gb360, 0, none⟩ = some (.int .i64 a1_0) := (blk_cell BK360.out 0).trans rfl
        have hcz11_1 : w8.cell? ⟨gb360, 1, none⟩ = some (.int .i64 a1_1) := (blk_cell BK360.out 1).trans rfl
        have hcz11_2 : w8.cell? ⟨gb360, 2, none⟩ = some (.int .i64 a1_2) := (blk_cell BK360.out 2).trans rfl
        have hfz11_0 := blk_frozen BK360.out 0
        have hfz11_1 := blk_frozen BK360.out 1
        have hfz11_2 := blk_frozen BK360.out 2
        go_wp2
        go_meet
        case rel => exact ⟨_, (true), (by first | rfl | (simp; done) | (simp [*]; done)), H', ⟨by first | omega | exact Nat.le_refl _⟩, ⟨by (with_reducible repeat (first | refine blk_drewN ?_ _ | refine blk_drew ?_ | refine blk_alloc ?_ _)); exact BK360.out⟩, ⟨by repeat (first | (with_reducible first | exact HB.out | apply below_alloc | apply pw_below_drewN | apply below_drew1 | refine below_set ?_ GE360.out) | exact HB.out)⟩⟩
      · rw [if_neg c10] at H
        have c10b0 : decide (a1_1 < 0) = false := decide_eq_false c10
        clear c10
        (first | rw [c10b0] | (simp only [i64_w, i32_w]; rw [c10b0]) | skip)
        by_cases c12 : a1_2 < a1_1
        · rw [if_pos c12] at H
          have c12b0 : decide (a1_2 < a1_1) = true := decide_eq_true c12
          clear c12
          have H' := Aside0.mk H
          clear H
          have hcz13_0 : w8.cell? ⟨gb360, 0, none⟩ = some (.int .i64 a1_0) := (blk_cell BK360.out 0).trans rfl
          have hcz13_1 : w8.cell? ⟨gb360, 1, none⟩ = some (.int .i64 a1_1) := (blk_cell BK360.out 1).trans rfl
          have hcz13_2 : w8.cell? ⟨gb360, 2, none⟩ = some (.int .i64 a1_2) := (blk_cell BK360.out 2).trans rfl
          have hfz13_0 := blk_frozen BK360.out 0
          have hfz13_1 := blk_frozen BK360.out 1
          have hfz13_2 := blk_frozen BK360.out 2
          go_wp2
          go_meet
          case rel => exact ⟨_, (true), (by first | rfl | (simp; done) | (simp [*]; done)), H', ⟨by first | omega | exact Nat.le_refl _⟩, ⟨by (with_reducible repeat (first | refine blk_drewN ?_ _ | refine blk_drew ?_ | refine blk_alloc ?_ _)); exact BK360.out⟩, ⟨by repeat (first | (with_reducible first | exact HB.out | apply below_alloc | apply pw_below_drewN | apply below_drew1 | refine below_set ?_ GE360.out) | exact HB.out)⟩⟩
        · rw [if_neg c12] at H
          have c12b0 : decide (a1_2 < a1_1) = false := decide_eq_false c12
          clear c12
          have H' := Aside0.mk H
          clear H
          have hcz14_0 : w8.cell? ⟨gb360, 0, none⟩ = some (.int .i64 a1_0) := (blk_cell BK360.out 0).trans rfl
          have hcz14_1 : w8.cell? ⟨gb360, 1, none⟩ = some (.int .i64 a1_1) := (blk_cell BK360.out 1).trans rfl
          have hcz14_2 : w8.cell? ⟨gb360, 2, none⟩ = some (.int .i64 a1_2) := (blk_cell BK360.out 2).trans rfl
          have hfz14_0 := blk_frozen BK360.out 0
          have hfz14_1 := blk_frozen BK360.out 1
          have hfz14_2 := blk_frozen BK360.out 2
          go_wp2
          go_meet
          case rel => exact ⟨_, (decide (a1_2 > (a0.size : Int))), (by first | rfl | (simp; done) | (simp [*]; done)), H', ⟨by first | omega | exact Nat.le_refl _⟩, ⟨by (with_reducible repeat (first | refine blk_drewN ?_ _ | refine blk_drew ?_ | refine blk_alloc ?_ _)); exact BK360.out⟩, ⟨by repeat (first | (with_reducible first | exact HB.out | apply below_alloc | apply pw_below_drewN | apply below_drew1 | refine below_set ?_ GE360.out) | exact HB.out)⟩⟩
    case rest =>
      clear HC7
      try clear c1
      try clear p2
      try clear c3
      try clear c4
      try clear c4b0
      try clear c4b1
      try clear c10
      try clear c10b0
      try clear c12
      try clear c12b0
      try clear hcz11_0
      try clear hcz11_1
      try clear hcz11_2
      try clear hcz13_0
      try clear hcz13_1
      try clear hcz13_2
      try clear hcz14_0
      try clear hcz14_1
      try clear hcz14_2
      try clear hcz6_0
      try clear hcz6_1
      try clear hcz6_2
      try clear hcz9_0
      try clear hcz9_1
      try clear hcz9_2
      try clear hfz11_0
      try clear hfz11_1
      try clear hfz11_2
      try clear hfz13_0
      try clear hfz13_1
      try clear hfz13_2
      try clear hfz14_0
      try clear hfz14_1
      try clear hfz14_2
      try clear hfz6_0
      try clear hfz6_1
      try clear hfz6_2
      try clear hfz9_0
      try clear hfz9_1
      try clear hfz9_2
      obtain ⟨kq, x26_6, rfl, HA, HJ6, BK360, HB⟩ := hcut
      cases kq with
      | zero => exact absurd HA.out (by simp [scholiastref20_Print.j0])
      | succ kj6 =>
        have H := HA.out
        clear HA
        simp only [scholiastref20_Print.j0] at H
        by_cases c15 : x26_6 = true
        · subst c15
          have H1 : (some ((⟨#[]⟩ : ByteArray), 10)) = some (r1, r2) := by rw [if_pos rfl] at H; exact H
          clear H
          have H := H1
          clear H1
          simp only [Option.some.injEq, Prod.mk.injEq] at H
          obtain ⟨rfl, rfl⟩ := H
          go_wp2
          go_ret2
          exact ⟨by first | rfl | (simp [errW_none, errW_some] <;> rfl) | (simp [*, errW_none, errW_some] <;> rfl), by repeat (first | (with_reducible first | exact HB.out | apply below_alloc | apply pw_below_drewN | apply below_drew1 | refine below_set ?_ GE360.out) | exact HB.out)⟩
        · replace c15 := Bool.eq_false_iff.mpr c15
          subst c15
          have H1 : ((scholiastref20_place.f kj6 a0 a1_1).bind fun t362 => (if t362.size + 1 ≤ 9223372036854775807 then ((scholiastref20_place.f kj6 a0 a1_2).bind fun t363 => (if (t362 ++ (⟨#[45]⟩ : ByteArray)).size + t363.size ≤ 9223372036854775807 then (if ((t362 ++ (⟨#[45]⟩ : ByteArray)) ++ t363).size + 1 ≤ 9223372036854775807 then ((scholiastref20_Name.f a1_0).bind fun t364 => (if (((t362 ++ (⟨#[45]⟩ : ByteArray)) ++ t363) ++ (⟨#[32]⟩ : ByteArray)).size + t364.size ≤ 9223372036854775807 then (some ((((t362 ++ (⟨#[45]⟩ : ByteArray)) ++ t363) ++ (⟨#[32]⟩ : ByteArray)) ++ t364, 0)) else (none))) else (none)) else (none))) else (none))) = some (r1, r2) := by rw [if_neg (show ¬ (false = true) by decide)] at H; exact H
          clear H
          have H := H1
          clear H1
          replace H := Option.bind_eq_some_iff.mp H
          obtain ⟨t362, A160, H⟩ := H
          replace H : (if t362.size + 1 ≤ 9223372036854775807 then ((scholiastref20_place.f kj6 a0 a1_2).bind fun t363 => (if (t362 ++ (⟨#[45]⟩ : ByteArray)).size + t363.size ≤ 9223372036854775807 then (if ((t362 ++ (⟨#[45]⟩ : ByteArray)) ++ t363).size + 1 ≤ 9223372036854775807 then ((scholiastref20_Name.f a1_0).bind fun t364 => (if (((t362 ++ (⟨#[45]⟩ : ByteArray)) ++ t363) ++ (⟨#[32]⟩ : ByteArray)).size + t364.size ≤ 9223372036854775807 then (some ((((t362 ++ (⟨#[45]⟩ : ByteArray)) ++ t363) ++ (⟨#[32]⟩ : ByteArray)) ++ t364, 0)) else (none))) else (none)) else (none))) else (none)) = some (r1, r2) := H
          have A16 := Aside0.mk A160
          clear A160
          by_cases c17 : t362.size + 1 ≤ 9223372036854775807
          · rw [if_pos c17] at H
            have c17b0 := eq_true c17
            have c17b1 : decide (t362.size + 1 ≤ 9223372036854775807) = true := decide_eq_true c17
            try have c17b2 : (9223372036854775807 < t362.size + 1) = False := eq_false (Nat.not_lt.2 c17)
            replace H := Option.bind_eq_some_iff.mp H
            obtain ⟨t363, A180, H⟩ := H
            replace H : (if (t362 ++ (⟨#[45]⟩ : ByteArray)).size + t363.size ≤ 9223372036854775807 then (if ((t362 ++ (⟨#[45]⟩ : ByteArray)) ++ t363).size + 1 ≤ 9223372036854775807 then ((scholiastref20_Name.f a1_0).bind fun t364 => (if (((t362 ++ (⟨#[45]⟩ : ByteArray)) ++ t363) ++ (⟨#[32]⟩ : ByteArray)).size + t364.size ≤ 9223372036854775807 then (some ((((t362 ++ (⟨#[45]⟩ : ByteArray)) ++ t363) ++ (⟨#[32]⟩ : ByteArray)) ++ t364, 0)) else (none))) else (none)) else (none)) = some (r1, r2) := H
            have A18 := Aside0.mk A180
            clear A180
            by_cases c19 : (t362 ++ (⟨#[45]⟩ : ByteArray)).size + t363.size ≤ 9223372036854775807
            · rw [if_pos c19] at H
              have c19b0 := eq_true c19
              have c19b1 : decide ((t362 ++ (⟨#[45]⟩ : ByteArray)).size + t363.size ≤ 9223372036854775807) = true := decide_eq_true c19
              try (have c19b3 : (9223372036854775807 < t362.size + 1 + t363.size) = False := by (refine eq_false (Nat.not_lt.2 ?_); have hh_ := c19; simp only [ByteArray.size_append, ByteArray.size_extract] at hh_; (try rw [show (⟨#[45]⟩ : ByteArray).size = 1 from rfl] at hh_); omega))
              try have c19b2 : (9223372036854775807 < (t362 ++ (⟨#[45]⟩ : ByteArray)).size + t363.size) = False := eq_false (Nat.not_lt.2 c19)
              by_cases c20 : ((t362 ++ (⟨#[45]⟩ : ByteArray)) ++ t363).size + 1 ≤ 9223372036854775807
              · rw [if_pos c20] at H
                have c20b0 := eq_true c20
                have c20b1 : decide (((t362 ++ (⟨#[45]⟩ : ByteArray)) ++ t363).size + 1 ≤ 9223372036854775807) = true := decide_eq_true c20
                try (have c20b3 : (9223372036854775807 < t362.size + 1 + t363.size + 1) = False := by (refine eq_false (Nat.not_lt.2 ?_); have hh_ := c20; simp only [ByteArray.size_append, ByteArray.size_extract] at hh_; (try rw [show (⟨#[45]⟩ : ByteArray).size = 1 from rfl] at hh_); omega))
                try have c20b2 : (9223372036854775807 < ((t362 ++ (⟨#[45]⟩ : ByteArray)) ++ t363).size + 1) = False := eq_false (Nat.not_lt.2 c20)
                replace H := Option.bind_eq_some_iff.mp H
                obtain ⟨t364, A210, H⟩ := H
                replace H : (if (((t362 ++ (⟨#[45]⟩ : ByteArray)) ++ t363) ++ (⟨#[32]⟩ : ByteArray)).size + t364.size ≤ 9223372036854775807 then (some ((((t362 ++ (⟨#[45]⟩ : ByteArray)) ++ t363) ++ (⟨#[32]⟩ : ByteArray)) ++ t364, 0)) else (none)) = some (r1, r2) := H
                have A21 := Aside0.mk A210
                clear A210
                by_cases c22 : (((t362 ++ (⟨#[45]⟩ : ByteArray)) ++ t363) ++ (⟨#[32]⟩ : ByteArray)).size + t364.size ≤ 9223372036854775807
                · rw [if_pos c22] at H
                  have c22b0 := eq_true c22
                  have c22b1 : decide ((((t362 ++ (⟨#[45]⟩ : ByteArray)) ++ t363) ++ (⟨#[32]⟩ : ByteArray)).size + t364.size ≤ 9223372036854775807) = true := decide_eq_true c22
                  try (have c22b3 : (9223372036854775807 < t362.size + 1 + t363.size + 1 + t364.size) = False := by (refine eq_false (Nat.not_lt.2 ?_); have hh_ := c22; simp only [ByteArray.size_append, ByteArray.size_extract] at hh_; (try rw [show (⟨#[45]⟩ : ByteArray).size = 1 from rfl] at hh_); (try rw [show (⟨#[32]⟩ : ByteArray).size = 1 from rfl] at hh_); omega))
                  try have c22b2 : (9223372036854775807 < (((t362 ++ (⟨#[45]⟩ : ByteArray)) ++ t363) ++ (⟨#[32]⟩ : ByteArray)).size + t364.size) = False := eq_false (Nat.not_lt.2 c22)
                  simp only [Option.some.injEq, Prod.mk.injEq] at H
                  obtain ⟨rfl, rfl⟩ := H
                  try go_wp2
                  have n0_ := Aside0.mk (blk_drew BK360.out)
                  have n1_ := Aside0.mk (below_drew1 HB.out)
                  clear BK360
                  clear HB
                  have BK360 := n0_
                  have HB := n1_
                  clear n0_ n1_
                  refine start_ (n := 17) (S := fun w' => w'.cell? ⟨gb360, 0, none⟩ = some (.int .i64 a1_0) ∧ w'.cell? ⟨gb360, 1, none⟩ = some (.int .i64 a1_1) ∧ w'.cell? ⟨gb360, 2, none⟩ = some (.int .i64 a1_2)) (ds := []) #[false, false, false, false, false, false, false, false, false, false, false, false, false, false, false, false, false] (by kernel_rfl) rfl rfl ⟨(blk_cell BK360.out 0).trans rfl, (blk_cell BK360.out 1).trans rfl, (blk_cell BK360.out 2).trans rfl⟩ (fun hHeld => ?_); refine with_tabW scholiastref20_Print.tab5 scholiastref20_Print.bits5 (fun HT_ HW_ => ?_)
                  generalize wc.drew = w23 at BK360 HB hHeld ⊢
                  refine pure_ (i := 0) (N := some 27) (v := ?_) (a' := ?_) #[true, false, false, false, false, false, false, false, false, false, false, false, false, false, false, false, false] rfl rfl (any_of HT_.out (by kernel_rfl)) (fun _ _ _ h => h) (Or.inl ⟨by rfl, ?_⟩) ?_ ?_
                  rotate_left
                  · intro w'
                    go_simp
                    with_reducible rfl
                  rotate_left
                  · simp only [Act.put, List.setIfInBounds_toArray, List.set_cons_zero, List.set_cons_succ, i64_w, i32_w]
                    rfl
                  refine pure_ (i := 1) (N := some 28) (v := ?_) (a' := ?_) #[true, true, false, false, false, false, false, false, false, false, false, false, false, false, false, false, false] rfl rfl (any_of HT_.out (by kernel_rfl)) (fun _ _ _ h => h) (Or.inl ⟨by rfl, ?_⟩) ?_ ?_
                  rotate_left
                  · intro w'
                    go_simp
                    with_reducible rfl
                  rotate_left
                  · simp only [Act.put, List.setIfInBounds_toArray, List.set_cons_zero, List.set_cons_succ, i64_w, i32_w]
                    rfl
                  refine pure_ (i := 5) (N := some 32) (v := ?_) (a' := ?_) #[true, true, false, false, false, true, false, false, false, false, false, false, false, false, false, false, false] rfl rfl (any_of HT_.out (by kernel_rfl)) (fun _ _ _ h => h) (Or.inl ⟨by rfl, ?_⟩) ?_ ?_
                  rotate_left
                  · intro w'
                    go_simp
                    with_reducible rfl
                  rotate_left
                  · simp only [Act.put, List.setIfInBounds_toArray, List.set_cons_zero, List.set_cons_succ, i64_w, i32_w]
                    rfl
                  refine pure_ (i := 6) (N := some 33) (v := ?_) (a' := ?_) #[true, true, false, false, false, true, true, false, false, false, false, false, false, false, false, false, false] rfl rfl (any_of HT_.out (by kernel_rfl)) (fun _ _ _ h => h) (Or.inl ⟨by rfl, ?_⟩) ?_ ?_
                  rotate_left
                  · intro w'
                    go_simp
                    with_reducible rfl
                  rotate_left
                  · simp only [Act.put, List.setIfInBounds_toArray, List.set_cons_zero, List.set_cons_succ, i64_w, i32_w]
                    rfl
                  refine pure_ (i := 11) (N := some 38) (v := ?_) (a' := ?_) #[true, true, false, false, false, true, true, false, false, false, false, true, false, false, false, false, false] rfl rfl (any_of HT_.out (by kernel_rfl)) (fun _ _ _ h => h) (Or.inl ⟨by rfl, ?_⟩) ?_ ?_
                  rotate_left
                  · intro w'
                    go_simp
                    with_reducible rfl
                  rotate_left
                  · simp only [Act.put, List.setIfInBounds_toArray, List.set_cons_zero, List.set_cons_succ, i64_w, i32_w]
                    rfl
                  refine take_ (i := 2) (N := some 29) (v := ?_) (a' := ?_) #[true, true, true, false, false, true, true, false, false, false, false, true, false, false, false, false, false] rfl rfl (take_ofW HT_.out HW_.out (by kernel_rfl)) (fun _ _ _ h => h) (Or.inl ⟨by rfl, ?_⟩) hHeld ?_ ?_
                  rotate_left
                  · rintro w' ⟨s0, s1, s2⟩
                    go_simp
                    with_reducible rfl
                  rotate_left
                  · simp only [Act.put, List.setIfInBounds_toArray, List.set_cons_zero, List.set_cons_succ, i64_w, i32_w]
                    rfl
                  refine take_ (i := 7) (N := some 34) (v := ?_) (a' := ?_) #[true, true, true, false, false, true, true, true, false, false, false, true, false, false, false, false, false] rfl rfl (take_ofW HT_.out HW_.out (by kernel_rfl)) (fun _ _ _ h => h) (Or.inl ⟨by rfl, ?_⟩) hHeld ?_ ?_
                  rotate_left
                  · rintro w' ⟨s0, s1, s2⟩
                    go_simp
                    with_reducible rfl
                  rotate_left
                  · simp only [Act.put, List.setIfInBounds_toArray, List.set_cons_zero, List.set_cons_succ, i64_w, i32_w]
                    rfl
                  refine take_ (i := 12) (N := some 39) (v := ?_) (a' := ?_) #[true, true, true, false, false, true, true, true, false, false, false, true, true, false, false, false, false] rfl rfl (take_ofW HT_.out HW_.out (by kernel_rfl)) (fun _ _ _ h => h) (Or.inl ⟨by rfl, ?_⟩) hHeld ?_ ?_
                  rotate_left
                  · rintro w' ⟨s0, s1, s2⟩
                    go_simp
                    with_reducible rfl
                  rotate_left
                  · simp only [Act.put, List.setIfInBounds_toArray, List.set_cons_zero, List.set_cons_succ, i64_w, i32_w]
                    rfl
                  refine one_ (i := 3) (N := some 30) #[true, true, true, true, false, true, true, true, false, false, false, true, true, false, false, false, false] rfl rfl (one_of HT_.out (by kernel_rfl)) (by decide) (fun K hK => ?_)
                  refine goes_ Tryd.func52 (by kernel_rfl) rfl #[.string a0, .int .i64 a1_1] (by rfl) rfl rfl (by (try simp only [List.map_toArray, List.map_cons, List.map_nil]); first | done | rfl | (simp only [List.length_drop, List.length_take]; rfl)) ?_
                  with_reducible refine (scholiastref20_place.calls kj6 a0 a1_1 t362 _ A16.out).mono ?_
                  rintro e w24 ⟨rfl, hb⟩
                  refine ⟨_, rfl, ?_⟩
                  have n0_ := Aside0.mk (blk_below (g := gb360) (o := .cells #[.int .i64 a1_0, .int .i64 a1_1, .int .i64 a1_2] 36 (0, 0)) (by (with_reducible repeat (first | refine blk_drewN ?_ _ | refine blk_drew ?_ | refine blk_alloc ?_ _)); exact BK360.out) hb)
                  have n1_ := Aside0.mk (below_step (by repeat (first | (with_reducible first | exact HB.out | apply below_alloc | apply pw_below_drewN | apply below_drew1 | refine below_set ?_ GE360.out) | exact HB.out)) hb)
                  clear BK360
                  clear HB
                  have BK360 := n0_
                  have HB := n1_
                  clear n0_ n1_
                  (try clear hb)
                  (try clear hb2)
                  (try clear hk)
                  (try clear hi)
                  refine hK.out _ _ ⟨(blk_cell BK360.out 0).trans rfl, (blk_cell BK360.out 1).trans rfl, (blk_cell BK360.out 2).trans rfl⟩ (fun hHeld => ?_)
                  clear hK K
                  refine norm_ (a' := ?_) ?_ ?_
                  rotate_left
                  · show Act.put _ (some 30) _ = _
                    simp only [Act.put, List.setIfInBounds_toArray, List.set_cons_zero, List.set_cons_succ, i64_w, i32_w]
                    rfl
                  refine pure_ (i := 4) (N := some 31) (v := ?_) (a' := ?_) #[true, true, true, true, true, true, true, true, false, false, false, true, true, false, false, false, false] rfl rfl (any_of HT_.out (by kernel_rfl)) (fun _ _ _ h => h) (Or.inl ⟨by rfl, ?_⟩) ?_ ?_
                  rotate_left
                  · intro w'
                    go_simp
                    with_reducible rfl
                  rotate_left
                  · simp only [Act.put, List.setIfInBounds_toArray, List.set_cons_zero, List.set_cons_succ, i64_w, i32_w]
                    rfl
                  refine one_ (i := 8) (N := some 35) #[true, true, true, true, true, true, true, true, true, false, false, true, true, false, false, false, false] rfl rfl (one_of HT_.out (by kernel_rfl)) (by decide) (fun K hK => ?_)
                  refine goes_ Tryd.func52 (by kernel_rfl) rfl #[.string a0, .int .i64 a1_2] (by rfl) rfl rfl (by (try simp only [List.map_toArray, List.map_cons, List.map_nil]); first | done | rfl | (simp only [List.length_drop, List.length_take]; rfl)) ?_
                  with_reducible refine (scholiastref20_place.calls kj6 a0 a1_2 t363 _ A18.out).mono ?_
                  rintro e w25 ⟨rfl, hb⟩
                  refine ⟨_, rfl, ?_⟩
                  have n0_ := Aside0.mk (blk_below (g := gb360) (o := .cells #[.int .i64 a1_0, .int .i64 a1_1, .int .i64 a1_2] 36 (0, 0)) (by (with_reducible repeat (first | refine blk_drewN ?_ _ | refine blk_drew ?_ | refine blk_alloc ?_ _)); exact BK360.out) hb)
                  have n1_ := Aside0.mk (below_step (by repeat (first | (with_reducible first | exact HB.out | apply below_alloc | apply pw_below_drewN | apply below_drew1 | refine below_set ?_ GE360.out) | exact HB.out)) hb)
                  clear BK360
                  clear HB
                  have BK360 := n0_
                  have HB := n1_
                  clear n0_ n1_
                  (try clear hb)
                  (try clear hb2)
                  (try clear hk)
                  (try clear hi)
                  refine hK.out _ _ ⟨(blk_cell BK360.out 0).trans rfl, (blk_cell BK360.out 1).trans rfl, (blk_cell BK360.out 2).trans rfl⟩ (fun hHeld => ?_)
                  clear hK K
                  refine norm_ (a' := ?_) ?_ ?_
                  rotate_left
                  · show Act.put _ (some 35) _ = _
                    simp only [Act.put, List.setIfInBounds_toArray, List.set_cons_zero, List.set_cons_succ, i64_w, i32_w]
                    rfl
                  refine pure_ (i := 9) (N := some 36) (v := ?_) (a' := ?_) #[true, true, true, true, true, true, true, true, true, true, false, true, true, false, false, false, false] rfl rfl (any_of HT_.out (by kernel_rfl)) (fun _ _ _ h => h) (Or.inl ⟨by rfl, ?_⟩) ?_ ?_
                  rotate_left
                  · intro w'
                    go_simp
                    with_reducible rfl
                  rotate_left
                  · simp only [Act.put, List.setIfInBounds_toArray, List.set_cons_zero, List.set_cons_succ, i64_w, i32_w]
                    rfl
                  refine pure_ (i := 10) (N := some 37) (v := ?_) (a' := ?_) #[true, true, true, true, true, true, true, true, true, true, true, true, true, false, false, false, false] rfl rfl (any_of HT_.out (by kernel_rfl)) (fun _ _ _ h => h) (Or.inl ⟨by rfl, ?_⟩) ?_ ?_
                  rotate_left
                  · intro w'
                    go_simp
                    with_reducible rfl
                  rotate_left
                  · simp only [Act.put, List.setIfInBounds_toArray, List.set_cons_zero, List.set_cons_succ, i64_w, i32_w]
                    rfl
                  refine one_ (i := 13) (N := some 40) #[true, true, true, true, true, true, true, true, true, true, true, true, true, true, false, false, false] rfl rfl (one_of HT_.out (by kernel_rfl)) (by decide) (fun K hK => ?_)
                  refine goes_ Tryd.func17 (by kernel_rfl) rfl #[.int .i64 a1_0] (by rfl) rfl rfl (by (try simp only [List.map_toArray, List.map_cons, List.map_nil]); first | done | rfl | (simp only [List.length_drop, List.length_take]; rfl)) ?_
                  with_reducible refine (scholiastref20_Name.calls a1_0 t364 _ A21.out).mono ?_
                  rintro e w' ⟨rfl, ⟨nd, rfl⟩⟩
                  refine ⟨_, rfl, ?_⟩
                  refine hK.out _ _ ⟨(blk_cell BK360.out 0).trans rfl, (blk_cell BK360.out 1).trans rfl, (blk_cell BK360.out 2).trans rfl⟩ (fun hHeld => ?_)
                  clear hK K
                  refine norm_ (a' := ?_) ?_ ?_
                  rotate_left
                  · show Act.put _ (some 40) _ = _
                    simp only [Act.put, List.setIfInBounds_toArray, List.set_cons_zero, List.set_cons_succ, i64_w, i32_w]
                    rfl
                  refine pure_ (i := 14) (N := some 41) (v := ?_) (a' := ?_) #[true, true, true, true, true, true, true, true, true, true, true, true, true, true, true, false, false] rfl rfl (any_of HT_.out (by kernel_rfl)) (fun _ _ _ h => h) (Or.inl ⟨by rfl, ?_⟩) ?_ ?_
                  rotate_left
                  · intro w'
                    go_simp
                    with_reducible rfl
                  rotate_left
                  · simp only [Act.put, List.setIfInBounds_toArray, List.set_cons_zero, List.set_cons_succ, i64_w, i32_w]
                    rfl
                  refine pure_ (i := 15) (N := some 4) (v := ?_) (a' := ?_) #[true, true, true, true, true, true, true, true, true, true, true, true, true, true, true, true, false] rfl rfl (any_of HT_.out (by kernel_rfl)) (fun _ _ _ h => h) (Or.inl ⟨by rfl, ?_⟩) ?_ ?_
                  rotate_left
                  · intro w'
                    go_simp
                    with_reducible rfl
                  rotate_left
                  · simp only [Act.put, List.setIfInBounds_toArray, List.set_cons_zero, List.set_cons_succ, i64_w, i32_w]
                    rfl
                  refine pure_ (i := 16) (N := some 5) (v := ?_) (a' := ?_) #[true, true, true, true, true, true, true, true, true, true, true, true, true, true, true, true, true] rfl rfl (any_of HT_.out (by kernel_rfl)) (fun _ _ _ h => h) (Or.inl ⟨by rfl, ?_⟩) ?_ ?_
                  rotate_left
                  · intro w'
                    go_simp
                    with_reducible rfl
                  rotate_left
                  · simp only [Act.put, List.setIfInBounds_toArray, List.set_cons_zero, List.set_cons_succ, i64_w, i32_w]
                    rfl
                  refine done_ (done_of HT_.out (by kernel_rfl)) ?_
                  try go_wp2
                  go_ret2
                  exact ⟨by first | rfl | (simp [errW_none, errW_some] <;> rfl) | (simp [*, errW_none, errW_some] <;> rfl), by repeat (first | (with_reducible first | exact HB.out | apply below_alloc | apply pw_below_drewN | apply below_drew1 | refine below_set ?_ GE360.out) | exact HB.out)⟩
                · rw [if_neg c22] at H
                  exact absurd H (by simp)
              · rw [if_neg c20] at H
                exact absurd H (by simp)
            · rw [if_neg c19] at H
              exact absurd H (by simp)
          · rw [if_neg c17] at H
            exact absurd H (by simp)

end Go.Proofs.YtcbimnmpdpkefaaDoor.A
