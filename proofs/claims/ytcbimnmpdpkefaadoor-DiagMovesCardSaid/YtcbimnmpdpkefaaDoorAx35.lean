/- Printed by a changed copy of the kit's print.py for all laws of the seat at once (one namespace): functions and their contracts; some parts by hand. -/
import Derived.Test.YtcbimnmpdpkefaaDoorAx0
namespace Go.Proofs.YtcbimnmpdpkefaaDoor.A
open Go.RowKit Go.Proofs.YtcbimnmpdpkefaaDoorW.PrintWords Go.Proofs.YtcbimnmpdpkefaaDoorW.PrintLast Go.Proofs.YtcbimnmpdpkefaaDoorW.PrintMore
attribute [local go_sem] max2_int min2_int max_two min_two max_three min_three max_four min_four   -- for this text's walks alone
set_option linter.unusedVariables false
set_option linter.unusedSimpArgs false

/-! ### scholiastref20_Carry: function 28 -/
mutual
def scholiastref20_Carry.l0 : Nat → List (S36) → List (S43) → Int → List (S43) → Int → Int → Option ((List (S36)) × Int)
  | 0, _, _, _, _, _, _ => none
  | k + 1, x0, x1, x6, x16, x17, x18 => if x18 < x17 then (if 0 ≤ x18 then (if x18 < (x16.length : Int) then (if ((rd_T43 x16 x18).f0) < x6 then (some (([] : List (S36)), 10)) else (if ((rd_T43 x16 x18).f1) < ((rd_T43 x16 x18).f0) then (some (([] : List (S36)), 10)) else (scholiastref20_Carry.l0 k x0 x1 ((rd_T43 x16 x18).f1) x16 x17 (wrap64 (x18 + 1))))) else (none)) else (none)) else (scholiastref20_Carry.l1 k x1 ([] : List (S36)) x0 (x0.length : Int) 0)
def scholiastref20_Carry.l1 : Nat → List (S43) → List (S36) → List (S36) → Int → Int → Option ((List (S36)) × Int)
  | 0, _, _, _, _, _ => none
  | k + 1, x1, x9, x36, x37, x38 => if x38 < x37 then (if 0 ≤ x38 then (if x38 < (x36.length : Int) then (scholiastref20_Carry.l2 k x1 x9 0 false x36 x37 x38 x1 (x1.length : Int) 0 ((rd_T36 x36 x38).f0) ((rd_T36 x36 x38).f1) ((rd_T36 x36 x38).f2)) else (none)) else (none)) else (some (x9, 0))
def scholiastref20_Carry.l2 : Nat → List (S43) → List (S36) → Int → Bool → List (S36) → Int → Int → List (S43) → Int → Int → Int → Int → Int → Option ((List (S36)) × Int)
  | 0, _, _, _, _, _, _, _, _, _, _, _, _, _ => none
  | k + 1, x1, x9, x12, x13, x36, x37, x38, x42, x43, x44, x312000, x312001, x312002 => if x44 < x43 then (if 0 ≤ x44 then (if x44 < (x42.length : Int) then (if x13 = true then (if ((rd_T43 x42 x44).f1) ≤ x312001 then (scholiastref20_Carry.l2 k x1 x9 (wrap64 (x12 + (wrap64 ((((rd_T43 x42 x44).f2).size : Int) - (wrap64 (((rd_T43 x42 x44).f1) - ((rd_T43 x42 x44).f0))))))) true x36 x37 x38 x42 x43 (wrap64 (x44 + 1)) x312000 x312001 x312002) else (scholiastref20_Carry.l2 k x1 x9 x12 true x36 x37 x38 x42 x43 (wrap64 (x44 + 1)) x312000 x312001 x312002)) else (if ((rd_T43 x42 x44).f0) < x312002 then (if ((rd_T43 x42 x44).f1) ≤ x312001 then (scholiastref20_Carry.l2 k x1 x9 (wrap64 (x12 + (wrap64 ((((rd_T43 x42 x44).f2).size : Int) - (wrap64 (((rd_T43 x42 x44).f1) - ((rd_T43 x42 x44).f0))))))) (decide (((rd_T43 x42 x44).f1) > x312001)) x36 x37 x38 x42 x43 (wrap64 (x44 + 1)) x312000 x312001 x312002) else (scholiastref20_Carry.l2 k x1 x9 x12 (decide (((rd_T43 x42 x44).f1) > x312001)) x36 x37 x38 x42 x43 (wrap64 (x44 + 1)) x312000 x312001 x312002)) else (if ((rd_T43 x42 x44).f1) ≤ x312001 then (scholiastref20_Carry.l2 k x1 x9 (wrap64 (x12 + (wrap64 ((((rd_T43 x42 x44).f2).size : Int) - (wrap64 (((rd_T43 x42 x44).f1) - ((rd_T43 x42 x44).f0))))))) false x36 x37 x38 x42 x43 (wrap64 (x44 + 1)) x312000 x312001 x312002) else (scholiastref20_Carry.l2 k x1 x9 x12 false x36 x37 x38 x42 x43 (wrap64 (x44 + 1)) x312000 x312001 x312002)))) else (none)) else (none)) else (if x13 = true then (scholiastref20_Carry.l1 k x1 x9 x36 x37 (wrap64 (x38 + 1))) else (if x9.length < 5864062014805 then (scholiastref20_Carry.l1 k x1 (x9 ++ [(⟨x312000, wrap64 (x312001 + x12), wrap64 (x312002 + x12)⟩ : S36)]) x36 x37 (wrap64 (x38 + 1))) else (none)))
end
def scholiastref20_Carry.f (k : Nat) (l0 : List (S36)) (l1 : List (S43)) : Option ((List (S36)) × Int) := scholiastref20_Carry.l0 k l0 l1 0 l1 (l1.length : Int) 0
theorem scholiastref20_Carry.mono_l : ∀ k, (∀ y0 y1 y2 y3 y4 y5, LeO (scholiastref20_Carry.l0 k y0 y1 y2 y3 y4 y5) (scholiastref20_Carry.l0 (k + 1) y0 y1 y2 y3 y4 y5)) ∧ (∀ y0 y1 y2 y3 y4, LeO (scholiastref20_Carry.l1 k y0 y1 y2 y3 y4) (scholiastref20_Carry.l1 (k + 1) y0 y1 y2 y3 y4)) ∧ (∀ y0 y1 y2 y3 y4 y5 y6 y7 y8 y9 y10 y11 y12, LeO (scholiastref20_Carry.l2 k y0 y1 y2 y3 y4 y5 y6 y7 y8 y9 y10 y11 y12) (scholiastref20_Carry.l2 (k + 1) y0 y1 y2 y3 y4 y5 y6 y7 y8 y9 y10 y11 y12))
  | 0 => ⟨fun _ _ _ _ _ _ r h => by simp [scholiastref20_Carry.l0] at h, fun _ _ _ _ _ r h => by simp [scholiastref20_Carry.l1] at h, fun _ _ _ _ _ _ _ _ _ _ _ _ _ r h => by simp [scholiastref20_Carry.l2] at h⟩
  | k + 1 => by
    obtain ⟨ih0, ih1, ih2⟩ := scholiastref20_Carry.mono_l k
    refine ⟨?_, ?_, ?_⟩
    · intro y0 y1 y2 y3 y4 y5
      unfold scholiastref20_Carry.l0
      repeat' first
      | (with_reducible exact ih0 _ _ _ _ _ _)
      | (with_reducible exact ih1 _ _ _ _ _)
      | (with_reducible exact ih2 _ _ _ _ _ _ _ _ _ _ _ _ _)
      | (with_reducible exact LeO.refl _)
      | (with_reducible exact LeO.none _)
      | (with_reducible refine LeO.ite ?_ ?_)
      | (with_reducible refine LeO.bind ?_ (fun _ => ?_))
      | exact ih0 _ _ _ _ _ _
      | exact ih1 _ _ _ _ _
      | exact ih2 _ _ _ _ _ _ _ _ _ _ _ _ _
      | exact LeO.none _
      | refine LeO.ite ?_ ?_
      | refine LeO.bind ?_ (fun _ => ?_)
    · intro y0 y1 y2 y3 y4
      unfold scholiastref20_Carry.l1
      repeat' first
      | (with_reducible exact ih0 _ _ _ _ _ _)
      | (with_reducible exact ih1 _ _ _ _ _)
      | (with_reducible exact ih2 _ _ _ _ _ _ _ _ _ _ _ _ _)
      | (with_reducible exact LeO.refl _)
      | (with_reducible exact LeO.none _)
      | (with_reducible refine LeO.ite ?_ ?_)
      | (with_reducible refine LeO.bind ?_ (fun _ => ?_))
      | exact ih0 _ _ _ _ _ _
      | exact ih1 _ _ _ _ _
      | exact ih2 _ _ _ _ _ _ _ _ _ _ _ _ _
      | exact LeO.none _
      | refine LeO.ite ?_ ?_
      | refine LeO.bind ?_ (fun _ => ?_)
    · intro y0 y1 y2 y3 y4 y5 y6 y7 y8 y9 y10 y11 y12
      unfold scholiastref20_Carry.l2
      repeat' first
      | (with_reducible exact ih0 _ _ _ _ _ _)
      | (with_reducible exact ih1 _ _ _ _ _)
      | (with_reducible exact ih2 _ _ _ _ _ _ _ _ _ _ _ _ _)
      | (with_reducible exact LeO.refl _)
      | (with_reducible exact LeO.none _)
      | (with_reducible refine LeO.ite ?_ ?_)
      | (with_reducible refine LeO.bind ?_ (fun _ => ?_))
      | exact ih0 _ _ _ _ _ _
      | exact ih1 _ _ _ _ _
      | exact ih2 _ _ _ _ _ _ _ _ _ _ _ _ _
      | exact LeO.none _
      | refine LeO.ite ?_ ?_
      | refine LeO.bind ?_ (fun _ => ?_)
theorem scholiastref20_Carry.mono : ∀ a0 a1 k, LeO (scholiastref20_Carry.f k a0 a1) (scholiastref20_Carry.f (k + 1) a0 a1) := by
  intro a0 a1 k
  obtain ⟨ih0, ih1, ih2⟩ := scholiastref20_Carry.mono_l k
  unfold scholiastref20_Carry.f
  repeat' first
      | (with_reducible exact ih0 _ _ _ _ _ _)
      | (with_reducible exact ih1 _ _ _ _ _)
      | (with_reducible exact ih2 _ _ _ _ _ _ _ _ _ _ _ _ _)
      | (with_reducible exact LeO.refl _)
      | (with_reducible exact LeO.none _)
      | (with_reducible refine LeO.ite ?_ ?_)
      | (with_reducible refine LeO.bind ?_ (fun _ => ?_))
      | exact ih0 _ _ _ _ _ _
      | exact ih1 _ _ _ _ _
      | exact ih2 _ _ _ _ _ _ _ _ _ _ _ _ _
      | exact LeO.none _
      | refine LeO.ite ?_ ?_
      | refine LeO.bind ?_ (fun _ => ?_)
set_option maxHeartbeats 8000000 in
set_option maxRecDepth 100000 in
theorem scholiastref20_Carry.calls (k : Nat) (A0 : Option Addr) (c0 : Nat) (l0 : List (S36)) (A1 : Option Addr) (c1 : Nat) (l1 : List (S43)) (r1 : List (S36)) (r2 : Int) (w : World) (hr0 : Kd.C k36 w A0 l0.length l0) (hc0 : l0.length ≤ c0) (hr1 : Kd.C k43 w A1 l1.length l1) (hc1 : l1.length ≤ c1) (h : scholiastref20_Carry.f k l0 l1 = some (r1, r2)) :
    Calls Tryd.prog 28 #[.slice A0 l0.length c0, .slice A1 l1.length c1] w fun e w' => ∃ v0_ : Value, e = .returned (.tuple #[v0_, .int .i64 r2]) ∧ Kd.R k36 36 w' w.heap.size (fun _ => True) v0_ r1 ∧ Below w.heap.size w w' := by
  have hu43 := Tryd.underlying43
  have hu36 := Tryd.underlying36
  have HR0 := Aside0.mk hr0
  have HC0 := Aside0.mk hc0
  clear hr0 hc0
  have HR1 := Aside0.mk hr1
  have HC1 := Aside0.mk hc1
  clear hr1 hc1
  have HB := Aside0.mk (Below.refl w.heap.size w)
  have H : (scholiastref20_Carry.l0 k l0 l1 0 l1 (l1.length : Int) 0) = some (r1, r2) := h
  clear h
  have H' := Aside0.mk H
  clear H
  go_enter Tryd.func28, Tryd.ntmps28
  go_wp2
  go_loopg [6, 18] k (fun kq v6 v18 w' => ∃ (x6_1 : Int) (x18_1 : Int), v6 = .int .i64 x6_1 ∧ v18 = .int .i64 x18_1 ∧ Aside0 (scholiastref20_Carry.l0 kq l0 l1 x6_1 l1 (l1.length : Int) x18_1 = some (r1, r2)) ∧ Aside0 (kq ≤ k) ∧ Aside0 (Below w.heap.size w w'))
  case atStart => exact ⟨(0), (0), (by first | rfl | (simp; done) | (simp [*]; done)), (by first | rfl | (simp; done) | (simp [*]; done)), H', ⟨Nat.le_refl _⟩, ⟨by repeat (first | (with_reducible first | exact HB.out | apply below_alloc | apply pw_below_drewN | apply below_drew1) | exact HB.out)⟩⟩
  case round =>
    clear H'
    try clear c1
    try clear c2
    try clear p2
    obtain ⟨x6_1, x18_1, rfl, rfl, HA, HK1, HB⟩ := hrel
    cases gk with
    | zero => exact absurd HA.out (by simp [scholiastref20_Carry.l0])
    | succ k1 =>
      have H := HA.out
      clear HA
      simp only [scholiastref20_Carry.l0] at H
      by_cases c3 : x18_1 < (l1.length : Int)
      · rw [if_pos c3] at H
        have c3b0 : decide (x18_1 < (l1.length : Int)) = true := decide_eq_true c3
        clear c3
        by_cases c4 : 0 ≤ x18_1
        · rw [if_pos c4] at H
          have c4b0 : decide (0 ≤ x18_1) = true := decide_eq_true c4
          clear c4
          by_cases c5 : x18_1 < (l1.length : Int)
          · rw [if_pos c5] at H
            have c5b0 : decide (x18_1 < (l1.length : Int)) = true := decide_eq_true c5
            clear c5
            by_cases c6 : ((rd_T43 l1 x18_1).f0) < x6_1
            · rw [if_pos c6] at H
              have c6b0 : decide (((rd_T43 l1 x18_1).f0) < x6_1) = true := decide_eq_true c6
              clear c6
              simp only [Option.some.injEq, Prod.mk.injEq] at H
              obtain ⟨rfl, rfl⟩ := H
              have p308 : 0 ≤ (x18_1 : Int) := of_decide_eq_true (by first | (with_reducible assumption) | assumption)
              have q308 : x18_1 < (l1.length : Int) := of_decide_eq_true (by first | (with_reducible assumption) | assumption)
              obtain ⟨ad308, e308, hx308_0, hx308_1, hx308_2⟩ := at_T43 HR1.out x18_1 p308 q308
              cases e308
              replace hx308_0 := (HB.out.cell (World.block_lt_of_cell? w _ hx308_0)).trans hx308_0
              replace hx308_1 := (HB.out.cell (World.block_lt_of_cell? w _ hx308_1)).trans hx308_1
              replace hx308_2 := (HB.out.cell (World.block_lt_of_cell? w _ hx308_2)).trans hx308_2
              replace p308 := eq_true p308
              replace q308 := eq_true q308
              go_wp2_with (first | ((with_reducible refine gate_dst (N := 8) rfl ?_); refine box_event ?hg (N := 8) ?hd (cs := #[.int .i64 0, .int .i64 0, .string (⟨#[]⟩ : ByteArray)]) (t := 43) ?hr ?_; (case hd => rfl); (case hg => rfl); (case hr => first | (go_simp; done) | (go_simp; rfl)); intro gb309 hg w7 hbox hb; have n0_ := Aside0.mk (below_step (by repeat (first | (with_reducible first | exact HB.out | apply below_alloc | apply pw_below_drewN | apply below_drew1) | exact HB.out)) hb); have n1_ := Aside0.mk (hbox); have n2_ := Aside0.mk ((by rw [hg]; exact (below_size (by repeat (first | (with_reducible first | exact HB.out | apply below_alloc | apply pw_below_drewN | apply below_drew1) | exact HB.out))) : w.heap.size ≤ gb309)); have n3_ := Aside0.mk ((by rw [hg]; exact (below_size (by repeat (first | (with_reducible first | exact HB.out | apply below_alloc | apply pw_below_drewN | apply below_drew1) | exact HB.out))) : w.heap.size ≤ gb309)); clear HB; have HB := n0_; have BK309 := n1_; have GW309 := n2_; have GE309 := n3_; clear n0_ n1_ n2_ n3_; clear hb hbox hg; have hcz8_0 : w7.cell? ⟨gb309, 0, none⟩ = some (.int .i64 0) := (blk_cell BK309.out 0).trans rfl; have hcz8_1 : w7.cell? ⟨gb309, 1, none⟩ = some (.int .i64 0) := (blk_cell BK309.out 1).trans rfl; have hcz8_2 : w7.cell? ⟨gb309, 2, none⟩ = some (.string (⟨#[]⟩ : ByteArray)) := (blk_cell BK309.out 2).trans rfl; have hfz8_0 := blk_frozen BK309.out 0; have hfz8_1 := blk_frozen BK309.out 1; have hfz8_2 := blk_frozen BK309.out 2))
              go_ret2
              exact ⟨_, by first | rfl | (simp [errW_none, errW_some] <;> rfl) | (simp [*, errW_none, errW_some] <;> rfl), by first | exact Kd.R_nil _ _ _ _ _ | exact Kd.N_nil _ _ _ _ _ | exact Kd.V_nil _ _ _ _ _ | exact Kd.Q_nil _ _ _ _ _ | exact Kd.S_nil _ _ _ _ _, by repeat (first | (with_reducible first | exact HB.out | apply below_alloc | apply pw_below_drewN | apply below_drew1 | refine below_set ?_ GE309.out) | exact HB.out)⟩
            · rw [if_neg c6] at H
              have c6b0 : decide (((rd_T43 l1 x18_1).f0) < x6_1) = false := decide_eq_false c6
              clear c6
              by_cases c9 : ((rd_T43 l1 x18_1).f1) < ((rd_T43 l1 x18_1).f0)
              · rw [if_pos c9] at H
                have c9b0 : decide (((rd_T43 l1 x18_1).f1) < ((rd_T43 l1 x18_1).f0)) = true := decide_eq_true c9
                clear c9
                simp only [Option.some.injEq, Prod.mk.injEq] at H
                obtain ⟨rfl, rfl⟩ := H
                have p308 : 0 ≤ (x18_1 : Int) := of_decide_eq_true (by first | (with_reducible assumption) | assumption)
                have q308 : x18_1 < (l1.length : Int) := of_decide_eq_true (by first | (with_reducible assumption) | assumption)
                obtain ⟨ad308, e308, hx308_0, hx308_1, hx308_2⟩ := at_T43 HR1.out x18_1 p308 q308
                cases e308
                replace hx308_0 := (HB.out.cell (World.block_lt_of_cell? w _ hx308_0)).trans hx308_0
                replace hx308_1 := (HB.out.cell (World.block_lt_of_cell? w _ hx308_1)).trans hx308_1
                replace hx308_2 := (HB.out.cell (World.block_lt_of_cell? w _ hx308_2)).trans hx308_2
                replace p308 := eq_true p308
                replace q308 := eq_true q308
                go_wp2_with (first | ((with_reducible refine gate_dst (N := 8) rfl ?_); refine box_event ?hg (N := 8) ?hd (cs := #[.int .i64 0, .int .i64 0, .string (⟨#[]⟩ : ByteArray)]) (t := 43) ?hr ?_; (case hd => rfl); (case hg => rfl); (case hr => first | (go_simp; done) | (go_simp; rfl)); intro gb309 hg w10 hbox hb; have n0_ := Aside0.mk (below_step (by repeat (first | (with_reducible first | exact HB.out | apply below_alloc | apply pw_below_drewN | apply below_drew1) | exact HB.out)) hb); have n1_ := Aside0.mk (hbox); have n2_ := Aside0.mk ((by rw [hg]; exact (below_size (by repeat (first | (with_reducible first | exact HB.out | apply below_alloc | apply pw_below_drewN | apply below_drew1) | exact HB.out))) : w.heap.size ≤ gb309)); have n3_ := Aside0.mk ((by rw [hg]; exact (below_size (by repeat (first | (with_reducible first | exact HB.out | apply below_alloc | apply pw_below_drewN | apply below_drew1) | exact HB.out))) : w.heap.size ≤ gb309)); clear HB; have HB := n0_; have BK309 := n1_; have GW309 := n2_; have GE309 := n3_; clear n0_ n1_ n2_ n3_; clear hb hbox hg; have hcz11_0 : w10.cell? ⟨gb309, 0, none⟩ = some (.int .i64 0) := (blk_cell BK309.out 0).trans rfl; have hcz11_1 : w10.cell? ⟨gb309, 1, none⟩ = some (.int .i64 0) := (blk_cell BK309.out 1).trans rfl; have hcz11_2 : w10.cell? ⟨gb309, 2, none⟩ = some (.string (⟨#[]⟩ : ByteArray)) := (blk_cell BK309.out 2).trans rfl; have hfz11_0 := blk_frozen BK309.out 0; have hfz11_1 := blk_frozen BK309.out 1; have hfz11_2 := blk_frozen BK309.out 2))
                go_ret2
                exact ⟨_, by first | rfl | (simp [errW_none, errW_some] <;> rfl) | (simp [*, errW_none, errW_some] <;> rfl), by first | exact Kd.R_nil _ _ _ _ _ | exact Kd.N_nil _ _ _ _ _ | exact Kd.V_nil _ _ _ _ _ | exact Kd.Q_nil _ _ _ _ _ | exact Kd.S_nil _ _ _ _ _, by repeat (first | (with_reducible first | exact HB.out | apply below_alloc | apply pw_below_drewN | apply below_drew1 | refine below_set ?_ GE309.out) | exact HB.out)⟩
              · rw [if_neg c9] at H
                have c9b0 : decide (((rd_T43 l1 x18_1).f1) < ((rd_T43 l1 x18_1).f0)) = false := decide_eq_false c9
                clear c9
                have H' := Aside0.mk H
                clear H
                have p308 : 0 ≤ (x18_1 : Int) := of_decide_eq_true (by first | (with_reducible assumption) | assumption)
                have q308 : x18_1 < (l1.length : Int) := of_decide_eq_true (by first | (with_reducible assumption) | assumption)
                obtain ⟨ad308, e308, hx308_0, hx308_1, hx308_2⟩ := at_T43 HR1.out x18_1 p308 q308
                cases e308
                replace hx308_0 := (HB.out.cell (World.block_lt_of_cell? w _ hx308_0)).trans hx308_0
                replace hx308_1 := (HB.out.cell (World.block_lt_of_cell? w _ hx308_1)).trans hx308_1
                replace hx308_2 := (HB.out.cell (World.block_lt_of_cell? w _ hx308_2)).trans hx308_2
                replace p308 := eq_true p308
                replace q308 := eq_true q308
                go_wp2_with (first | ((with_reducible refine gate_dst (N := 8) rfl ?_); refine box_event ?hg (N := 8) ?hd (cs := #[.int .i64 0, .int .i64 0, .string (⟨#[]⟩ : ByteArray)]) (t := 43) ?hr ?_; (case hd => rfl); (case hg => rfl); (case hr => first | (go_simp; done) | (go_simp; rfl)); intro gb309 hg w12 hbox hb; have n0_ := Aside0.mk (below_step (by repeat (first | (with_reducible first | exact HB.out | apply below_alloc | apply pw_below_drewN | apply below_drew1) | exact HB.out)) hb); have n1_ := Aside0.mk (hbox); have n2_ := Aside0.mk ((by rw [hg]; exact (below_size (by repeat (first | (with_reducible first | exact HB.out | apply below_alloc | apply pw_below_drewN | apply below_drew1) | exact HB.out))) : w.heap.size ≤ gb309)); have n3_ := Aside0.mk ((by rw [hg]; exact (below_size (by repeat (first | (with_reducible first | exact HB.out | apply below_alloc | apply pw_below_drewN | apply below_drew1) | exact HB.out))) : w.heap.size ≤ gb309)); clear HB; have HB := n0_; have BK309 := n1_; have GW309 := n2_; have GE309 := n3_; clear n0_ n1_ n2_ n3_; clear hb hbox hg; have hcz13_0 : w12.cell? ⟨gb309, 0, none⟩ = some (.int .i64 0) := (blk_cell BK309.out 0).trans rfl; have hcz13_1 : w12.cell? ⟨gb309, 1, none⟩ = some (.int .i64 0) := (blk_cell BK309.out 1).trans rfl; have hcz13_2 : w12.cell? ⟨gb309, 2, none⟩ = some (.string (⟨#[]⟩ : ByteArray)) := (blk_cell BK309.out 2).trans rfl; have hfz13_0 := blk_frozen BK309.out 0; have hfz13_1 := blk_frozen BK309.out 1; have hfz13_2 := blk_frozen BK309.out 2))
                go_roundg k1
                case measure => have := HK1.out; omega
                case rel => exact ⟨((rd_T43 l1 x18_1).f1), (wrap64 (x18_1 + 1)), (by first | rfl | (simp; done) | (simp [*]; done)), (by first | rfl | (simp; done) | (simp [*]; done)), H', ⟨by have := HK1.out; omega⟩, ⟨by repeat (first | (with_reducible first | exact HB.out | apply below_alloc | apply pw_below_drewN | apply below_drew1 | refine below_set ?_ GE309.out) | exact HB.out)⟩⟩
          · rw [if_neg c5] at H
            exact absurd H (by simp)
        · rw [if_neg c4] at H
          exact absurd H (by simp)
      · rw [if_neg c3] at H
        have c3b0 : decide (x18_1 < (l1.length : Int)) = false := decide_eq_false c3
        clear c3
        have H' := Aside0.mk H
        clear H
        go_wp2
        go_loopg [9, 38] k1 (fun kq v9 v38 w' => ∃ (x9_2 : List (S36)) (x38_2 : Int), v38 = .int .i64 x38_2 ∧ Aside0 (scholiastref20_Carry.l1 kq l1 x9_2 l0 (l0.length : Int) x38_2 = some (r1, r2)) ∧ Aside0 (kq ≤ k1) ∧ Aside0 (Kd.R k36 36 w' w.heap.size (fun _ => True) v9 x9_2) ∧ Aside0 (Below w.heap.size w w'))
        case atStart => exact ⟨(([] : List (S36))), (0), (by first | rfl | (simp; done) | (simp [*]; done)), H', ⟨Nat.le_refl _⟩, ⟨by first | exact Kd.R_nil _ _ _ _ _ | exact Kd.N_nil _ _ _ _ _ | exact Kd.V_nil _ _ _ _ _ | exact Kd.Q_nil _ _ _ _ _ | exact Kd.S_nil _ _ _ _ _⟩, ⟨by repeat (first | (with_reducible first | exact HB.out | apply below_alloc | apply pw_below_drewN | apply below_drew1) | exact HB.out)⟩⟩
        case round =>
          clear H'
          try clear c1
          try clear c2
          try clear p2
          try clear c3
          try clear c3b0
          try clear p3
          try clear q3
          try clear hx3
          try clear c4
          try clear c4b0
          try clear c5
          try clear c5b0
          try clear c6
          try clear c6b0
          try clear p6
          try clear c9
          try clear c9b0
          try clear hcz11_0
          try clear hcz11_1
          try clear hcz11_2
          try clear hcz13_0
          try clear hcz13_1
          try clear hcz13_2
          try clear hcz8_0
          try clear hcz8_1
          try clear hcz8_2
          try clear hfz11_0
          try clear hfz11_1
          try clear hfz11_2
          try clear hfz13_0
          try clear hfz13_1
          try clear hfz13_2
          try clear hfz8_0
          try clear hfz8_1
          try clear hfz8_2
          try clear hx308_0
          try clear hx308_1
          try clear hx308_2
          try clear p2
          try clear p308
          try clear q308
          obtain ⟨x9_2, x38_2, rfl, HA, HK2, HO_9, HB⟩ := hrel
          cases gk with
          | zero => exact absurd HA.out (by simp [scholiastref20_Carry.l1])
          | succ k2 =>
            have H := HA.out
            clear HA
            simp only [scholiastref20_Carry.l1] at H
            by_cases c14 : x38_2 < (l0.length : Int)
            · rw [if_pos c14] at H
              have c14b0 : decide (x38_2 < (l0.length : Int)) = true := decide_eq_true c14
              clear c14
              by_cases c15 : 0 ≤ x38_2
              · rw [if_pos c15] at H
                have c15b0 : decide (0 ≤ x38_2) = true := decide_eq_true c15
                clear c15
                by_cases c16 : x38_2 < (l0.length : Int)
                · rw [if_pos c16] at H
                  have c16b0 : decide (x38_2 < (l0.length : Int)) = true := decide_eq_true c16
                  clear c16
                  have H' := Aside0.mk H
                  clear H
                  have p310 : 0 ≤ (x38_2 : Int) := of_decide_eq_true (by first | (with_reducible assumption) | assumption)
                  have q310 : x38_2 < (l0.length : Int) := of_decide_eq_true (by first | (with_reducible assumption) | assumption)
                  obtain ⟨ad310, e310, hx310_0, hx310_1, hx310_2⟩ := at_T36 HR0.out x38_2 p310 q310
                  cases e310
                  replace hx310_0 := (HB.out.cell (World.block_lt_of_cell? w _ hx310_0)).trans hx310_0
                  replace hx310_1 := (HB.out.cell (World.block_lt_of_cell? w _ hx310_1)).trans hx310_1
                  replace hx310_2 := (HB.out.cell (World.block_lt_of_cell? w _ hx310_2)).trans hx310_2
                  replace p310 := eq_true p310
                  replace q310 := eq_true q310
                  go_wp2_with (first | ((with_reducible refine gate_dst (N := 11) rfl ?_); refine box_event ?hg (N := 11) ?hd (cs := #[.int .i64 0, .int .i64 0, .int .i64 0]) (t := 36) ?hr ?_; (case hd => rfl); (case hg => rfl); (case hr => first | (go_simp; done) | (go_simp; rfl)); intro gb311 hg w17 hbox hb; have n0_ := Aside0.mk (Kd.R_below (Kd.R_elderB (by (with_reducible repeat (first | apply Kd.R_alloc | apply Kd.R_drewN | apply Kd.R_drew)); exact HO_9.out) gb311 (Nat.le_of_eq hg.symm)) hb); have n1_ := Aside0.mk (below_step (by repeat (first | (with_reducible first | exact HB.out | apply below_alloc | apply pw_below_drewN | apply below_drew1) | exact HB.out)) hb); have n2_ := Aside0.mk (hbox); have n3_ := Aside0.mk ((by rw [hg]; exact (below_size (by repeat (first | (with_reducible first | exact HB.out | apply below_alloc | apply pw_below_drewN | apply below_drew1) | exact HB.out))) : w.heap.size ≤ gb311)); have n4_ := Aside0.mk ((by rw [hg]; exact (below_size (by repeat (first | (with_reducible first | exact HB.out | apply below_alloc | apply pw_below_drewN | apply below_drew1) | exact HB.out))) : w.heap.size ≤ gb311)); clear HO_9; clear HB; have HO_9 := n0_; have HB := n1_; have BK311 := n2_; have GW311 := n3_; have GE311 := n4_; clear n0_ n1_ n2_ n3_ n4_; clear hb hbox hg; have hcz18_0 : w17.cell? ⟨gb311, 0, none⟩ = some (.int .i64 0) := (blk_cell BK311.out 0).trans rfl; have hcz18_1 : w17.cell? ⟨gb311, 1, none⟩ = some (.int .i64 0) := (blk_cell BK311.out 1).trans rfl; have hcz18_2 : w17.cell? ⟨gb311, 2, none⟩ = some (.int .i64 0) := (blk_cell BK311.out 2).trans rfl; have hfz18_0 := blk_frozen BK311.out 0; have hfz18_1 := blk_frozen BK311.out 1; have hfz18_2 := blk_frozen BK311.out 2))
                  go_loopg [12, 13, 44] k2 (fun kq v12 v13 v44 w' => ∃ (x12_3 : Int) (x13_3 : Bool) (x44_3 : Int), v12 = .int .i64 x12_3 ∧ v13 = .bool x13_3 ∧ v44 = .int .i64 x44_3 ∧ Aside0 (scholiastref20_Carry.l2 kq l1 x9_2 x12_3 x13_3 l0 (l0.length : Int) x38_2 l1 (l1.length : Int) x44_3 ((rd_T36 l0 x38_2).f0) ((rd_T36 l0 x38_2).f1) ((rd_T36 l0 x38_2).f2) = some (r1, r2)) ∧ Aside0 (kq ≤ k2) ∧ Aside0 (Kd.R k36 36 w' w.heap.size (fun k_ => k_ ≠ gb311) u9 x9_2) ∧ Aside0 (w'.heap[gb311]? = some (.cells #[.int .i64 ((rd_T36 l0 x38_2).f0), .int .i64 ((rd_T36 l0 x38_2).f1), .int .i64 ((rd_T36 l0 x38_2).f2)] 36 (0, 0))) ∧ Aside0 (Below w.heap.size w w'))
                  case atStart => exact ⟨(0), (false), (0), (by first | rfl | (simp; done) | (simp [*]; done)), (by first | rfl | (simp; done) | (simp [*]; done)), (by first | rfl | (simp; done) | (simp [*]; done)), H', ⟨Nat.le_refl _⟩, ⟨by (with_reducible repeat (first | apply Kd.R_alloc | apply Kd.R_drewN | apply Kd.R_drew)); exact Kd.R_mono (Kd.R_far (p := ⟨gb311, 2, none⟩) (Kd.R_far (p := ⟨gb311, 1, none⟩) (Kd.R_far (p := ⟨gb311, 0, none⟩) (Kd.R_mono HO_9.out (fun k_ hk => (⟨hk, hk.2⟩ : _ ∧ k_ ≠ gb311))) (fun _ hk => hk.2) (.int .i64 ((rd_T36 l0 x38_2).f0))) (fun _ hk => hk.2) (.int .i64 ((rd_T36 l0 x38_2).f1))) (fun _ hk => hk.2) (.int .i64 ((rd_T36 l0 x38_2).f2))) (fun _ hk => hk.1.2)⟩, ⟨by (with_reducible repeat (first | refine blk_drewN ?_ _ | refine blk_drew ?_ | refine blk_alloc ?_ _)); refine blk_put (cs := #[.int .i64 ((rd_T36 l0 x38_2).f0), .int .i64 ((rd_T36 l0 x38_2).f1), .int .i64 0]) ?_ 2 _ rfl; (with_reducible repeat (first | refine blk_drewN ?_ _ | refine blk_drew ?_ | refine blk_alloc ?_ _)); refine blk_put (cs := #[.int .i64 ((rd_T36 l0 x38_2).f0), .int .i64 0, .int .i64 0]) ?_ 1 _ rfl; (with_reducible repeat (first | refine blk_drewN ?_ _ | refine blk_drew ?_ | refine blk_alloc ?_ _)); refine blk_put (cs := #[.int .i64 0, .int .i64 0, .int .i64 0]) ?_ 0 _ rfl; (with_reducible repeat (first | refine blk_drewN ?_ _ | refine blk_drew ?_ | refine blk_alloc ?_ _)); exact BK311.out⟩, ⟨by repeat (first | (with_reducible first | exact HB.out | apply below_alloc | apply pw_below_drewN | apply below_drew1 | refine below_set ?_ GE311.out) | exact HB.out)⟩⟩
                  case round =>
                    clear H'
                    try clear c1
                    try clear c2
                    try clear p2
                    try clear c3
                    try clear c3b0
                    try clear p3
                    try clear q3
                    try clear hx3
                    try clear c4
                    try clear c4b0
                    try clear c5
                    try clear c5b0
                    try clear c6
                    try clear c6b0
                    try clear p6
                    try clear c9
                    try clear c9b0
                    try clear c14
                    try clear c14b0
                    try clear c15
                    try clear c15b0
                    try clear c16
                    try clear c16b0
                    try clear hcz11_0
                    try clear hcz11_1
                    try clear hcz11_2
                    try clear hcz13_0
                    try clear hcz13_1
                    try clear hcz13_2
                    try clear hcz18_0
                    try clear hcz18_1
                    try clear hcz18_2
                    try clear hcz8_0
                    try clear hcz8_1
                    try clear hcz8_2
                    try clear hfz11_0
                    try clear hfz11_1
                    try clear hfz11_2
                    try clear hfz13_0
                    try clear hfz13_1
                    try clear hfz13_2
                    try clear hfz18_0
                    try clear hfz18_1
                    try clear hfz18_2
                    try clear hfz8_0
                    try clear hfz8_1
                    try clear hfz8_2
                    try clear hx308_0
                    try clear hx308_1
                    try clear hx308_2
                    try clear hx310_0
                    try clear hx310_1
                    try clear hx310_2
                    try clear p2
                    try clear p3
                    try clear p308
                    try clear p310
                    try clear p6
                    try clear q3
                    try clear q308
                    try clear q310
                    obtain ⟨x12_3, x13_3, x44_3, rfl, rfl, rfl, HA, HK3, HO_9, BK311, HB⟩ := hrel
                    cases gk with
                    | zero => exact absurd HA.out (by simp [scholiastref20_Carry.l2])
                    | succ k3 =>
                      have H := HA.out
                      clear HA
                      simp only [scholiastref20_Carry.l2] at H
                      by_cases c19 : x44_3 < (l1.length : Int)
                      · rw [if_pos c19] at H
                        have c19b0 : decide (x44_3 < (l1.length : Int)) = true := decide_eq_true c19
                        clear c19
                        by_cases c20 : 0 ≤ x44_3
                        · rw [if_pos c20] at H
                          have c20b0 : decide (0 ≤ x44_3) = true := decide_eq_true c20
                          clear c20
                          by_cases c21 : x44_3 < (l1.length : Int)
                          · rw [if_pos c21] at H
                            have c21b0 : decide (x44_3 < (l1.length : Int)) = true := decide_eq_true c21
                            clear c21
                            by_cases c22 : x13_3 = true
                            · subst c22
                              have H1 : (if ((rd_T43 l1 x44_3).f1) ≤ ((rd_T36 l0 x38_2).f1) then (scholiastref20_Carry.l2 k3 l1 x9_2 (wrap64 (x12_3 + (wrap64 ((((rd_T43 l1 x44_3).f2).size : Int) - (wrap64 (((rd_T43 l1 x44_3).f1) - ((rd_T43 l1 x44_3).f0))))))) true l0 (l0.length : Int) x38_2 l1 (l1.length : Int) (wrap64 (x44_3 + 1)) ((rd_T36 l0 x38_2).f0) ((rd_T36 l0 x38_2).f1) ((rd_T36 l0 x38_2).f2)) else (scholiastref20_Carry.l2 k3 l1 x9_2 x12_3 true l0 (l0.length : Int) x38_2 l1 (l1.length : Int) (wrap64 (x44_3 + 1)) ((rd_T36 l0 x38_2).f0) ((rd_T36 l0 x38_2).f1) ((rd_T36 l0 x38_2).f2))) = some (r1, r2) := by rw [if_pos rfl] at H; exact H
                              clear H
                              have H := H1
                              clear H1
                              by_cases c23 : ((rd_T43 l1 x44_3).f1) ≤ ((rd_T36 l0 x38_2).f1)
                              · rw [if_pos c23] at H
                                have c23b0 : decide (((rd_T43 l1 x44_3).f1) ≤ ((rd_T36 l0 x38_2).f1)) = true := decide_eq_true c23
                                clear c23
                                have H' := Aside0.mk H
                                clear H
                                have p312 : 0 ≤ (x44_3 : Int) := of_decide_eq_true (by first | (with_reducible assumption) | assumption)
                                have q312 : x44_3 < (l1.length : Int) := of_decide_eq_true (by first | (with_reducible assumption) | assumption)
                                obtain ⟨ad312, e312, hx312_0, hx312_1, hx312_2⟩ := at_T43 HR1.out x44_3 p312 q312
                                cases e312
                                replace hx312_0 := (HB.out.cell (World.block_lt_of_cell? w _ hx312_0)).trans hx312_0
                                replace hx312_1 := (HB.out.cell (World.block_lt_of_cell? w _ hx312_1)).trans hx312_1
                                replace hx312_2 := (HB.out.cell (World.block_lt_of_cell? w _ hx312_2)).trans hx312_2
                                replace p312 := eq_true p312
                                replace q312 := eq_true q312
                                go_wp2_with (first | ((with_reducible refine gate_dst (N := 15) rfl ?_); refine box_event ?hg (N := 15) ?hd (cs := #[.int .i64 0, .int .i64 0, .string (⟨#[]⟩ : ByteArray)]) (t := 43) ?hr ?_; (case hd => rfl); (case hg => rfl); (case hr => first | (go_simp; done) | (go_simp; rfl)); intro gb313 hg w24 hbox hb; have n0_ := Aside0.mk (Kd.R_below (by (with_reducible repeat (first | apply Kd.R_alloc | apply Kd.R_drewN | apply Kd.R_drew)); exact HO_9.out) hb); have n1_ := Aside0.mk (blk_below (g := gb311) (o := .cells #[.int .i64 ((rd_T36 l0 x38_2).f0), .int .i64 ((rd_T36 l0 x38_2).f1), .int .i64 ((rd_T36 l0 x38_2).f2)] 36 (0, 0)) (by (with_reducible repeat (first | refine blk_drewN ?_ _ | refine blk_drew ?_ | refine blk_alloc ?_ _)); exact BK311.out) hb); have n2_ := Aside0.mk (below_step (by repeat (first | (with_reducible first | exact HB.out | apply below_alloc | apply pw_below_drewN | apply below_drew1 | refine below_set ?_ GE311.out) | exact HB.out)) hb); have n3_ := Aside0.mk (hbox); have n4_ := Aside0.mk ((by rw [hg]; exact (below_size (by repeat (first | (with_reducible first | exact HB.out | apply below_alloc | apply pw_below_drewN | apply below_drew1 | refine below_set ?_ GE311.out) | exact HB.out))) : w.heap.size ≤ gb313)); have n5_ := Aside0.mk ((by rw [hg]; exact (below_size (by repeat (first | (with_reducible first | exact HB.out | apply below_alloc | apply pw_below_drewN | apply below_drew1 | refine below_set ?_ GE311.out) | exact HB.out))) : w.heap.size ≤ gb313)); have n6_ := Aside0.mk ((by rw [hg]; exact Nat.ne_of_lt (blk_lt (g := gb311) (o := .cells #[.int .i64 ((rd_T36 l0 x38_2).f0), .int .i64 ((rd_T36 l0 x38_2).f1), .int .i64 ((rd_T36 l0 x38_2).f2)] 36 (0, 0)) (by (with_reducible repeat (first | refine blk_drewN ?_ _ | refine blk_drew ?_ | refine blk_alloc ?_ _)); exact BK311.out)) : gb311 ≠ gb313)); have n7_ := Aside0.mk ((by rw [hg]; exact Nat.ne_of_gt (blk_lt (g := gb311) (o := .cells #[.int .i64 ((rd_T36 l0 x38_2).f0), .int .i64 ((rd_T36 l0 x38_2).f1), .int .i64 ((rd_T36 l0 x38_2).f2)] 36 (0, 0)) (by (with_reducible repeat (first | refine blk_drewN ?_ _ | refine blk_drew ?_ | refine blk_alloc ?_ _)); exact BK311.out)) : gb313 ≠ gb311)); clear HO_9; clear BK311; clear HB; have HO_9 := n0_; have BK311 := n1_; have HB := n2_; have BK313 := n3_; have GW313 := n4_; have GE313 := n5_; have NB311_313 := n6_; have NB313_311 := n7_; clear n0_ n1_ n2_ n3_ n4_ n5_ n6_ n7_; clear hb hbox hg; have hnb25 := NB313_311.out; have hnc25 := NB311_313.out; have hcz26_0 : w24.cell? ⟨gb313, 0, none⟩ = some (.int .i64 0) := (blk_cell BK313.out 0).trans rfl; have hcz26_1 : w24.cell? ⟨gb313, 1, none⟩ = some (.int .i64 0) := (blk_cell BK313.out 1).trans rfl; have hcz26_2 : w24.cell? ⟨gb313, 2, none⟩ = some (.string (⟨#[]⟩ : ByteArray)) := (blk_cell BK313.out 2).trans rfl; have hfz26_0 := blk_frozen BK313.out 0; have hfz26_1 := blk_frozen BK313.out 1; have hfz26_2 := blk_frozen BK313.out 2; have hcz27_0 : w24.cell? ⟨gb311, 0, none⟩ = some (.int .i64 ((rd_T36 l0 x38_2).f0)) := (blk_cell BK311.out 0).trans rfl; have hcz27_1 : w24.cell? ⟨gb311, 1, none⟩ = some (.int .i64 ((rd_T36 l0 x38_2).f1)) := (blk_cell BK311.out 1).trans rfl; have hcz27_2 : w24.cell? ⟨gb311, 2, none⟩ = some (.int .i64 ((rd_T36 l0 x38_2).f2)) := (blk_cell BK311.out 2).trans rfl; have hfz27_0 := blk_frozen BK311.out 0; have hfz27_1 := blk_frozen BK311.out 1; have hfz27_2 := blk_frozen BK311.out 2))
                                go_roundg k3
                                case measure => have := HK1.out; have := HK2.out; have := HK3.out; omega
                                case rel => exact ⟨(wrap64 (x12_3 + (wrap64 ((((rd_T43 l1 x44_3).f2).size : Int) - (wrap64 (((rd_T43 l1 x44_3).f1) - ((rd_T43 l1 x44_3).f0))))))), (true), (wrap64 (x44_3 + 1)), (by first | rfl | (simp; done) | (simp [*]; done)), (by first | rfl | (simp; done) | (simp [*]; done)), (by first | rfl | (simp; done) | (simp [*]; done)), H', ⟨by have := HK1.out; have := HK2.out; have := HK3.out; omega⟩, ⟨by (with_reducible repeat (first | apply Kd.R_alloc | apply Kd.R_drewN | apply Kd.R_drew)); exact Kd.R_mono (Kd.R_far (p := ⟨gb313, 2, none⟩) (Kd.R_far (p := ⟨gb313, 1, none⟩) (Kd.R_far (p := ⟨gb313, 0, none⟩) (Kd.R_types HO_9.out BK313.out (by decide)) (fun _ hk => hk.2) (.int .i64 ((rd_T43 l1 x44_3).f0))) (fun _ hk => hk.2) (.int .i64 ((rd_T43 l1 x44_3).f1))) (fun _ hk => hk.2) (.string ((rd_T43 l1 x44_3).f2))) (fun _ hk => hk.1)⟩, ⟨by (with_reducible repeat (first | refine blk_drewN ?_ _ | refine blk_drew ?_ | refine blk_alloc ?_ _)); refine blk_far ?_ NB311_313.out _; (with_reducible repeat (first | refine blk_drewN ?_ _ | refine blk_drew ?_ | refine blk_alloc ?_ _)); refine blk_far ?_ NB311_313.out _; (with_reducible repeat (first | refine blk_drewN ?_ _ | refine blk_drew ?_ | refine blk_alloc ?_ _)); refine blk_far ?_ NB311_313.out _; (with_reducible repeat (first | refine blk_drewN ?_ _ | refine blk_drew ?_ | refine blk_alloc ?_ _)); exact BK311.out⟩, ⟨by repeat (first | (with_reducible first | exact HB.out | apply below_alloc | apply pw_below_drewN | apply below_drew1 | refine below_set ?_ GE311.out | refine below_set ?_ GE313.out) | exact HB.out)⟩⟩
                              · rw [if_neg c23] at H
                                have c23b0 : decide (((rd_T43 l1 x44_3).f1) ≤ ((rd_T36 l0 x38_2).f1)) = false := decide_eq_false c23
                                clear c23
                                have H' := Aside0.mk H
                                clear H
                                have p312 : 0 ≤ (x44_3 : Int) := of_decide_eq_true (by first | (with_reducible assumption) | assumption)
                                have q312 : x44_3 < (l1.length : Int) := of_decide_eq_true (by first | (with_reducible assumption) | assumption)
                                obtain ⟨ad312, e312, hx312_0, hx312_1, hx312_2⟩ := at_T43 HR1.out x44_3 p312 q312
                                cases e312
                                replace hx312_0 := (HB.out.cell (World.block_lt_of_cell? w _ hx312_0)).trans hx312_0
                                replace hx312_1 := (HB.out.cell (World.block_lt_of_cell? w _ hx312_1)).trans hx312_1
                                replace hx312_2 := (HB.out.cell (World.block_lt_of_cell? w _ hx312_2)).trans hx312_2
                                replace p312 := eq_true p312
                                replace q312 := eq_true q312
                                go_wp2_with (first | ((with_reducible refine gate_dst (N := 15) rfl ?_); refine box_event ?hg (N := 15) ?hd (cs := #[.int .i64 0, .int .i64 0, .string (⟨#[]⟩ : ByteArray)]) (t := 43) ?hr ?_; (case hd => rfl); (case hg => rfl); (case hr => first | (go_simp; done) | (go_simp; rfl)); intro gb313 hg w28 hbox hb; have n0_ := Aside0.mk (Kd.R_below (by (with_reducible repeat (first | apply Kd.R_alloc | apply Kd.R_drewN | apply Kd.R_drew)); exact HO_9.out) hb); have n1_ := Aside0.mk (blk_below (g := gb311) (o := .cells #[.int .i64 ((rd_T36 l0 x38_2).f0), .int .i64 ((rd_T36 l0 x38_2).f1), .int .i64 ((rd_T36 l0 x38_2).f2)] 36 (0, 0)) (by (with_reducible repeat (first | refine blk_drewN ?_ _ | refine blk_drew ?_ | refine blk_alloc ?_ _)); exact BK311.out) hb); have n2_ := Aside0.mk (below_step (by repeat (first | (with_reducible first | exact HB.out | apply below_alloc | apply pw_below_drewN | apply below_drew1 | refine below_set ?_ GE311.out) | exact HB.out)) hb); have n3_ := Aside0.mk (hbox); have n4_ := Aside0.mk ((by rw [hg]; exact (below_size (by repeat (first | (with_reducible first | exact HB.out | apply below_alloc | apply pw_below_drewN | apply below_drew1 | refine below_set ?_ GE311.out) | exact HB.out))) : w.heap.size ≤ gb313)); have n5_ := Aside0.mk ((by rw [hg]; exact (below_size (by repeat (first | (with_reducible first | exact HB.out | apply below_alloc | apply pw_below_drewN | apply below_drew1 | refine below_set ?_ GE311.out) | exact HB.out))) : w.heap.size ≤ gb313)); have n6_ := Aside0.mk ((by rw [hg]; exact Nat.ne_of_lt (blk_lt (g := gb311) (o := .cells #[.int .i64 ((rd_T36 l0 x38_2).f0), .int .i64 ((rd_T36 l0 x38_2).f1), .int .i64 ((rd_T36 l0 x38_2).f2)] 36 (0, 0)) (by (with_reducible repeat (first | refine blk_drewN ?_ _ | refine blk_drew ?_ | refine blk_alloc ?_ _)); exact BK311.out)) : gb311 ≠ gb313)); have n7_ := Aside0.mk ((by rw [hg]; exact Nat.ne_of_gt (blk_lt (g := gb311) (o := .cells #[.int .i64 ((rd_T36 l0 x38_2).f0), .int .i64 ((rd_T36 l0 x38_2).f1), .int .i64 ((rd_T36 l0 x38_2).f2)] 36 (0, 0)) (by (with_reducible repeat (first | refine blk_drewN ?_ _ | refine blk_drew ?_ | refine blk_alloc ?_ _)); exact BK311.out)) : gb313 ≠ gb311)); clear HO_9; clear BK311; clear HB; have HO_9 := n0_; have BK311 := n1_; have HB := n2_; have BK313 := n3_; have GW313 := n4_; have GE313 := n5_; have NB311_313 := n6_; have NB313_311 := n7_; clear n0_ n1_ n2_ n3_ n4_ n5_ n6_ n7_; clear hb hbox hg; have hnb29 := NB313_311.out; have hnc29 := NB311_313.out; have hcz30_0 : w28.cell? ⟨gb313, 0, none⟩ = some (.int .i64 0) := (blk_cell BK313.out 0).trans rfl; have hcz30_1 : w28.cell? ⟨gb313, 1, none⟩ = some (.int .i64 0) := (blk_cell BK313.out 1).trans rfl; have hcz30_2 : w28.cell? ⟨gb313, 2, none⟩ = some (.string (⟨#[]⟩ : ByteArray)) := (blk_cell BK313.out 2).trans rfl; have hfz30_0 := blk_frozen BK313.out 0; have hfz30_1 := blk_frozen BK313.out 1; have hfz30_2 := blk_frozen BK313.out 2; have hcz31_0 : w28.cell? ⟨gb311, 0, none⟩ = some (.int .i64 ((rd_T36 l0 x38_2).f0)) := (blk_cell BK311.out 0).trans rfl; have hcz31_1 : w28.cell? ⟨gb311, 1, none⟩ = some (.int .i64 ((rd_T36 l0 x38_2).f1)) := (blk_cell BK311.out 1).trans rfl; have hcz31_2 : w28.cell? ⟨gb311, 2, none⟩ = some (.int .i64 ((rd_T36 l0 x38_2).f2)) := (blk_cell BK311.out 2).trans rfl; have hfz31_0 := blk_frozen BK311.out 0; have hfz31_1 := blk_frozen BK311.out 1; have hfz31_2 := blk_frozen BK311.out 2))
                                go_roundg k3
                                case measure => have := HK1.out; have := HK2.out; have := HK3.out; omega
                                case rel => exact ⟨(x12_3), (true), (wrap64 (x44_3 + 1)), (by first | rfl | (simp; done) | (simp [*]; done)), (by first | rfl | (simp; done) | (simp [*]; done)), (by first | rfl | (simp; done) | (simp [*]; done)), H', ⟨by have := HK1.out; have := HK2.out; have := HK3.out; omega⟩, ⟨by (with_reducible repeat (first | apply Kd.R_alloc | apply Kd.R_drewN | apply Kd.R_drew)); exact Kd.R_mono (Kd.R_far (p := ⟨gb313, 2, none⟩) (Kd.R_far (p := ⟨gb313, 1, none⟩) (Kd.R_far (p := ⟨gb313, 0, none⟩) (Kd.R_types HO_9.out BK313.out (by decide)) (fun _ hk => hk.2) (.int .i64 ((rd_T43 l1 x44_3).f0))) (fun _ hk => hk.2) (.int .i64 ((rd_T43 l1 x44_3).f1))) (fun _ hk => hk.2) (.string ((rd_T43 l1 x44_3).f2))) (fun _ hk => hk.1)⟩, ⟨by (with_reducible repeat (first | refine blk_drewN ?_ _ | refine blk_drew ?_ | refine blk_alloc ?_ _)); refine blk_far ?_ NB311_313.out _; (with_reducible repeat (first | refine blk_drewN ?_ _ | refine blk_drew ?_ | refine blk_alloc ?_ _)); refine blk_far ?_ NB311_313.out _; (with_reducible repeat (first | refine blk_drewN ?_ _ | refine blk_drew ?_ | refine blk_alloc ?_ _)); refine blk_far ?_ NB311_313.out _; (with_reducible repeat (first | refine blk_drewN ?_ _ | refine blk_drew ?_ | refine blk_alloc ?_ _)); exact BK311.out⟩, ⟨by repeat (first | (with_reducible first | exact HB.out | apply below_alloc | apply pw_below_drewN | apply below_drew1 | refine below_set ?_ GE311.out | refine below_set ?_ GE313.out) | exact HB.out)⟩⟩
                            · replace c22 := Bool.eq_false_iff.mpr c22
                              subst c22
                              have H1 : (if ((rd_T43 l1 x44_3).f0) < ((rd_T36 l0 x38_2).f2) then (if ((rd_T43 l1 x44_3).f1) ≤ ((rd_T36 l0 x38_2).f1) then (scholiastref20_Carry.l2 k3 l1 x9_2 (wrap64 (x12_3 + (wrap64 ((((rd_T43 l1 x44_3).f2).size : Int) - (wrap64 (((rd_T43 l1 x44_3).f1) - ((rd_T43 l1 x44_3).f0))))))) (decide (((rd_T43 l1 x44_3).f1) > ((rd_T36 l0 x38_2).f1))) l0 (l0.length : Int) x38_2 l1 (l1.length : Int) (wrap64 (x44_3 + 1)) ((rd_T36 l0 x38_2).f0) ((rd_T36 l0 x38_2).f1) ((rd_T36 l0 x38_2).f2)) else (scholiastref20_Carry.l2 k3 l1 x9_2 x12_3 (decide (((rd_T43 l1 x44_3).f1) > ((rd_T36 l0 x38_2).f1))) l0 (l0.length : Int) x38_2 l1 (l1.length : Int) (wrap64 (x44_3 + 1)) ((rd_T36 l0 x38_2).f0) ((rd_T36 l0 x38_2).f1) ((rd_T36 l0 x38_2).f2))) else (if ((rd_T43 l1 x44_3).f1) ≤ ((rd_T36 l0 x38_2).f1) then (scholiastref20_Carry.l2 k3 l1 x9_2 (wrap64 (x12_3 + (wrap64 ((((rd_T43 l1 x44_3).f2).size : Int) - (wrap64 (((rd_T43 l1 x44_3).f1) - ((rd_T43 l1 x44_3).f0))))))) false l0 (l0.length : Int) x38_2 l1 (l1.length : Int) (wrap64 (x44_3 + 1)) ((rd_T36 l0 x38_2).f0) ((rd_T36 l0 x38_2).f1) ((rd_T36 l0 x38_2).f2)) else (scholiastref20_Carry.l2 k3 l1 x9_2 x12_3 false l0 (l0.length : Int) x38_2 l1 (l1.length : Int) (wrap64 (x44_3 + 1)) ((rd_T36 l0 x38_2).f0) ((rd_T36 l0 x38_2).f1) ((rd_T36 l0 x38_2).f2)))) = some (r1, r2) := by rw [if_neg (show ¬ (false = true) by decide)] at H; exact H
                              clear H
                              have H := H1
                              clear H1
                              by_cases c32 : ((rd_T43 l1 x44_3).f0) < ((rd_T36 l0 x38_2).f2)
                              · rw [if_pos c32] at H
                                have c32b0 : decide (((rd_T43 l1 x44_3).f0) < ((rd_T36 l0 x38_2).f2)) = true := decide_eq_true c32
                                clear c32
                                by_cases c33 : ((rd_T43 l1 x44_3).f1) ≤ ((rd_T36 l0 x38_2).f1)
                                · rw [if_pos c33] at H
                                  have c33b0 : decide (((rd_T43 l1 x44_3).f1) ≤ ((rd_T36 l0 x38_2).f1)) = true := decide_eq_true c33
                                  clear c33
                                  have H' := Aside0.mk H
                                  clear H
                                  have p312 : 0 ≤ (x44_3 : Int) := of_decide_eq_true (by first | (with_reducible assumption) | assumption)
                                  have q312 : x44_3 < (l1.length : Int) := of_decide_eq_true (by first | (with_reducible assumption) | assumption)
                                  obtain ⟨ad312, e312, hx312_0, hx312_1, hx312_2⟩ := at_T43 HR1.out x44_3 p312 q312
                                  cases e312
                                  replace hx312_0 := (HB.out.cell (World.block_lt_of_cell? w _ hx312_0)).trans hx312_0
                                  replace hx312_1 := (HB.out.cell (World.block_lt_of_cell? w _ hx312_1)).trans hx312_1
                                  replace hx312_2 := (HB.out.cell (World.block_lt_of_cell? w _ hx312_2)).trans hx312_2
                                  replace p312 := eq_true p312
                                  replace q312 := eq_true q312
                                  go_wp2_with (first | ((with_reducible refine gate_dst (N := 15) rfl ?_); refine box_event ?hg (N := 15) ?hd (cs := #[.int .i64 0, .int .i64 0, .string (⟨#[]⟩ : ByteArray)]) (t := 43) ?hr ?_; (case hd => rfl); (case hg => rfl); (case hr => first | (go_simp; done) | (go_simp; rfl)); intro gb313 hg w34 hbox hb; have n0_ := Aside0.mk (Kd.R_below (by (with_reducible repeat (first | apply Kd.R_alloc | apply Kd.R_drewN | apply Kd.R_drew)); exact HO_9.out) hb); have n1_ := Aside0.mk (blk_below (g := gb311) (o := .cells #[.int .i64 ((rd_T36 l0 x38_2).f0), .int .i64 ((rd_T36 l0 x38_2).f1), .int .i64 ((rd_T36 l0 x38_2).f2)] 36 (0, 0)) (by (with_reducible repeat (first | refine blk_drewN ?_ _ | refine blk_drew ?_ | refine blk_alloc ?_ _)); exact BK311.out) hb); have n2_ := Aside0.mk (below_step (by repeat (first | (with_reducible first | exact HB.out | apply below_alloc | apply pw_below_drewN | apply below_drew1 | refine below_set ?_ GE311.out) | exact HB.out)) hb); have n3_ := Aside0.mk (hbox); have n4_ := Aside0.mk ((by rw [hg]; exact (below_size (by repeat (first | (with_reducible first | exact HB.out | apply below_alloc | apply pw_below_drewN | apply below_drew1 | refine below_set ?_ GE311.out) | exact HB.out))) : w.heap.size ≤ gb313)); have n5_ := Aside0.mk ((by rw [hg]; exact (below_size (by repeat (first | (with_reducible first | exact HB.out | apply below_alloc | apply pw_below_drewN | apply below_drew1 | refine below_set ?_ GE311.out) | exact HB.out))) : w.heap.size ≤ gb313)); have n6_ := Aside0.mk ((by rw [hg]; exact Nat.ne_of_lt (blk_lt (g := gb311) (o := .cells #[.int .i64 ((rd_T36 l0 x38_2).f0), .int .i64 ((rd_T36 l0 x38_2).f1), .int .i64 ((rd_T36 l0 x38_2).f2)] 36 (0, 0)) (by (with_reducible repeat (first | refine blk_drewN ?_ _ | refine blk_drew ?_ | refine blk_alloc ?_ _)); exact BK311.out)) : gb311 ≠ gb313)); have n7_ := Aside0.mk ((by rw [hg]; exact Nat.ne_of_gt (blk_lt (g := gb311) (o := .cells #[.int .i64 ((rd_T36 l0 x38_2).f0), .int .i64 ((rd_T36 l0 x38_2).f1), .int .i64 ((rd_T36 l0 x38_2).f2)] 36 (0, 0)) (by (with_reducible repeat (first | refine blk_drewN ?_ _ | refine blk_drew ?_ | refine blk_alloc ?_ _)); exact BK311.out)) : gb313 ≠ gb311)); clear HO_9; clear BK311; clear HB; have HO_9 := n0_; have BK311 := n1_; have HB := n2_; have BK313 := n3_; have GW313 := n4_; have GE313 := n5_; have NB311_313 := n6_; have NB313_311 := n7_; clear n0_ n1_ n2_ n3_ n4_ n5_ n6_ n7_; clear hb hbox hg; have hnb35 := NB313_311.out; have hnc35 := NB311_313.out; have hcz36_0 : w34.cell? ⟨gb313, 0, none⟩ = some (.int .i64 0) := (blk_cell BK313.out 0).trans rfl; have hcz36_1 : w34.cell? ⟨gb313, 1, none⟩ = some (.int .i64 0) := (blk_cell BK313.out 1).trans rfl; have hcz36_2 : w34.cell? ⟨gb313, 2, none⟩ = some (.string (⟨#[]⟩ : ByteArray)) := (blk_cell BK313.out 2).trans rfl; have hfz36_0 := blk_frozen BK313.out 0; have hfz36_1 := blk_frozen BK313.out 1; have hfz36_2 := blk_frozen BK313.out 2; have hcz37_0 : w34.cell? ⟨gb311, 0, none⟩ = some (.int .i64 ((rd_T36 l0 x38_2).f0)) := (blk_cell BK311.out 0).trans rfl; have hcz37_1 : w34.cell? ⟨gb311, 1, none⟩ = some (.int .i64 ((rd_T36 l0 x38_2).f1)) := (blk_cell BK311.out 1).trans rfl; have hcz37_2 : w34.cell? ⟨gb311, 2, none⟩ = some (.int .i64 ((rd_T36 l0 x38_2).f2)) := (blk_cell BK311.out 2).trans rfl; have hfz37_0 := blk_frozen BK311.out 0; have hfz37_1 := blk_frozen BK311.out 1; have hfz37_2 := blk_frozen BK311.out 2))
                                  go_roundg k3
                                  case measure => have := HK1.out; have := HK2.out; have := HK3.out; omega
                                  case rel => exact ⟨(wrap64 (x12_3 + (wrap64 ((((rd_T43 l1 x44_3).f2).size : Int) - (wrap64 (((rd_T43 l1 x44_3).f1) - ((rd_T43 l1 x44_3).f0))))))), (decide (((rd_T43 l1 x44_3).f1) > ((rd_T36 l0 x38_2).f1))), (wrap64 (x44_3 + 1)), (by first | rfl | (simp; done) | (simp [*]; done)), (by first | rfl | (simp; done) | (simp [*]; done)), (by first | rfl | (simp; done) | (simp [*]; done)), H', ⟨by have := HK1.out; have := HK2.out; have := HK3.out; omega⟩, ⟨by (with_reducible repeat (first | apply Kd.R_alloc | apply Kd.R_drewN | apply Kd.R_drew)); exact Kd.R_mono (Kd.R_far (p := ⟨gb313, 2, none⟩) (Kd.R_far (p := ⟨gb313, 1, none⟩) (Kd.R_far (p := ⟨gb313, 0, none⟩) (Kd.R_types HO_9.out BK313.out (by decide)) (fun _ hk => hk.2) (.int .i64 ((rd_T43 l1 x44_3).f0))) (fun _ hk => hk.2) (.int .i64 ((rd_T43 l1 x44_3).f1))) (fun _ hk => hk.2) (.string ((rd_T43 l1 x44_3).f2))) (fun _ hk => hk.1)⟩, ⟨by (with_reducible repeat (first | refine blk_drewN ?_ _ | refine blk_drew ?_ | refine blk_alloc ?_ _)); refine blk_far ?_ NB311_313.out _; (with_reducible repeat (first | refine blk_drewN ?_ _ | refine blk_drew ?_ | refine blk_alloc ?_ _)); refine blk_far ?_ NB311_313.out _; (with_reducible repeat (first | refine blk_drewN ?_ _ | refine blk_drew ?_ | refine blk_alloc ?_ _)); refine blk_far ?_ NB311_313.out _; (with_reducible repeat (first | refine blk_drewN ?_ _ | refine blk_drew ?_ | refine blk_alloc ?_ _)); exact BK311.out⟩, ⟨by repeat (first | (with_reducible first | exact HB.out | apply below_alloc | apply pw_below_drewN | apply below_drew1 | refine below_set ?_ GE311.out | refine below_set ?_ GE313.out) | exact HB.out)⟩⟩
                                · rw [if_neg c33] at H
                                  have c33b0 : decide (((rd_T43 l1 x44_3).f1) ≤ ((rd_T36 l0 x38_2).f1)) = false := decide_eq_false c33
                                  clear c33
                                  have H' := Aside0.mk H
                                  clear H
                                  have p312 : 0 ≤ (x44_3 : Int) := of_decide_eq_true (by first | (with_reducible assumption) | assumption)
                                  have q312 : x44_3 < (l1.length : Int) := of_decide_eq_true (by first | (with_reducible assumption) | assumption)
                                  obtain ⟨ad312, e312, hx312_0, hx312_1, hx312_2⟩ := at_T43 HR1.out x44_3 p312 q312
                                  cases e312
                                  replace hx312_0 := (HB.out.cell (World.block_lt_of_cell? w _ hx312_0)).trans hx312_0
                                  replace hx312_1 := (HB.out.cell (World.block_lt_of_cell? w _ hx312_1)).trans hx312_1
                                  replace hx312_2 := (HB.out.cell (World.block_lt_of_cell? w _ hx312_2)).trans hx312_2
                                  replace p312 := eq_true p312
                                  replace q312 := eq_true q312
                                  go_wp2_with (first | ((with_reducible refine gate_dst (N := 15) rfl ?_); refine box_event ?hg (N := 15) ?hd (cs := #[.int .i64 0, .int .i64 0, .string (⟨#[]⟩ : ByteArray)]) (t := 43) ?hr ?_; (case hd => rfl); (case hg => rfl); (case hr => first | (go_simp; done) | (go_simp; rfl)); intro gb313 hg w38 hbox hb; have n0_ := Aside0.mk (Kd.R_below (by (with_reducible repeat (first | apply Kd.R_alloc | apply Kd.R_drewN | apply Kd.R_drew)); exact HO_9.out) hb); have n1_ := Aside0.mk (blk_below (g := gb311) (o := .cells #[.int .i64 ((rd_T36 l0 x38_2).f0), .int .i64 ((rd_T36 l0 x38_2).f1), .int .i64 ((rd_T36 l0 x38_2).f2)] 36 (0, 0)) (by (with_reducible repeat (first | refine blk_drewN ?_ _ | refine blk_drew ?_ | refine blk_alloc ?_ _)); exact BK311.out) hb); have n2_ := Aside0.mk (below_step (by repeat (first | (with_reducible first | exact HB.out | apply below_alloc | apply pw_below_drewN | apply below_drew1 | refine below_set ?_ GE311.out) | exact HB.out)) hb); have n3_ := Aside0.mk (hbox); have n4_ := Aside0.mk ((by rw [hg]; exact (below_size (by repeat (first | (with_reducible first | exact HB.out | apply below_alloc | apply pw_below_drewN | apply below_drew1 | refine below_set ?_ GE311.out) | exact HB.out))) : w.heap.size ≤ gb313)); have n5_ := Aside0.mk ((by rw [hg]; exact (below_size (by repeat (first | (with_reducible first | exact HB.out | apply below_alloc | apply pw_below_drewN | apply below_drew1 | refine below_set ?_ GE311.out) | exact HB.out))) : w.heap.size ≤ gb313)); have n6_ := Aside0.mk ((by rw [hg]; exact Nat.ne_of_lt (blk_lt (g := gb311) (o := .cells #[.int .i64 ((rd_T36 l0 x38_2).f0), .int .i64 ((rd_T36 l0 x38_2).f1), .int .i64 ((rd_T36 l0 x38_2).f2)] 36 (0, 0)) (by (with_reducible repeat (first | refine blk_drewN ?_ _ | refine blk_drew ?_ | refine blk_alloc ?_ _)); exact BK311.out)) : gb311 ≠ gb313)); have n7_ := Aside0.mk ((by rw [hg]; exact Nat.ne_of_gt (blk_lt (g := gb311) (o := .cells #[.int .i64 ((rd_T36 l0 x38_2).f0), .int .i64 ((rd_T36 l0 x38_2).f1), .int .i64 ((rd_T36 l0 x38_2).f2)] 36 (0, 0)) (by (with_reducible repeat (first | refine blk_drewN ?_ _ | refine blk_drew ?_ | refine blk_alloc ?_ _)); exact BK311.out)) : gb313 ≠ gb311)); clear HO_9; clear BK311; clear HB; have HO_9 := n0_; have BK311 := n1_; have HB := n2_; have BK313 := n3_; have GW313 := n4_; have GE313 := n5_; have NB311_313 := n6_; have NB313_311 := n7_; clear n0_ n1_ n2_ n3_ n4_ n5_ n6_ n7_; clear hb hbox hg; have hnb39 := NB313_311.out; have hnc39 := NB311_313.out; have hcz40_0 : w38.cell? ⟨gb313, 0, none⟩ = some (.int .i64 0) := (blk_cell BK313.out 0).trans rfl; have hcz40_1 : w38.cell? ⟨gb313, 1, none⟩ = some (.int .i64 0) := (blk_cell BK313.out 1).trans rfl; have hcz40_2 : w38.cell? ⟨gb313, 2, none⟩ = some (.string (⟨#[]⟩ : ByteArray)) := (blk_cell BK313.out 2).trans rfl; have hfz40_0 := blk_frozen BK313.out 0; have hfz40_1 := blk_frozen BK313.out 1; have hfz40_2 := blk_frozen BK313.out 2; have hcz41_0 : w38.cell? ⟨gb311, 0, none⟩ = some (.int .i64 ((rd_T36 l0 x38_2).f0)) := (blk_cell BK311.out 0).trans rfl; have hcz41_1 : w38.cell? ⟨gb311, 1, none⟩ = some (.int .i64 ((rd_T36 l0 x38_2).f1)) := (blk_cell BK311.out 1).trans rfl; have hcz41_2 : w38.cell? ⟨gb311, 2, none⟩ = some (.int .i64 ((rd_T36 l0 x38_2).f2)) := (blk_cell BK311.out 2).trans rfl; have hfz41_0 := blk_frozen BK311.out 0; have hfz41_1 := blk_frozen BK311.out 1; have hfz41_2 := blk_frozen BK311.out 2))
                                  go_roundg k3
                                  case measure => have := HK1.out; have := HK2.out; have := HK3.out; omega
                                  case rel => exact ⟨(x12_3), (decide (((rd_T43 l1 x44_3).f1) > ((rd_T36 l0 x38_2).f1))), (wrap64 (x44_3 + 1)), (by first | rfl | (simp; done) | (simp [*]; done)), (by first | rfl | (simp; done) | (simp [*]; done)), (by first | rfl | (simp; done) | (simp [*]; done)), H', ⟨by have := HK1.out; have := HK2.out; have := HK3.out; omega⟩, ⟨by (with_reducible repeat (first | apply Kd.R_alloc | apply Kd.R_drewN | apply Kd.R_drew)); exact Kd.R_mono (Kd.R_far (p := ⟨gb313, 2, none⟩) (Kd.R_far (p := ⟨gb313, 1, none⟩) (Kd.R_far (p := ⟨gb313, 0, none⟩) (Kd.R_types HO_9.out BK313.out (by decide)) (fun _ hk => hk.2) (.int .i64 ((rd_T43 l1 x44_3).f0))) (fun _ hk => hk.2) (.int .i64 ((rd_T43 l1 x44_3).f1))) (fun _ hk => hk.2) (.string ((rd_T43 l1 x44_3).f2))) (fun _ hk => hk.1)⟩, ⟨by (with_reducible repeat (first | refine blk_drewN ?_ _ | refine blk_drew ?_ | refine blk_alloc ?_ _)); refine blk_far ?_ NB311_313.out _; (with_reducible repeat (first | refine blk_drewN ?_ _ | refine blk_drew ?_ | refine blk_alloc ?_ _)); refine blk_far ?_ NB311_313.out _; (with_reducible repeat (first | refine blk_drewN ?_ _ | refine blk_drew ?_ | refine blk_alloc ?_ _)); refine blk_far ?_ NB311_313.out _; (with_reducible repeat (first | refine blk_drewN ?_ _ | refine blk_drew ?_ | refine blk_alloc ?_ _)); exact BK311.out⟩, ⟨by repeat (first | (with_reducible first | exact HB.out | apply below_alloc | apply pw_below_drewN | apply below_drew1 | refine below_set ?_ GE311.out | refine below_set ?_ GE313.out) | exact HB.out)⟩⟩
                              · rw [if_neg c32] at H
                                have c32b0 : decide (((rd_T43 l1 x44_3).f0) < ((rd_T36 l0 x38_2).f2)) = false := decide_eq_false c32
                                clear c32
                                by_cases c42 : ((rd_T43 l1 x44_3).f1) ≤ ((rd_T36 l0 x38_2).f1)
                                · rw [if_pos c42] at H
                                  have c42b0 : decide (((rd_T43 l1 x44_3).f1) ≤ ((rd_T36 l0 x38_2).f1)) = true := decide_eq_true c42
                                  clear c42
                                  have H' := Aside0.mk H
                                  clear H
                                  have p312 : 0 ≤ (x44_3 : Int) := of_decide_eq_true (by first | (with_reducible assumption) | assumption)
                                  have q312 : x44_3 < (l1.length : Int) := of_decide_eq_true (by first | (with_reducible assumption) | assumption)
                                  obtain ⟨ad312, e312, hx312_0, hx312_1, hx312_2⟩ := at_T43 HR1.out x44_3 p312 q312
                                  cases e312
                                  replace hx312_0 := (HB.out.cell (World.block_lt_of_cell? w _ hx312_0)).trans hx312_0
                                  replace hx312_1 := (HB.out.cell (World.block_lt_of_cell? w _ hx312_1)).trans hx312_1
                                  replace hx312_2 := (HB.out.cell (World.block_lt_of_cell? w _ hx312_2)).trans hx312_2
                                  replace p312 := eq_true p312
                                  replace q312 := eq_true q312
                                  go_wp2_with (first | ((with_reducible refine gate_dst (N := 15) rfl ?_); refine box_event ?hg (N := 15) ?hd (cs := #[.int .i64 0, .int .i64 0, .string (⟨#[]⟩ : ByteArray)]) (t := 43) ?hr ?_; (case hd => rfl); (case hg => rfl); (case hr => first | (go_simp; done) | (go_simp; rfl)); intro gb313 hg w43 hbox hb; have n0_ := Aside0.mk (Kd.R_below (by (with_reducible repeat (first | apply Kd.R_alloc | apply Kd.R_drewN | apply Kd.R_drew)); exact HO_9.out) hb); have n1_ := Aside0.mk (blk_below (g := gb311) (o := .cells #[.int .i64 ((rd_T36 l0 x38_2).f0), .int .i64 ((rd_T36 l0 x38_2).f1), .int .i64 ((rd_T36 l0 x38_2).f2)] 36 (0, 0)) (by (with_reducible repeat (first | refine blk_drewN ?_ _ | refine blk_drew ?_ | refine blk_alloc ?_ _)); exact BK311.out) hb); have n2_ := Aside0.mk (below_step (by repeat (first | (with_reducible first | exact HB.out | apply below_alloc | apply pw_below_drewN | apply below_drew1 | refine below_set ?_ GE311.out) | exact HB.out)) hb); have n3_ := Aside0.mk (hbox); have n4_ := Aside0.mk ((by rw [hg]; exact (below_size (by repeat (first | (with_reducible first | exact HB.out | apply below_alloc | apply pw_below_drewN | apply below_drew1 | refine below_set ?_ GE311.out) | exact HB.out))) : w.heap.size ≤ gb313)); have n5_ := Aside0.mk ((by rw [hg]; exact (below_size (by repeat (first | (with_reducible first | exact HB.out | apply below_alloc | apply pw_below_drewN | apply below_drew1 | refine below_set ?_ GE311.out) | exact HB.out))) : w.heap.size ≤ gb313)); have n6_ := Aside0.mk ((by rw [hg]; exact Nat.ne_of_lt (blk_lt (g := gb311) (o := .cells #[.int .i64 ((rd_T36 l0 x38_2).f0), .int .i64 ((rd_T36 l0 x38_2).f1), .int .i64 ((rd_T36 l0 x38_2).f2)] 36 (0, 0)) (by (with_reducible repeat (first | refine blk_drewN ?_ _ | refine blk_drew ?_ | refine blk_alloc ?_ _)); exact BK311.out)) : gb311 ≠ gb313)); have n7_ := Aside0.mk ((by rw [hg]; exact Nat.ne_of_gt (blk_lt (g := gb311) (o := .cells #[.int .i64 ((rd_T36 l0 x38_2).f0), .int .i64 ((rd_T36 l0 x38_2).f1), .int .i64 ((rd_T36 l0 x38_2).f2)] 36 (0, 0)) (by (with_reducible repeat (first | refine blk_drewN ?_ _ | refine blk_drew ?_ | refine blk_alloc ?_ _)); exact BK311.out)) : gb313 ≠ gb311)); clear HO_9; clear BK311; clear HB; have HO_9 := n0_; have BK311 := n1_; have HB := n2_; have BK313 := n3_; have GW313 := n4_; have GE313 := n5_; have NB311_313 := n6_; have NB313_311 := n7_; clear n0_ n1_ n2_ n3_ n4_ n5_ n6_ n7_; clear hb hbox hg; have hnb44 := NB313_311.out; have hnc44 := NB311_313.out; have hcz45_0 : w43.cell? ⟨gb313, 0, none⟩ = some (.int .i64 0) := (blk_cell BK313.out 0).trans rfl; have hcz45_1 : w43.cell? ⟨gb313, 1, none⟩ = some (.int .i64 0) := (blk_cell BK313.out 1).trans rfl; have hcz45_2 : w43.cell? ⟨gb313, 2, none⟩ = some (.string (⟨#[]⟩ : ByteArray)) := (blk_cell BK313.out 2).trans rfl; have hfz45_0 := blk_frozen BK313.out 0; have hfz45_1 := blk_frozen BK313.out 1; have hfz45_2 := blk_frozen BK313.out 2; have hcz46_0 : w43.cell? ⟨gb311, 0, none⟩ = some (.int .i64 ((rd_T36 l0 x38_2).f0)) := (blk_cell BK311.out 0).trans rfl; have hcz46_1 : w43.cell? ⟨gb311, 1, none⟩ = some (.int .i64 ((rd_T36 l0 x38_2).f1)) := (blk_cell BK311.out 1).trans rfl; have hcz46_2 : w43.cell? ⟨gb311, 2, none⟩ = some (.int .i64 ((rd_T36 l0 x38_2).f2)) := (blk_cell BK311.out 2).trans rfl; have hfz46_0 := blk_frozen BK311.out 0; have hfz46_1 := blk_frozen BK311.out 1; have hfz46_2 := blk_frozen BK311.out 2))
                                  go_roundg k3
                                  case measure => have := HK1.out; have := HK2.out; have := HK3.out; omega
                                  case rel => exact ⟨(wrap64 (x12_3 + (wrap64 ((((rd_T43 l1 x44_3).f2).size : Int) - (wrap64 (((rd_T43 l1 x44_3).f1) - ((rd_T43 l1 x44_3).f0))))))), (false), (wrap64 (x44_3 + 1)), (by first | rfl | (simp; done) | (simp [*]; done)), (by first | rfl | (simp; done) | (simp [*]; done)), (by first | rfl | (simp; done) | (simp [*]; done)), H', ⟨by have := HK1.out; have := HK2.out; have := HK3.out; omega⟩, ⟨by (with_reducible repeat (first | apply Kd.R_alloc | apply Kd.R_drewN | apply Kd.R_drew)); exact Kd.R_mono (Kd.R_far (p := ⟨gb313, 2, none⟩) (Kd.R_far (p := ⟨gb313, 1, none⟩) (Kd.R_far (p := ⟨gb313, 0, none⟩) (Kd.R_types HO_9.out BK313.out (by decide)) (fun _ hk => hk.2) (.int .i64 ((rd_T43 l1 x44_3).f0))) (fun _ hk => hk.2) (.int .i64 ((rd_T43 l1 x44_3).f1))) (fun _ hk => hk.2) (.string ((rd_T43 l1 x44_3).f2))) (fun _ hk => hk.1)⟩, ⟨by (with_reducible repeat (first | refine blk_drewN ?_ _ | refine blk_drew ?_ | refine blk_alloc ?_ _)); refine blk_far ?_ NB311_313.out _; (with_reducible repeat (first | refine blk_drewN ?_ _ | refine blk_drew ?_ | refine blk_alloc ?_ _)); refine blk_far ?_ NB311_313.out _; (with_reducible repeat (first | refine blk_drewN ?_ _ | refine blk_drew ?_ | refine blk_alloc ?_ _)); refine blk_far ?_ NB311_313.out _; (with_reducible repeat (first | refine blk_drewN ?_ _ | refine blk_drew ?_ | refine blk_alloc ?_ _)); exact BK311.out⟩, ⟨by repeat (first | (with_reducible first | exact HB.out | apply below_alloc | apply pw_below_drewN | apply below_drew1 | refine below_set ?_ GE311.out | refine below_set ?_ GE313.out) | exact HB.out)⟩⟩
                                · rw [if_neg c42] at H
                                  have c42b0 : decide (((rd_T43 l1 x44_3).f1) ≤ ((rd_T36 l0 x38_2).f1)) = false := decide_eq_false c42
                                  clear c42
                                  have H' := Aside0.mk H
                                  clear H
                                  have p312 : 0 ≤ (x44_3 : Int) := of_decide_eq_true (by first | (with_reducible assumption) | assumption)
                                  have q312 : x44_3 < (l1.length : Int) := of_decide_eq_true (by first | (with_reducible assumption) | assumption)
                                  obtain ⟨ad312, e312, hx312_0, hx312_1, hx312_2⟩ := at_T43 HR1.out x44_3 p312 q312
                                  cases e312
                                  replace hx312_0 := (HB.out.cell (World.block_lt_of_cell? w _ hx312_0)).trans hx312_0
                                  replace hx312_1 := (HB.out.cell (World.block_lt_of_cell? w _ hx312_1)).trans hx312_1
                                  replace hx312_2 := (HB.out.cell (World.block_lt_of_cell? w _ hx312_2)).trans hx312_2
                                  replace p312 := eq_true p312
                                  replace q312 := eq_true q312
                                  go_wp2_with (first | ((with_reducible refine gate_dst (N := 15) rfl ?_); refine box_event ?hg (N := 15) ?hd (cs := #[.int .i64 0, .int .i64 0, .string (⟨#[]⟩ : ByteArray)]) (t := 43) ?hr ?_; (case hd => rfl); (case hg => rfl); (case hr => first | (go_simp; done) | (go_simp; rfl)); intro gb313 hg w47 hbox hb; have n0_ := Aside0.mk (Kd.R_below (by (with_reducible repeat (first | apply Kd.R_alloc | apply Kd.R_drewN | apply Kd.R_drew)); exact HO_9.out) hb); have n1_ := Aside0.mk (blk_below (g := gb311) (o := .cells #[.int .i64 ((rd_T36 l0 x38_2).f0), .int .i64 ((rd_T36 l0 x38_2).f1), .int .i64 ((rd_T36 l0 x38_2).f2)] 36 (0, 0)) (by (with_reducible repeat (first | refine blk_drewN ?_ _ | refine blk_drew ?_ | refine blk_alloc ?_ _)); exact BK311.out) hb); have n2_ := Aside0.mk (below_step (by repeat (first | (with_reducible first | exact HB.out | apply below_alloc | apply pw_below_drewN | apply below_drew1 | refine below_set ?_ GE311.out) | exact HB.out)) hb); have n3_ := Aside0.mk (hbox); have n4_ := Aside0.mk ((by rw [hg]; exact (below_size (by repeat (first | (with_reducible first | exact HB.out | apply below_alloc | apply pw_below_drewN | apply below_drew1 | refine below_set ?_ GE311.out) | exact HB.out))) : w.heap.size ≤ gb313)); have n5_ := Aside0.mk ((by rw [hg]; exact (below_size (by repeat (first | (with_reducible first | exact HB.out | apply below_alloc | apply pw_below_drewN | apply below_drew1 | refine below_set ?_ GE311.out) | exact HB.out))) : w.heap.size ≤ gb313)); have n6_ := Aside0.mk ((by rw [hg]; exact Nat.ne_of_lt (blk_lt (g := gb311) (o := .cells #[.int .i64 ((rd_T36 l0 x38_2).f0), .int .i64 ((rd_T36 l0 x38_2).f1), .int .i64 ((rd_T36 l0 x38_2).f2)] 36 (0, 0)) (by (with_reducible repeat (first | refine blk_drewN ?_ _ | refine blk_drew ?_ | refine blk_alloc ?_ _)); exact BK311.out)) : gb311 ≠ gb313)); have n7_ := Aside0.mk ((by rw [hg]; exact Nat.ne_of_gt (blk_lt (g := gb311) (o := .cells #[.int .i64 ((rd_T36 l0 x38_2).f0), .int .i64 ((rd_T36 l0 x38_2).f1), .int .i64 ((rd_T36 l0 x38_2).f2)] 36 (0, 0)) (by (with_reducible repeat (first | refine blk_drewN ?_ _ | refine blk_drew ?_ | refine blk_alloc ?_ _)); exact BK311.out)) : gb313 ≠ gb311)); clear HO_9; clear BK311; clear HB; have HO_9 := n0_; have BK311 := n1_; have HB := n2_; have BK313 := n3_; have GW313 := n4_; have GE313 := n5_; have NB311_313 := n6_; have NB313_311 := n7_; clear n0_ n1_ n2_ n3_ n4_ n5_ n6_ n7_; clear hb hbox hg; have hnb48 := NB313_311.out; have hnc48 := NB311_313.out; have hcz49_0 : w47.cell? ⟨gb313, 0, none⟩ = some (.int .i64 0) := (blk_cell BK313.out 0).trans rfl; have hcz49_1 : w47.cell? ⟨gb313, 1, none⟩ = some (.int .i64 0) := (blk_cell BK313.out 1).trans rfl; have hcz49_2 : w47.cell? ⟨gb313, 2, none⟩ = some (.string (⟨#[]⟩ : ByteArray)) := (blk_cell BK313.out 2).trans rfl; have hfz49_0 := blk_frozen BK313.out 0; have hfz49_1 := blk_frozen BK313.out 1; have hfz49_2 := blk_frozen BK313.out 2; have hcz50_0 : w47.cell? ⟨gb311, 0, none⟩ = some (.int .i64 ((rd_T36 l0 x38_2).f0)) := (blk_cell BK311.out 0).trans rfl; have hcz50_1 : w47.cell? ⟨gb311, 1, none⟩ = some (.int .i64 ((rd_T36 l0 x38_2).f1)) := (blk_cell BK311.out 1).trans rfl; have hcz50_2 : w47.cell? ⟨gb311, 2, none⟩ = some (.int .i64 ((rd_T36 l0 x38_2).f2)) := (blk_cell BK311.out 2).trans rfl; have hfz50_0 := blk_frozen BK311.out 0; have hfz50_1 := blk_frozen BK311.out 1; have hfz50_2 := blk_frozen BK311.out 2))
                                  go_roundg k3
                                  case measure => have := HK1.out; have := HK2.out; have := HK3.out; omega
                                  case rel => exact ⟨(x12_3), (false), (wrap64 (x44_3 + 1)), (by first | rfl | (simp; done) | (simp [*]; done)), (by first | rfl | (simp; done) | (simp [*]; done)), (by first | rfl | (simp; done) | (simp [*]; done)), H', ⟨by have := HK1.out; have := HK2.out; have := HK3.out; omega⟩, ⟨by (with_reducible repeat (first | apply Kd.R_alloc | apply Kd.R_drewN | apply Kd.R_drew)); exact Kd.R_mono (Kd.R_far (p := ⟨gb313, 2, none⟩) (Kd.R_far (p := ⟨gb313, 1, none⟩) (Kd.R_far (p := ⟨gb313, 0, none⟩) (Kd.R_types HO_9.out BK313.out (by decide)) (fun _ hk => hk.2) (.int .i64 ((rd_T43 l1 x44_3).f0))) (fun _ hk => hk.2) (.int .i64 ((rd_T43 l1 x44_3).f1))) (fun _ hk => hk.2) (.string ((rd_T43 l1 x44_3).f2))) (fun _ hk => hk.1)⟩, ⟨by (with_reducible repeat (first | refine blk_drewN ?_ _ | refine blk_drew ?_ | refine blk_alloc ?_ _)); refine blk_far ?_ NB311_313.out _; (with_reducible repeat (first | refine blk_drewN ?_ _ | refine blk_drew ?_ | refine blk_alloc ?_ _)); refine blk_far ?_ NB311_313.out _; (with_reducible repeat (first | refine blk_drewN ?_ _ | refine blk_drew ?_ | refine blk_alloc ?_ _)); refine blk_far ?_ NB311_313.out _; (with_reducible repeat (first | refine blk_drewN ?_ _ | refine blk_drew ?_ | refine blk_alloc ?_ _)); exact BK311.out⟩, ⟨by repeat (first | (with_reducible first | exact HB.out | apply below_alloc | apply pw_below_drewN | apply below_drew1 | refine below_set ?_ GE311.out | refine below_set ?_ GE313.out) | exact HB.out)⟩⟩
                          · rw [if_neg c21] at H
                            exact absurd H (by simp)
                        · rw [if_neg c20] at H
                          exact absurd H (by simp)
                      · rw [if_neg c19] at H
                        have c19b0 : decide (x44_3 < (l1.length : Int)) = false := decide_eq_false c19
                        clear c19
                        by_cases c51 : x13_3 = true
                        · subst c51
                          have H1 : (scholiastref20_Carry.l1 k3 l1 x9_2 l0 (l0.length : Int) (wrap64 (x38_2 + 1))) = some (r1, r2) := by rw [if_pos rfl] at H; exact H
                          clear H
                          have H := H1
                          clear H1
                          have H' := Aside0.mk H
                          clear H
                          go_wp2
                          go_roundg k3
                          case measure => have := HK1.out; have := HK2.out; have := HK3.out; omega
                          case rel => exact ⟨(x9_2), (wrap64 (x38_2 + 1)), (by first | rfl | (simp; done) | (simp [*]; done)), H', ⟨by have := HK1.out; have := HK2.out; have := HK3.out; omega⟩, ⟨by (with_reducible repeat (first | apply Kd.R_alloc | apply Kd.R_drewN | apply Kd.R_drew)); exact Kd.R_mono HO_9.out (fun _ hk => trivial)⟩, ⟨by repeat (first | (with_reducible first | exact HB.out | apply below_alloc | apply pw_below_drewN | apply below_drew1 | refine below_set ?_ GE311.out) | exact HB.out)⟩⟩
                        · replace c51 := Bool.eq_false_iff.mpr c51
                          subst c51
                          have H1 : (if x9_2.length < 5864062014805 then (scholiastref20_Carry.l1 k3 l1 (x9_2 ++ [(⟨((rd_T36 l0 x38_2).f0), wrap64 (((rd_T36 l0 x38_2).f1) + x12_3), wrap64 (((rd_T36 l0 x38_2).f2) + x12_3)⟩ : S36)]) l0 (l0.length : Int) (wrap64 (x38_2 + 1))) else (none)) = some (r1, r2) := by rw [if_neg (show ¬ (false = true) by decide)] at H; exact H
                          clear H
                          have H := H1
                          clear H1
                          by_cases c52 : x9_2.length < 5864062014805
                          · rw [if_pos c52] at H
                            have LMc52 := Aside0.mk c52
                            clear c52
                            obtain ⟨y314, hy314⟩ : ∃ y_ : List (S36), y_ = (x9_2 ++ [(⟨((rd_T36 l0 x38_2).f0), wrap64 (((rd_T36 l0 x38_2).f1) + x12_3), wrap64 (((rd_T36 l0 x38_2).f2) + x12_3)⟩ : S36)]) := ⟨_, rfl⟩
                            replace H : (scholiastref20_Carry.l1 k3 l1 y314 l0 (l0.length : Int) (wrap64 (x38_2 + 1))) = some (r1, r2) := by first | (rw [hy314]; with_reducible exact H) | (have H2_ := (Option.bind_some _ _).symm.trans H; rw [hy314]; with_reducible exact H2_) | (have H2_ := (Option.bind_some _ _).symm.trans H; with_reducible exact H2_) | with_reducible exact H | (rw [hy314]; exact H) | exact H
                            have Ny314 := Aside0.mk hy314
                            clear hy314
                            have H' := Aside0.mk H
                            clear H
                            have hcz53_0 : wr.cell? ⟨gb311, 0, none⟩ = some (.int .i64 ((rd_T36 l0 x38_2).f0)) := (blk_cell BK311.out 0).trans rfl
                            have hcz53_1 : wr.cell? ⟨gb311, 1, none⟩ = some (.int .i64 ((rd_T36 l0 x38_2).f1)) := (blk_cell BK311.out 1).trans rfl
                            have hcz53_2 : wr.cell? ⟨gb311, 2, none⟩ = some (.int .i64 ((rd_T36 l0 x38_2).f2)) := (blk_cell BK311.out 2).trans rfl
                            have hfz53_0 := blk_frozen BK311.out 0
                            have hfz53_1 := blk_frozen BK311.out 1
                            have hfz53_2 := blk_frozen BK311.out 2
                            go_wp2_with (first | ((with_reducible refine gate_builtin (b := .append) (xs := #[.tmp 82, .tmp 94]) rfl ?_); at_builtin; refine Kd.R_append k36 (w0 := w) w.heap.size rfl (.tmp 82) (.tmp 94) 23 36 (.agg #[(.int .i64 0), (.int .i64 0), (.int .i64 0)]) 24 rfl Tryd.underlying23 info36 rfl (by decide) (by omega) u9 x9_2 (⟨((rd_T36 l0 x38_2).f0), wrap64 (((rd_T36 l0 x38_2).f1) + x12_3), wrap64 (((rd_T36 l0 x38_2).f2) + x12_3)⟩ : S36) [.int .i64 ((rd_T36 l0 x38_2).f0), .int .i64 (wrap64 (((rd_T36 l0 x38_2).f1) + x12_3)), .int .i64 (wrap64 (((rd_T36 l0 x38_2).f2) + x12_3))] (fun k_ => k_ ≠ gb311) (fun _ => False) rfl rfl ?aP (fun _ hk => hk.elim) ?aF ?aO ?aB ?aS ?aL ?_; (case aP => exact k36_mkM _ _ _ (⟨((rd_T36 l0 x38_2).f0), wrap64 (((rd_T36 l0 x38_2).f1) + x12_3), wrap64 (((rd_T36 l0 x38_2).f2) + x12_3)⟩ : S36)); (case aB => exact (by repeat (first | (with_reducible first | exact HB.out | apply below_alloc | apply pw_below_drewN | apply below_drew1 | refine below_set ?_ GE311.out) | exact HB.out))); (case aF => exact (fun k_ hk => Kd.freshB (g := gb311) (o := .cells #[.int .i64 ((rd_T36 l0 x38_2).f0), .int .i64 ((rd_T36 l0 x38_2).f1), .int .i64 ((rd_T36 l0 x38_2).f2)] 36 (0, 0)) (by (with_reducible repeat (first | refine blk_drewN ?_ _ | refine blk_drew ?_ | refine blk_alloc ?_ _)); exact BK311.out) k_ hk)); (case aO => exact (by (with_reducible repeat (first | apply Kd.R_alloc | apply Kd.R_drewN | apply Kd.R_drew)); exact HO_9.out)); (case aS => exact (below_size (by repeat (first | (with_reducible first | exact HB.out | apply below_alloc | apply pw_below_drewN | apply below_drew1 | refine below_set ?_ GE311.out) | exact HB.out)))); (case aL => have := LMc52.out; omega); intro v315 w54 ho hb hg hat; rw [← Ny314.out] at ho; have n0_ := Aside0.mk (blk_grown (g := gb311) (o := .cells #[.int .i64 ((rd_T36 l0 x38_2).f0), .int .i64 ((rd_T36 l0 x38_2).f1), .int .i64 ((rd_T36 l0 x38_2).f2)] 36 (0, 0)) (by (with_reducible repeat (first | refine blk_drewN ?_ _ | refine blk_drew ?_ | refine blk_alloc ?_ _)); exact BK311.out) hg (Kd.R_away HO_9.out (fun _ hk => hk))); have n1_ := Aside0.mk (hb); have n2_ := Aside0.mk (ho); clear BK311; clear HB; clear HO_9; have BK311 := n0_; have HB := n1_; have HO316 := n2_; clear n0_ n1_ n2_; clear ho hb hg hat))
                            go_roundg k3
                            case measure => have := HK1.out; have := HK2.out; have := HK3.out; omega
                            case rel => exact ⟨(y314), (wrap64 (x38_2 + 1)), (by first | rfl | (simp; done) | (simp [*]; done)), H', ⟨by have := HK1.out; have := HK2.out; have := HK3.out; omega⟩, ⟨by (with_reducible repeat (first | apply Kd.R_alloc | apply Kd.R_drewN | apply Kd.R_drew)); exact Kd.R_mono HO316.out (fun _ hk => trivial)⟩, ⟨by repeat (first | (with_reducible first | exact HB.out | apply below_alloc | apply pw_below_drewN | apply below_drew1 | refine below_set ?_ GE311.out) | exact HB.out)⟩⟩
                          · rw [if_neg c52] at H
                            exact absurd H (by simp)
                · rw [if_neg c16] at H
                  exact absurd H (by simp)
              · rw [if_neg c15] at H
                exact absurd H (by simp)
            · rw [if_neg c14] at H
              have c14b0 : decide (x38_2 < (l0.length : Int)) = false := decide_eq_false c14
              clear c14
              simp only [Option.some.injEq, Prod.mk.injEq] at H
              obtain ⟨rfl, rfl⟩ := H
              go_wp2
              go_ret2
              exact ⟨_, by first | rfl | (simp [errW_none, errW_some] <;> rfl) | (simp [*, errW_none, errW_some] <;> rfl), by (with_reducible repeat (first | apply Kd.R_alloc | apply Kd.R_drewN | apply Kd.R_drew)); exact HO_9.out, by repeat (first | (with_reducible first | exact HB.out | apply below_alloc | apply pw_below_drewN | apply below_drew1) | exact HB.out)⟩

end Go.Proofs.YtcbimnmpdpkefaaDoor.A
