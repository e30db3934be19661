/- Printed by a changed copy of the kit's print.py for all laws of the seat at once (one namespace): functions and their contracts; some parts by hand. -/
import Derived.Test.YtcbimnmpdpkefaaDoorAx0
import Derived.Test.YtcbimnmpdpkefaaDoorAx21
import Derived.Test.YtcbimnmpdpkefaaDoorAx23
import Derived.Test.YtcbimnmpdpkefaaDoorAx30
namespace Go.Proofs.YtcbimnmpdpkefaaDoor.A
open Go.RowKit Go.Proofs.YtcbimnmpdpkefaaDoorW.PrintWords Go.Proofs.YtcbimnmpdpkefaaDoorW.PrintLast Go.Proofs.YtcbimnmpdpkefaaDoorW.PrintMore
attribute [local go_sem] max2_int min2_int max_two min_two max_three min_three max_four min_four   -- for this text's walks alone
set_option linter.unusedVariables false
set_option linter.unusedSimpArgs false

/-! ### scholiastlaw20_DiagSingly: function 8 -/
mutual
def scholiastlaw20_DiagSingly.l0 : Nat → List (S36) → List (S43) → List (S36) → List (S36) → Int → Int → Option (Bool)
  | 0, _, _, _, _, _, _ => none
  | k + 1, x0, x1, x5, x30, x31, x32 => if x32 < x31 then (if 0 ≤ x32 then (if x32 < (x30.length : Int) then (if ((rd_T36 x30 x32).f1) < 0 then (some true) else (if ((rd_T36 x30 x32).f1) > ((rd_T36 x30 x32).f2) then (some true) else (if ((rd_T36 x30 x32).f2) > 1099511627776 then (some true) else (scholiastlaw20_DiagSingly.l0 k x0 x1 x5 x30 x31 (wrap64 (x32 + 1)))))) else (none)) else (none)) else (if ([] : List (S36)).length + x0.length < 5864062014805 then (scholiastlaw20_DiagSingly.l1 k x1 x5 (([] : List (S36)) ++ x0) (wrap64 ((x1.length : Int) - 1))) else (none))
def scholiastlaw20_DiagSingly.l1 : Nat → List (S43) → List (S36) → List (S36) → Int → Option (Bool)
  | 0, _, _, _, _ => none
  | k + 1, x1, x5, x9, x10 => if x10 ≥ 0 then (if 0 ≤ x10 then (if x10 < (x1.length : Int) then (if ((rd_T43 x1 x10).f1) > 1099511627776 then (some true) else (if x10 ≤ (wrap64 (x10 + 1)) then (if (wrap64 (x10 + 1)) ≤ (x1.length : Int) then ((diag_Carry.f k x9 ((x1.take ((wrap64 (x10 + 1)) : Int).toNat).drop (x10 : Int).toNat)).bind fun bt353 => (if bt353.2 = 0 then (scholiastlaw20_DiagSingly.l1 k x1 x5 bt353.1 (wrap64 (x10 - 1))) else (some false))) else (none)) else (none))) else (none)) else (none)) else ((scholiastlaw20_same.f k x9 x5).bind fun t347 => (some t347))
end
def scholiastlaw20_DiagSingly.f (k : Nat) (l0 : List (S36)) (l1 : List (S43)) : Option (Bool) := (scholiastlaw20_shown.f k).bind fun t337 => (if t337 = true then ((diag_Carry.f k l0 l1).bind fun bt338 => (if bt338.2 = 0 then (scholiastlaw20_DiagSingly.l0 k l0 l1 bt338.1 l0 (l0.length : Int) 0) else (if bt338.2 = 10 then (some ((bt338.1.length : Int) == 0)) else (some false)))) else (some false))
theorem scholiastlaw20_DiagSingly.mono_l : ∀ k, (∀ y0 y1 y2 y3 y4 y5, LeO (scholiastlaw20_DiagSingly.l0 k y0 y1 y2 y3 y4 y5) (scholiastlaw20_DiagSingly.l0 (k + 1) y0 y1 y2 y3 y4 y5)) ∧ (∀ y0 y1 y2 y3, LeO (scholiastlaw20_DiagSingly.l1 k y0 y1 y2 y3) (scholiastlaw20_DiagSingly.l1 (k + 1) y0 y1 y2 y3))
  | 0 => ⟨fun _ _ _ _ _ _ r h => by simp [scholiastlaw20_DiagSingly.l0] at h, fun _ _ _ _ r h => by simp [scholiastlaw20_DiagSingly.l1] at h⟩
  | k + 1 => by
    obtain ⟨ih0, ih1⟩ := scholiastlaw20_DiagSingly.mono_l k
    refine ⟨?_, ?_⟩
    · intro y0 y1 y2 y3 y4 y5
      unfold scholiastlaw20_DiagSingly.l0
      repeat' first
      | (with_reducible exact ih0 _ _ _ _ _ _)
      | (with_reducible exact ih1 _ _ _ _)
      | (with_reducible exact diag_Carry.mono _ _ _)
      | (with_reducible exact scholiastlaw20_same.mono _ _ _)
      | (with_reducible exact scholiastlaw20_shown.mono _)
      | (with_reducible exact LeO.refl _)
      | (with_reducible exact LeO.none _)
      | (with_reducible refine LeO.ite ?_ ?_)
      | (with_reducible refine LeO.bind ?_ (fun _ => ?_))
      | exact ih0 _ _ _ _ _ _
      | exact ih1 _ _ _ _
      | exact diag_Carry.mono _ _ _
      | exact scholiastlaw20_same.mono _ _ _
      | exact scholiastlaw20_shown.mono _
      | exact LeO.none _
      | refine LeO.ite ?_ ?_
      | refine LeO.bind ?_ (fun _ => ?_)
    · intro y0 y1 y2 y3
      unfold scholiastlaw20_DiagSingly.l1
      repeat' first
      | (with_reducible exact ih0 _ _ _ _ _ _)
      | (with_reducible exact ih1 _ _ _ _)
      | (with_reducible exact diag_Carry.mono _ _ _)
      | (with_reducible exact scholiastlaw20_same.mono _ _ _)
      | (with_reducible exact scholiastlaw20_shown.mono _)
      | (with_reducible exact LeO.refl _)
      | (with_reducible exact LeO.none _)
      | (with_reducible refine LeO.ite ?_ ?_)
      | (with_reducible refine LeO.bind ?_ (fun _ => ?_))
      | exact ih0 _ _ _ _ _ _
      | exact ih1 _ _ _ _
      | exact diag_Carry.mono _ _ _
      | exact scholiastlaw20_same.mono _ _ _
      | exact scholiastlaw20_shown.mono _
      | exact LeO.none _
      | refine LeO.ite ?_ ?_
      | refine LeO.bind ?_ (fun _ => ?_)
theorem scholiastlaw20_DiagSingly.mono : ∀ a0 a1 k, LeO (scholiastlaw20_DiagSingly.f k a0 a1) (scholiastlaw20_DiagSingly.f (k + 1) a0 a1) := by
  intro a0 a1 k
  obtain ⟨ih0, ih1⟩ := scholiastlaw20_DiagSingly.mono_l k
  unfold scholiastlaw20_DiagSingly.f
  repeat' first
      | (with_reducible exact ih0 _ _ _ _ _ _)
      | (with_reducible exact ih1 _ _ _ _)
      | (with_reducible exact diag_Carry.mono _ _ _)
      | (with_reducible exact scholiastlaw20_same.mono _ _ _)
      | (with_reducible exact scholiastlaw20_shown.mono _)
      | (with_reducible exact LeO.refl _)
      | (with_reducible exact LeO.none _)
      | (with_reducible refine LeO.ite ?_ ?_)
      | (with_reducible refine LeO.bind ?_ (fun _ => ?_))
      | exact ih0 _ _ _ _ _ _
      | exact ih1 _ _ _ _
      | exact diag_Carry.mono _ _ _
      | exact scholiastlaw20_same.mono _ _ _
      | exact scholiastlaw20_shown.mono _
      | exact LeO.none _
      | refine LeO.ite ?_ ?_
      | refine LeO.bind ?_ (fun _ => ?_)
set_option maxHeartbeats 8000000 in
set_option maxRecDepth 100000 in
theorem scholiastlaw20_DiagSingly.calls (k : Nat) (A0 : Option Addr) (c0 : Nat) (l0 : List (S36)) (A1 : Option Addr) (c1 : Nat) (l1 : List (S43)) (r : Bool) (w : World) (hG : GlobP w) (hr0 : Kd.C k36 w A0 l0.length l0) (hc0 : l0.length ≤ c0) (hr1 : Kd.C k43 w A1 l1.length l1) (hc1 : l1.length ≤ c1) (h : scholiastlaw20_DiagSingly.f k l0 l1 = some r) :
    Calls Tryd.prog 8 #[.slice A0 l0.length c0, .slice A1 l1.length c1] w fun e w' => e = .returned (.bool r) ∧ Below w.heap.size w w' := by
  have hu36 := Tryd.underlying36
  have HR0 := Aside0.mk hr0
  have HC0 := Aside0.mk hc0
  clear hr0 hc0
  have HR1 := Aside0.mk hr1
  have HC1 := Aside0.mk hc1
  clear hr1 hc1
  have HB := Aside0.mk (Below.refl w.heap.size w)
  have HGL := Aside0.mk hG
  clear hG
  have H : ((scholiastlaw20_shown.f k).bind fun t337 => (if t337 = true then ((diag_Carry.f k l0 l1).bind fun bt338 => (if bt338.2 = 0 then (scholiastlaw20_DiagSingly.l0 k l0 l1 bt338.1 l0 (l0.length : Int) 0) else (if bt338.2 = 10 then (some ((bt338.1.length : Int) == 0)) else (some false)))) else (some false))) = some r := h
  clear h
  replace H := Option.bind_eq_some_iff.mp H
  obtain ⟨t337, A30, H⟩ := H
  replace H : (if t337 = true then ((diag_Carry.f k l0 l1).bind fun bt338 => (if bt338.2 = 0 then (scholiastlaw20_DiagSingly.l0 k l0 l1 bt338.1 l0 (l0.length : Int) 0) else (if bt338.2 = 10 then (some ((bt338.1.length : Int) == 0)) else (some false)))) else (some false)) = some r := H
  have A3 := Aside0.mk A30
  clear A30
  by_cases c4 : t337 = true
  · subst c4
    have H1 : ((diag_Carry.f k l0 l1).bind fun bt338 => (if bt338.2 = 0 then (scholiastlaw20_DiagSingly.l0 k l0 l1 bt338.1 l0 (l0.length : Int) 0) else (if bt338.2 = 10 then (some ((bt338.1.length : Int) == 0)) else (some false)))) = some r := by rw [if_pos rfl] at H; exact H
    clear H
    have H := H1
    clear H1
    replace H := Option.bind_eq_some_iff.mp H
    obtain ⟨⟨t338, t339⟩, A50, H⟩ := H
    replace H : (if t339 = 0 then (scholiastlaw20_DiagSingly.l0 k l0 l1 t338 l0 (l0.length : Int) 0) else (if t339 = 10 then (some ((t338.length : Int) == 0)) else (some false))) = some r := H
    have A5 := Aside0.mk A50
    clear A50
    by_cases c6 : t339 = 0
    · rw [if_pos c6] at H
      have c6b0 : (t339 == 0) = true := beq_iff_eq.mpr c6
      have c6b1 : (t339 != 0) = false := bne_eq_false_iff_eq.mpr c6
      clear c6
      have H' := Aside0.mk H
      clear H
      go_enter Tryd.func8, Tryd.ntmps8
      go_wp2_with (first | ((with_reducible refine gate_callee (f := 15) rfl ?_); refine goesL_ (some 13) rfl rfl Tryd.func15 (by kernel_rfl) rfl #[] rfl (by (try simp only [List.map_toArray, List.map_cons, List.map_nil]); first | done | rfl | (simp only [List.length_drop, List.length_take]; rfl)) ?_; (with_reducible refine (scholiastlaw20_shown.calls k  true _ (GlobP.below HGL.out (by repeat (first | (with_reducible first | exact HB.out | apply below_alloc | apply pw_below_drewN | apply below_drew1) | exact HB.out))) A3.out).mono ?_); rintro e w7 ⟨rfl, hb⟩; refine ⟨_, rfl, ?_⟩; have n0_ := Aside0.mk (below_step (by repeat (first | (with_reducible first | exact HB.out | apply below_alloc | apply pw_below_drewN | apply below_drew1) | exact HB.out)) hb); clear HB; have HB := n0_; clear n0_; (try clear hb); (try clear hb2); (try clear hk); (try clear hi)) | ((with_reducible refine gate_callee (f := 27) rfl ?_); refine goesL_ (some 18) rfl rfl Tryd.func27 (by kernel_rfl) rfl #[.slice A0 l0.length c0, .slice A1 l1.length c1] rfl (by (try simp only [List.map_toArray, List.map_cons, List.map_nil]); first | done | rfl | (simp only [List.length_drop, List.length_take]; rfl)) ?_; (with_reducible refine (diag_Carry.calls k _ _ l0 _ _ l1 t338 t339 _ ?side1 ?side2 ?side3 ?side4 A5.out).mono ?_); (case side1 => repeat (first | exact (Kd.C_below HR0.out HB.out) | (with_reducible refine Kd.C_alloc ?_ _) | (with_reducible refine Kd.C_drewN ?_ _) | (with_reducible refine Kd.C_drew ?_))); (case side2 => exact HC0.out); (case side3 => repeat (first | exact (Kd.C_below HR1.out HB.out) | (with_reducible refine Kd.C_alloc ?_ _) | (with_reducible refine Kd.C_drewN ?_ _) | (with_reducible refine Kd.C_drew ?_))); (case side4 => exact HC1.out); rintro e w8 ⟨v340, rfl, ho0, hb⟩; refine ⟨_, rfl, ?_⟩; have n0_ := Aside0.mk (Kd.R_lower ho0 (below_size (by repeat (first | (with_reducible first | exact HB.out | apply below_alloc | apply pw_below_drewN | apply below_drew1) | exact HB.out)))); have n1_ := Aside0.mk (below_step (by repeat (first | (with_reducible first | exact HB.out | apply below_alloc | apply pw_below_drewN | apply below_drew1) | exact HB.out)) hb); clear HB; have HO341 := n0_; have HB := n1_; clear n0_ n1_; (try clear hb); (try clear hb2); (try clear hk); (try clear hi); (try clear ho0)))
      go_loopg [32] k (fun kq v32 w' => ∃ (x32_1 : Int), v32 = .int .i64 x32_1 ∧ Aside0 (scholiastlaw20_DiagSingly.l0 kq l0 l1 t338 l0 (l0.length : Int) x32_1 = some r) ∧ Aside0 (kq ≤ k) ∧ Aside0 (Kd.R k36 36 w' w.heap.size (fun _ => True) v340 t338) ∧ Aside0 (Below w.heap.size w w'))
      case atStart => exact ⟨(0), (by first | rfl | (simp; done) | (simp [*]; done)), H', ⟨Nat.le_refl _⟩, ⟨by (with_reducible repeat (first | apply Kd.R_alloc | apply Kd.R_drewN | apply Kd.R_drew)); exact HO341.out⟩, ⟨by repeat (first | (with_reducible first | exact HB.out | apply below_alloc | apply pw_below_drewN | apply below_drew1) | exact HB.out)⟩⟩
      case round =>
        clear H'
        try clear c1
        try clear c2
        try clear p2
        try clear c4
        try clear c6
        try clear c6b0
        try clear c6b1
        try clear c8
        obtain ⟨x32_1, rfl, HA, HK1, HO_5, HB⟩ := hrel
        cases gk with
        | zero => exact absurd HA.out (by simp [scholiastlaw20_DiagSingly.l0])
        | succ k1 =>
          have H := HA.out
          clear HA
          simp only [scholiastlaw20_DiagSingly.l0] at H
          by_cases c9 : x32_1 < (l0.length : Int)
          · rw [if_pos c9] at H
            have c9b0 : decide (x32_1 < (l0.length : Int)) = true := decide_eq_true c9
            clear c9
            by_cases c10 : 0 ≤ x32_1
            · rw [if_pos c10] at H
              have c10b0 : decide (0 ≤ x32_1) = true := decide_eq_true c10
              clear c10
              by_cases c11 : x32_1 < (l0.length : Int)
              · rw [if_pos c11] at H
                have c11b0 : decide (x32_1 < (l0.length : Int)) = true := decide_eq_true c11
                clear c11
                by_cases c12 : ((rd_T36 l0 x32_1).f1) < 0
                · rw [if_pos c12] at H
                  have c12b0 : decide (((rd_T36 l0 x32_1).f1) < 0) = true := decide_eq_true c12
                  clear c12
                  obtain rfl := Option.some.inj H
                  have p342 : 0 ≤ (x32_1 : Int) := of_decide_eq_true (by first | (with_reducible assumption) | assumption)
                  have q342 : x32_1 < (l0.length : Int) := of_decide_eq_true (by first | (with_reducible assumption) | assumption)
                  obtain ⟨ad342, e342, hx342_0, hx342_1, hx342_2⟩ := at_T36 HR0.out x32_1 p342 q342
                  cases e342
                  replace hx342_0 := (HB.out.cell (World.block_lt_of_cell? w _ hx342_0)).trans hx342_0
                  replace hx342_1 := (HB.out.cell (World.block_lt_of_cell? w _ hx342_1)).trans hx342_1
                  replace hx342_2 := (HB.out.cell (World.block_lt_of_cell? w _ hx342_2)).trans hx342_2
                  replace p342 := eq_true p342
                  replace q342 := eq_true q342
                  go_wp2_with (first | ((with_reducible refine gate_dst (N := 8) rfl ?_); (try (refine gate_guard (by rfl) ?_; dsimp only)); refine box_event ?hg (N := 8) ?hd (cs := #[.int .i64 0, .int .i64 0, .int .i64 0]) (t := 36) ?hr ?_; (case hd => rfl); (case hg => rfl); (case hr => first | (go_simp; done) | (go_simp; rfl)); intro gb343 hg w13 hbox hb; have n0_ := Aside0.mk (Kd.R_below (Kd.R_elderB (by (with_reducible repeat (first | apply Kd.R_alloc | apply Kd.R_drewN | apply Kd.R_drew)); exact HO_5.out) gb343 (Nat.le_of_eq hg.symm)) hb); have n1_ := Aside0.mk (below_step (by repeat (first | (with_reducible first | exact HB.out | apply below_alloc | apply pw_below_drewN | apply below_drew1) | exact HB.out)) hb); have n2_ := Aside0.mk (hbox); have n3_ := Aside0.mk ((by rw [hg]; exact (below_size (by repeat (first | (with_reducible first | exact HB.out | apply below_alloc | apply pw_below_drewN | apply below_drew1) | exact HB.out))) : w.heap.size ≤ gb343)); have n4_ := Aside0.mk ((by rw [hg]; exact (below_size (by repeat (first | (with_reducible first | exact HB.out | apply below_alloc | apply pw_below_drewN | apply below_drew1) | exact HB.out))) : w.heap.size ≤ gb343)); clear HO_5; clear HB; have HO_5 := n0_; have HB := n1_; have BK343 := n2_; have GW343 := n3_; have GE343 := n4_; clear n0_ n1_ n2_ n3_ n4_; clear hb hbox hg; have hcz14_0 : w13.cell? ⟨gb343, 0, none⟩ = some (.int .i64 0) := (blk_cell BK343.out 0).trans rfl; have hcz14_1 : w13.cell? ⟨gb343, 1, none⟩ = some (.int .i64 0) := (blk_cell BK343.out 1).trans rfl; have hcz14_2 : w13.cell? ⟨gb343, 2, none⟩ = some (.int .i64 0) := (blk_cell BK343.out 2).trans rfl; have hfz14_0 := blk_frozen BK343.out 0; have hfz14_1 := blk_frozen BK343.out 1; have hfz14_2 := blk_frozen BK343.out 2))
                  go_ret
                  exact ⟨by first | rfl | (simp [errW_none, errW_some] <;> rfl) | (simp [*, errW_none, errW_some] <;> rfl), by repeat (first | (with_reducible first | exact HB.out | apply below_alloc | apply pw_below_drewN | apply below_drew1 | refine below_set ?_ GE343.out) | exact HB.out)⟩
                · rw [if_neg c12] at H
                  have c12b0 : decide (((rd_T36 l0 x32_1).f1) < 0) = false := decide_eq_false c12
                  clear c12
                  by_cases c15 : ((rd_T36 l0 x32_1).f1) > ((rd_T36 l0 x32_1).f2)
                  · rw [if_pos c15] at H
                    have c15b0 : decide (((rd_T36 l0 x32_1).f2) < ((rd_T36 l0 x32_1).f1)) = true := decide_eq_true c15
                    clear c15
                    obtain rfl := Option.some.inj H
                    have p342 : 0 ≤ (x32_1 : Int) := of_decide_eq_true (by first | (with_reducible assumption) | assumption)
                    have q342 : x32_1 < (l0.length : Int) := of_decide_eq_true (by first | (with_reducible assumption) | assumption)
                    obtain ⟨ad342, e342, hx342_0, hx342_1, hx342_2⟩ := at_T36 HR0.out x32_1 p342 q342
                    cases e342
                    replace hx342_0 := (HB.out.cell (World.block_lt_of_cell? w _ hx342_0)).trans hx342_0
                    replace hx342_1 := (HB.out.cell (World.block_lt_of_cell? w _ hx342_1)).trans hx342_1
                    replace hx342_2 := (HB.out.cell (World.block_lt_of_cell? w _ hx342_2)).trans hx342_2
                    replace p342 := eq_true p342
                    replace q342 := eq_true q342
                    go_wp2_with (first | ((with_reducible refine gate_dst (N := 8) rfl ?_); (try (refine gate_guard (by rfl) ?_; dsimp only)); refine box_event ?hg (N := 8) ?hd (cs := #[.int .i64 0, .int .i64 0, .int .i64 0]) (t := 36) ?hr ?_; (case hd => rfl); (case hg => rfl); (case hr => first | (go_simp; done) | (go_simp; rfl)); intro gb343 hg w16 hbox hb; have n0_ := Aside0.mk (Kd.R_below (Kd.R_elderB (by (with_reducible repeat (first | apply Kd.R_alloc | apply Kd.R_drewN | apply Kd.R_drew)); exact HO_5.out) gb343 (Nat.le_of_eq hg.symm)) hb); have n1_ := Aside0.mk (below_step (by repeat (first | (with_reducible first | exact HB.out | apply below_alloc | apply pw_below_drewN | apply below_drew1) | exact HB.out)) hb); have n2_ := Aside0.mk (hbox); have n3_ := Aside0.mk ((by rw [hg]; exact (below_size (by repeat (first | (with_reducible first | exact HB.out | apply below_alloc | apply pw_below_drewN | apply below_drew1) | exact HB.out))) : w.heap.size ≤ gb343)); have n4_ := Aside0.mk ((by rw [hg]; exact (below_size (by repeat (first | (with_reducible first | exact HB.out | apply below_alloc | apply pw_below_drewN | apply below_drew1) | exact HB.out))) : w.heap.size ≤ gb343)); clear HO_5; clear HB; have HO_5 := n0_; have HB := n1_; have BK343 := n2_; have GW343 := n3_; have GE343 := n4_; clear n0_ n1_ n2_ n3_ n4_; clear hb hbox hg; have hcz17_0 : w16.cell? ⟨gb343, 0, none⟩ = some (.int .i64 0) := (blk_cell BK343.out 0).trans rfl; have hcz17_1 : w16.cell? ⟨gb343, 1, none⟩ = some (.int .i64 0) := (blk_cell BK343.out 1).trans rfl; have hcz17_2 : w16.cell? ⟨gb343, 2, none⟩ = some (.int .i64 0) := (blk_cell BK343.out 2).trans rfl; have hfz17_0 := blk_frozen BK343.out 0; have hfz17_1 := blk_frozen BK343.out 1; have hfz17_2 := blk_frozen BK343.out 2))
                    go_ret
                    exact ⟨by first | rfl | (simp [errW_none, errW_some] <;> rfl) | (simp [*, errW_none, errW_some] <;> rfl), by repeat (first | (with_reducible first | exact HB.out | apply below_alloc | apply pw_below_drewN | apply below_drew1 | refine below_set ?_ GE343.out) | exact HB.out)⟩
                  · rw [if_neg c15] at H
                    have c15b0 : decide (((rd_T36 l0 x32_1).f2) < ((rd_T36 l0 x32_1).f1)) = false := decide_eq_false c15
                    clear c15
                    by_cases c18 : ((rd_T36 l0 x32_1).f2) > 1099511627776
                    · rw [if_pos c18] at H
                      have c18b0 : decide (1099511627776 < ((rd_T36 l0 x32_1).f2)) = true := decide_eq_true c18
                      clear c18
                      obtain rfl := Option.some.inj H
                      have p342 : 0 ≤ (x32_1 : Int) := of_decide_eq_true (by first | (with_reducible assumption) | assumption)
                      have q342 : x32_1 < (l0.length : Int) := of_decide_eq_true (by first | (with_reducible assumption) | assumption)
                      obtain ⟨ad342, e342, hx342_0, hx342_1, hx342_2⟩ := at_T36 HR0.out x32_1 p342 q342
                      cases e342
                      replace hx342_0 := (HB.out.cell (World.block_lt_of_cell? w _ hx342_0)).trans hx342_0
                      replace hx342_1 := (HB.out.cell (World.block_lt_of_cell? w _ hx342_1)).trans hx342_1
                      replace hx342_2 := (HB.out.cell (World.block_lt_of_cell? w _ hx342_2)).trans hx342_2
                      replace p342 := eq_true p342
                      replace q342 := eq_true q342
                      go_wp2_with (first | ((with_reducible refine gate_dst (N := 8) rfl ?_); (try (refine gate_guard (by rfl) ?_; dsimp only)); refine box_event ?hg (N := 8) ?hd (cs := #[.int .i64 0, .int .i64 0, .int .i64 0]) (t := 36) ?hr ?_; (case hd => rfl); (case hg => rfl); (case hr => first | (go_simp; done) | (go_simp; rfl)); intro gb343 hg w19 hbox hb; have n0_ := Aside0.mk (Kd.R_below (Kd.R_elderB (by (with_reducible repeat (first | apply Kd.R_alloc | apply Kd.R_drewN | apply Kd.R_drew)); exact HO_5.out) gb343 (Nat.le_of_eq hg.symm)) hb); have n1_ := Aside0.mk (below_step (by repeat (first | (with_reducible first | exact HB.out | apply below_alloc | apply pw_below_drewN | apply below_drew1) | exact HB.out)) hb); have n2_ := Aside0.mk (hbox); have n3_ := Aside0.mk ((by rw [hg]; exact (below_size (by repeat (first | (with_reducible first | exact HB.out | apply below_alloc | apply pw_below_drewN | apply below_drew1) | exact HB.out))) : w.heap.size ≤ gb343)); have n4_ := Aside0.mk ((by rw [hg]; exact (below_size (by repeat (first | (with_reducible first | exact HB.out | apply below_alloc | apply pw_below_drewN | apply below_drew1) | exact HB.out))) : w.heap.size ≤ gb343)); clear HO_5; clear HB; have HO_5 := n0_; have HB := n1_; have BK343 := n2_; have GW343 := n3_; have GE343 := n4_; clear n0_ n1_ n2_ n3_ n4_; clear hb hbox hg; have hcz20_0 : w19.cell? ⟨gb343, 0, none⟩ = some (.int .i64 0) := (blk_cell BK343.out 0).trans rfl; have hcz20_1 : w19.cell? ⟨gb343, 1, none⟩ = some (.int .i64 0) := (blk_cell BK343.out 1).trans rfl; have hcz20_2 : w19.cell? ⟨gb343, 2, none⟩ = some (.int .i64 0) := (blk_cell BK343.out 2).trans rfl; have hfz20_0 := blk_frozen BK343.out 0; have hfz20_1 := blk_frozen BK343.out 1; have hfz20_2 := blk_frozen BK343.out 2))
                      go_ret
                      exact ⟨by first | rfl | (simp [errW_none, errW_some] <;> rfl) | (simp [*, errW_none, errW_some] <;> rfl), by repeat (first | (with_reducible first | exact HB.out | apply below_alloc | apply pw_below_drewN | apply below_drew1 | refine below_set ?_ GE343.out) | exact HB.out)⟩
                    · rw [if_neg c18] at H
                      have c18b0 : decide (1099511627776 < ((rd_T36 l0 x32_1).f2)) = false := decide_eq_false c18
                      clear c18
                      have H' := Aside0.mk H
                      clear H
                      have p342 : 0 ≤ (x32_1 : Int) := of_decide_eq_true (by first | (with_reducible assumption) | assumption)
                      have q342 : x32_1 < (l0.length : Int) := of_decide_eq_true (by first | (with_reducible assumption) | assumption)
                      obtain ⟨ad342, e342, hx342_0, hx342_1, hx342_2⟩ := at_T36 HR0.out x32_1 p342 q342
                      cases e342
                      replace hx342_0 := (HB.out.cell (World.block_lt_of_cell? w _ hx342_0)).trans hx342_0
                      replace hx342_1 := (HB.out.cell (World.block_lt_of_cell? w _ hx342_1)).trans hx342_1
                      replace hx342_2 := (HB.out.cell (World.block_lt_of_cell? w _ hx342_2)).trans hx342_2
                      replace p342 := eq_true p342
                      replace q342 := eq_true q342
                      go_wp2_with (first | ((with_reducible refine gate_dst (N := 8) rfl ?_); (try (refine gate_guard (by rfl) ?_; dsimp only)); refine box_event ?hg (N := 8) ?hd (cs := #[.int .i64 0, .int .i64 0, .int .i64 0]) (t := 36) ?hr ?_; (case hd => rfl); (case hg => rfl); (case hr => first | (go_simp; done) | (go_simp; rfl)); intro gb343 hg w21 hbox hb; have n0_ := Aside0.mk (Kd.R_below (Kd.R_elderB (by (with_reducible repeat (first | apply Kd.R_alloc | apply Kd.R_drewN | apply Kd.R_drew)); exact HO_5.out) gb343 (Nat.le_of_eq hg.symm)) hb); have n1_ := Aside0.mk (below_step (by repeat (first | (with_reducible first | exact HB.out | apply below_alloc | apply pw_below_drewN | apply below_drew1) | exact HB.out)) hb); have n2_ := Aside0.mk (hbox); have n3_ := Aside0.mk ((by rw [hg]; exact (below_size (by repeat (first | (with_reducible first | exact HB.out | apply below_alloc | apply pw_below_drewN | apply below_drew1) | exact HB.out))) : w.heap.size ≤ gb343)); have n4_ := Aside0.mk ((by rw [hg]; exact (below_size (by repeat (first | (with_reducible first | exact HB.out | apply below_alloc | apply pw_below_drewN | apply below_drew1) | exact HB.out))) : w.heap.size ≤ gb343)); clear HO_5; clear HB; have HO_5 := n0_; have HB := n1_; have BK343 := n2_; have GW343 := n3_; have GE343 := n4_; clear n0_ n1_ n2_ n3_ n4_; clear hb hbox hg; have hcz22_0 : w21.cell? ⟨gb343, 0, none⟩ = some (.int .i64 0) := (blk_cell BK343.out 0).trans rfl; have hcz22_1 : w21.cell? ⟨gb343, 1, none⟩ = some (.int .i64 0) := (blk_cell BK343.out 1).trans rfl; have hcz22_2 : w21.cell? ⟨gb343, 2, none⟩ = some (.int .i64 0) := (blk_cell BK343.out 2).trans rfl; have hfz22_0 := blk_frozen BK343.out 0; have hfz22_1 := blk_frozen BK343.out 1; have hfz22_2 := blk_frozen BK343.out 2))
                      go_roundg k1
                      case measure => have := HK1.out; omega
                      case rel => exact ⟨(wrap64 (x32_1 + 1)), (by first | rfl | (simp; done) | (simp [*]; done)), H', ⟨by have := HK1.out; omega⟩, ⟨by (with_reducible repeat (first | apply Kd.R_alloc | apply Kd.R_drewN | apply Kd.R_drew)); exact Kd.R_mono (Kd.R_far (p := ⟨gb343, 2, none⟩) (Kd.R_far (p := ⟨gb343, 1, none⟩) (Kd.R_far (p := ⟨gb343, 0, none⟩) (Kd.R_mono HO_5.out (fun k_ hk => (⟨hk, hk.2⟩ : _ ∧ k_ ≠ gb343))) (fun _ hk => hk.2) (.int .i64 ((rd_T36 l0 x32_1).f0))) (fun _ hk => hk.2) (.int .i64 ((rd_T36 l0 x32_1).f1))) (fun _ hk => hk.2) (.int .i64 ((rd_T36 l0 x32_1).f2))) (fun _ hk => trivial)⟩, ⟨by repeat (first | (with_reducible first | exact HB.out | apply below_alloc | apply pw_below_drewN | apply below_drew1 | refine below_set ?_ GE343.out) | exact HB.out)⟩⟩
              · rw [if_neg c11] at H
                exact absurd H (by simp)
            · rw [if_neg c10] at H
              exact absurd H (by simp)
          · rw [if_neg c9] at H
            have c9b0 : decide (x32_1 < (l0.length : Int)) = false := decide_eq_false c9
            clear c9
            by_cases c23 : ([] : List (S36)).length + l0.length < 5864062014805
            · rw [if_pos c23] at H
              have LMc23 := Aside0.mk c23
              clear c23
              obtain ⟨y344, hy344⟩ : ∃ y_ : List (S36), y_ = (([] : List (S36)) ++ l0) := ⟨_, rfl⟩
              replace H : (scholiastlaw20_DiagSingly.l1 k1 l1 t338 y344 (wrap64 ((l1.length : Int) - 1))) = some r := by first | (rw [hy344]; with_reducible exact H) | (have H2_ := (Option.bind_some _ _).symm.trans H; rw [hy344]; with_reducible exact H2_) | (have H2_ := (Option.bind_some _ _).symm.trans H; with_reducible exact H2_) | with_reducible exact H | (rw [hy344]; exact H) | exact H
              have Ny344 := Aside0.mk hy344
              clear hy344
              have H' := Aside0.mk H
              clear H
              go_wp2_with (first | ((with_reducible refine gate_builtin (b := .append) (xs := #[.const (.slice none 0 0), .tmp 52]) rfl ?_); (try (refine gate_guard (by rfl) ?_; dsimp only)); at_builtin; refine Kd.R_append_rows k36 (w0 := w) w.heap.size rfl (.const (.slice none 0 0)) (.tmp 52) 23 36 (.agg #[(.int .i64 0), (.int .i64 0), (.int .i64 0)]) 24 rfl Tryd.underlying23 info36 rfl (by decide) (by omega) (.slice none 0 0) ([] : List (S36)) l0 _ _ _ (fun k_ => some k_ ≠ (v340 : Value).ownBlock) (fun _ => False) rfl rfl ?aO ?aR (fun _ _ h => h) (fun _ h => h.elim) ?aF ?aB ?aS ?aL ?_; (case aR => repeat (first | exact (Kd.C_below HR0.out HB.out) | (with_reducible refine Kd.C_alloc ?_ _) | (with_reducible refine Kd.C_drewN ?_ _) | (with_reducible refine Kd.C_drew ?_))); (case aB => exact (by repeat (first | (with_reducible first | exact HB.out | apply below_alloc | apply pw_below_drewN | apply below_drew1) | exact HB.out))); (case aF => exact (fun k_ hk => Kd.fresh' (Kd.R_lt (by (with_reducible repeat (first | apply Kd.R_alloc | apply Kd.R_drewN | apply Kd.R_drew)); exact HO_5.out)) k_ hk)); (case aO => exact ((Kd.R_nil _ _ _ _ (fun k_ => some k_ ≠ (v340 : Value).ownBlock)))); (case aS => exact (below_size (by repeat (first | (with_reducible first | exact HB.out | apply below_alloc | apply pw_below_drewN | apply below_drew1) | exact HB.out)))); (case aL => have := LMc23.out; omega); intro v345 w24 ho hb hg hat; rw [← Ny344.out] at ho; have n0_ := Aside0.mk (Kd.R_after (Kd.R_apart_nil (by (with_reducible repeat (first | apply Kd.R_alloc | apply Kd.R_drewN | apply Kd.R_drew)); exact HO_5.out)) hg hat); have n1_ := Aside0.mk (hb); have n2_ := Aside0.mk (ho); clear HO_5; clear HB; have HO_5 := n0_; have HB := n1_; have HO346 := n2_; clear n0_ n1_ n2_; clear ho hb hg hat))
              go_loopg [9, 10] k1 (fun kq v9 v10 w' => ∃ (x9_2 : List (S36)) (x10_2 : Int), v10 = .int .i64 x10_2 ∧ Aside0 (scholiastlaw20_DiagSingly.l1 kq l1 t338 x9_2 x10_2 = some r) ∧ Aside0 (kq ≤ k1) ∧ Aside0 (Kd.R k36 36 w' w.heap.size (fun k_ => some k_ ≠ (v9 : Value).ownBlock) v340 t338) ∧ Aside0 (Kd.R k36 36 w' w.heap.size (fun k_ => some k_ ≠ (v340 : Value).ownBlock) v9 x9_2) ∧ Aside0 (Below w.heap.size w w'))
              case atStart => exact ⟨(y344), (wrap64 ((l1.length : Int) - 1)), (by first | rfl | (simp; done) | (simp [*]; done)), H', ⟨Nat.le_refl _⟩, ⟨by (with_reducible repeat (first | apply Kd.R_alloc | apply Kd.R_drewN | apply Kd.R_drew)); exact Kd.R_mono HO_5.out (fun _ hk => hk.2)⟩, ⟨by (with_reducible repeat (first | apply Kd.R_alloc | apply Kd.R_drewN | apply Kd.R_drew)); exact HO346.out⟩, ⟨by repeat (first | (with_reducible first | exact HB.out | apply below_alloc | apply pw_below_drewN | apply below_drew1) | exact HB.out)⟩⟩
              case round =>
                clear H'
                try clear c1
                try clear c2
                try clear p2
                try clear p3
                try clear q3
                try clear hx3
                try clear c4
                try clear c6
                try clear c6b0
                try clear c6b1
                try clear p6
                try clear c8
                try clear c9
                try clear c9b0
                try clear c10
                try clear c10b0
                try clear c11
                try clear c11b0
                try clear c12
                try clear c12b0
                try clear c15
                try clear c15b0
                try clear c18
                try clear c18b0
                try clear c23
                try clear hcz14_0
                try clear hcz14_1
                try clear hcz14_2
                try clear hcz17_0
                try clear hcz17_1
                try clear hcz17_2
                try clear hcz20_0
                try clear hcz20_1
                try clear hcz20_2
                try clear hcz22_0
                try clear hcz22_1
                try clear hcz22_2
                try clear hfz14_0
                try clear hfz14_1
                try clear hfz14_2
                try clear hfz17_0
                try clear hfz17_1
                try clear hfz17_2
                try clear hfz20_0
                try clear hfz20_1
                try clear hfz20_2
                try clear hfz22_0
                try clear hfz22_1
                try clear hfz22_2
                try clear hx342_0
                try clear hx342_1
                try clear hx342_2
                try clear p2
                try clear p342
                try clear q342
                obtain ⟨x9_2, x10_2, rfl, HA, HK2, HO_5, HO_9, HB⟩ := hrel
                cases gk with
                | zero => exact absurd HA.out (by simp [scholiastlaw20_DiagSingly.l1])
                | succ k2 =>
                  have H := HA.out
                  clear HA
                  simp only [scholiastlaw20_DiagSingly.l1] at H
                  by_cases c25 : x10_2 ≥ 0
                  · rw [if_pos c25] at H
                    have c25b0 : decide (0 ≤ x10_2) = true := decide_eq_true c25
                    clear c25
                    by_cases c26 : 0 ≤ x10_2
                    · rw [if_pos c26] at H
                      have c26b0 : decide (0 ≤ x10_2) = true := decide_eq_true c26
                      clear c26
                      by_cases c27 : x10_2 < (l1.length : Int)
                      · rw [if_pos c27] at H
                        have c27b0 : decide (x10_2 < (l1.length : Int)) = true := decide_eq_true c27
                        clear c27
                        by_cases c28 : ((rd_T43 l1 x10_2).f1) > 1099511627776
                        · rw [if_pos c28] at H
                          have c28b0 : decide (1099511627776 < ((rd_T43 l1 x10_2).f1)) = true := decide_eq_true c28
                          clear c28
                          obtain rfl := Option.some.inj H
                          have p348 : 0 ≤ (x10_2 : Int) := of_decide_eq_true (by first | (with_reducible assumption) | assumption)
                          have q348 : x10_2 < (l1.length : Int) := of_decide_eq_true (by first | (with_reducible assumption) | assumption)
                          obtain ⟨ad348, e348, hx348_0, hx348_1, hx348_2⟩ := at_T43 HR1.out x10_2 p348 q348
                          cases e348
                          replace hx348_0 := (HB.out.cell (World.block_lt_of_cell? w _ hx348_0)).trans hx348_0
                          replace hx348_1 := (HB.out.cell (World.block_lt_of_cell? w _ hx348_1)).trans hx348_1
                          replace hx348_2 := (HB.out.cell (World.block_lt_of_cell? w _ hx348_2)).trans hx348_2
                          replace p348 := eq_true p348
                          replace q348 := eq_true q348
                          go_wp2
                          go_ret
                          exact ⟨by first | rfl | (simp [errW_none, errW_some] <;> rfl) | (simp [*, errW_none, errW_some] <;> rfl), by repeat (first | (with_reducible first | exact HB.out | apply below_alloc | apply pw_below_drewN | apply below_drew1) | exact HB.out)⟩
                        · rw [if_neg c28] at H
                          have c28b0 : decide (1099511627776 < ((rd_T43 l1 x10_2).f1)) = false := decide_eq_false c28
                          clear c28
                          have c29b0 := eq_true (of_decide_eq_true (by first | (with_reducible assumption) | assumption) : 0 ≤ x10_2)
                          by_cases c30 : x10_2 ≤ (wrap64 (x10_2 + 1))
                          · rw [if_pos c30] at H
                            have c30b0 := eq_true c30
                            have c30b1 : decide (x10_2 ≤ (wrap64 (x10_2 + 1))) = true := decide_eq_true c30
                            by_cases c31 : (wrap64 (x10_2 + 1)) ≤ (l1.length : Int)
                            · rw [if_pos c31] at H
                              have c31b0 := eq_true c31
                              have c31b1 : decide ((wrap64 (x10_2 + 1)) ≤ (l1.length : Int)) = true := decide_eq_true c31
                              obtain ⟨y349, hy349⟩ : ∃ y_ : List (S43), y_ = ((l1.take ((wrap64 (x10_2 + 1)) : Int).toNat).drop (x10_2 : Int).toNat) := ⟨_, rfl⟩
                              replace H : ((diag_Carry.f k2 x9_2 y349).bind fun bt353 => (if bt353.2 = 0 then (scholiastlaw20_DiagSingly.l1 k2 l1 t338 bt353.1 (wrap64 (x10_2 - 1))) else (some false))) = some r := by first | (rw [hy349]; with_reducible exact H) | (have H2_ := (Option.bind_some _ _).symm.trans H; rw [hy349]; with_reducible exact H2_) | (have H2_ := (Option.bind_some _ _).symm.trans H; with_reducible exact H2_) | with_reducible exact H | (rw [hy349]; exact H) | exact H
                              have Ny349 := Aside0.mk hy349
                              clear hy349
                              replace H := Option.bind_eq_some_iff.mp H
                              obtain ⟨⟨t353, t354⟩, A320, H⟩ := H
                              replace H : (if t354 = 0 then (scholiastlaw20_DiagSingly.l1 k2 l1 t338 t353 (wrap64 (x10_2 - 1))) else (some false)) = some r := H
                              have A32 := Aside0.mk A320
                              clear A320
                              by_cases c33 : t354 = 0
                              · rw [if_pos c33] at H
                                have c33b0 : (t354 == 0) = true := beq_iff_eq.mpr c33
                                have c33b1 : (t354 != 0) = false := bne_eq_false_iff_eq.mpr c33
                                clear c33
                                have H' := Aside0.mk H
                                clear H
                                have p348 : 0 ≤ (x10_2 : Int) := of_decide_eq_true (by first | (with_reducible assumption) | assumption)
                                have q348 : x10_2 < (l1.length : Int) := of_decide_eq_true (by first | (with_reducible assumption) | assumption)
                                obtain ⟨ad348, e348, hx348_0, hx348_1, hx348_2⟩ := at_T43 HR1.out x10_2 p348 q348
                                cases e348
                                replace hx348_0 := (HB.out.cell (World.block_lt_of_cell? w _ hx348_0)).trans hx348_0
                                replace hx348_1 := (HB.out.cell (World.block_lt_of_cell? w _ hx348_1)).trans hx348_1
                                replace hx348_2 := (HB.out.cell (World.block_lt_of_cell? w _ hx348_2)).trans hx348_2
                                replace p348 := eq_true p348
                                replace q348 := eq_true q348
                                have q34 : ((wrap64 (x10_2 + 1)) : Int) ≤ ((l1.length : Int) : Int) := of_decide_eq_true (by first | (with_reducible assumption) | assumption)
                                obtain ⟨i034, hi034, _, hsz34, _⟩ := info_parts info43
                                have hroom34 : l1.length ≤ c1 := HC1.out
                                have hC34 : Kd.C k43 _ (some ad348) l1.length l1 := HR1.out
                                have ql34 : (x10_2 : Int) ≤ ((wrap64 (x10_2 + 1)) : Int) := of_decide_eq_true (by first | (with_reducible assumption) | assumption)
                                have q034 : (0 : Int) ≤ (x10_2 : Int) := of_decide_eq_true (by first | (with_reducible assumption) | assumption)
                                have hcut34 := cut_mid (P := Tryd.prog) 38 43 .i64 .i64 Tryd.underlying38 hi034 3 hsz34 (some ad348) l1.length c1 x10_2 (wrap64 (x10_2 + 1)) q034 ql34 q34 hroom34
                                have hr34 := Kd.C_mid (lo := (x10_2 : Int).toNat) (hi := ((wrap64 (x10_2 + 1)) : Int).toNat) (c := c1) hC34 (by omega) (by omega) hroom34
                                obtain ⟨A34, hA34⟩ : ∃ A1, A1 = (if c1 = (x10_2 : Int).toNat then (some ad348) else ((some ad348) : Option Addr).map (·.add ((x10_2 : Int).toNat * 3))) := ⟨_, rfl⟩
                                obtain ⟨c34, hc34⟩ : ∃ cz_, cz_ = c1 - (x10_2 : Int).toNat := ⟨_, rfl⟩
                                have hy34 : y349.length = ((wrap64 (x10_2 + 1)) : Int).toNat - (x10_2 : Int).toNat := (by rw [Ny349.out, List.length_drop, List.length_take] <;> omega)
                                rw [show ((l1).take ((wrap64 (x10_2 + 1)) : Int).toNat).drop (x10_2 : Int).toNat = y349 from Ny349.out.symm] at hr34
                                replace hr34 : Kd.C k43 _ A34 y349.length y349 := (by rw [hA34]; exact hr34)
                                rw [← hy34, ← hA34, ← hc34] at hcut34
                                have HR352 := Aside0.mk hr34
                                have HC352 := Aside0.mk (show y349.length ≤ c34 from by rw [hy34, hc34]; exact Nat.sub_le_sub_right (Nat.le_trans (by omega) hroom34) _)
                                clear hr34 hC34 hroom34 hi034 hsz34 hc34
                                have KY34 := Aside0.mk hy34
                                have KA34 := Aside0.mk hA34
                                clear hy34 hA34
                                replace q34 := eq_true q34
                                obtain ⟨Ao35, co35, eo35⟩ := Kd.R_slice HO_9.out
                                subst eo35
                                go_wp2_with (first | ((with_reducible refine gate_callee (f := 27) rfl ?_); refine goesL_ (some 74) rfl rfl Tryd.func27 (by kernel_rfl) rfl #[.slice Ao35 x9_2.length co35, .slice A34 y349.length c34] rfl (by (try simp only [List.map_toArray, List.map_cons, List.map_nil]); first | done | rfl | (simp only [List.length_drop, List.length_take]; rfl)) ?_; (with_reducible refine (diag_Carry.calls k2 _ _ x9_2 _ _ y349 t353 t354 _ ?side1 ?side2 ?side3 ?side4 A32.out).mono ?_); (case side1 => repeat (first | exact (Kd.R_reads' HO_9.out).2.2 | (with_reducible refine Kd.C_alloc ?_ _) | (with_reducible refine Kd.C_drewN ?_ _) | (with_reducible refine Kd.C_drew ?_))); (case side2 => exact (Kd.R_reads' HO_9.out).2.1); (case side3 => repeat (first | exact (Kd.C_below HR352.out HB.out) | (with_reducible refine Kd.C_alloc ?_ _) | (with_reducible refine Kd.C_drewN ?_ _) | (with_reducible refine Kd.C_drew ?_))); (case side4 => exact HC352.out); rintro e w36 ⟨v355, rfl, ho0, hb⟩; refine ⟨_, rfl, ?_⟩; have n0_ := Aside0.mk (Kd.R_elder' (by (with_reducible repeat (first | apply Kd.R_alloc | apply Kd.R_drewN | apply Kd.R_drew)); exact HO_5.out) (Kd.R_base ho0) hb); have n1_ := Aside0.mk (Kd.R_elder' (by (with_reducible repeat (first | apply Kd.R_alloc | apply Kd.R_drewN | apply Kd.R_drew)); exact HO_9.out) (Kd.R_base ho0) hb); have n2_ := Aside0.mk (Kd.R_lower (Kd.R_new' (Kd.R_new' ho0 (Kd.R_lt (by (with_reducible repeat (first | apply Kd.R_alloc | apply Kd.R_drewN | apply Kd.R_drew)); exact HO_5.out))) (Kd.R_lt (by (with_reducible repeat (first | apply Kd.R_alloc | apply Kd.R_drewN | apply Kd.R_drew)); exact HO_9.out))) (below_size (by repeat (first | (with_reducible first | exact HB.out | apply below_alloc | apply pw_below_drewN | apply below_drew1) | exact HB.out)))); have n3_ := Aside0.mk (below_step (by repeat (first | (with_reducible first | exact HB.out | apply below_alloc | apply pw_below_drewN | apply below_drew1) | exact HB.out)) hb); clear HO_5; clear HO_9; clear HB; have HO_5 := n0_; have HO_9 := n1_; have HO356 := n2_; have HB := n3_; clear n0_ n1_ n2_ n3_; (try clear hb); (try clear hb2); (try clear hk); (try clear hi); (try clear ho0)))
                                go_roundg k2
                                case measure => have := HK1.out; have := HK2.out; omega
                                case rel => exact ⟨(t353), (wrap64 (x10_2 - 1)), (by first | rfl | (simp; done) | (simp [*]; done)), H', ⟨by have := HK1.out; have := HK2.out; omega⟩, ⟨by (with_reducible repeat (first | apply Kd.R_alloc | apply Kd.R_drewN | apply Kd.R_drew)); exact Kd.R_mono HO_5.out (fun _ hk => hk.2)⟩, ⟨by (with_reducible repeat (first | apply Kd.R_alloc | apply Kd.R_drewN | apply Kd.R_drew)); exact Kd.R_mono HO356.out (fun _ hk => hk.1.2)⟩, ⟨by repeat (first | (with_reducible first | exact HB.out | apply below_alloc | apply pw_below_drewN | apply below_drew1) | exact HB.out)⟩⟩
                              · rw [if_neg c33] at H
                                have c33b0 : (t354 == 0) = false := beq_eq_false_iff_ne.mpr c33
                                have c33b1 : (t354 != 0) = true := bne_iff_ne.mpr c33
                                obtain rfl := Option.some.inj H
                                have p348 : 0 ≤ (x10_2 : Int) := of_decide_eq_true (by first | (with_reducible assumption) | assumption)
                                have q348 : x10_2 < (l1.length : Int) := of_decide_eq_true (by first | (with_reducible assumption) | assumption)
                                obtain ⟨ad348, e348, hx348_0, hx348_1, hx348_2⟩ := at_T43 HR1.out x10_2 p348 q348
                                cases e348
                                replace hx348_0 := (HB.out.cell (World.block_lt_of_cell? w _ hx348_0)).trans hx348_0
                                replace hx348_1 := (HB.out.cell (World.block_lt_of_cell? w _ hx348_1)).trans hx348_1
                                replace hx348_2 := (HB.out.cell (World.block_lt_of_cell? w _ hx348_2)).trans hx348_2
                                replace p348 := eq_true p348
                                replace q348 := eq_true q348
                                have q37 : ((wrap64 (x10_2 + 1)) : Int) ≤ ((l1.length : Int) : Int) := of_decide_eq_true (by first | (with_reducible assumption) | assumption)
                                obtain ⟨i037, hi037, _, hsz37, _⟩ := info_parts info43
                                have hroom37 : l1.length ≤ c1 := HC1.out
                                have hC37 : Kd.C k43 _ (some ad348) l1.length l1 := HR1.out
                                have ql37 : (x10_2 : Int) ≤ ((wrap64 (x10_2 + 1)) : Int) := of_decide_eq_true (by first | (with_reducible assumption) | assumption)
                                have q037 : (0 : Int) ≤ (x10_2 : Int) := of_decide_eq_true (by first | (with_reducible assumption) | assumption)
                                have hcut37 := cut_mid (P := Tryd.prog) 38 43 .i64 .i64 Tryd.underlying38 hi037 3 hsz37 (some ad348) l1.length c1 x10_2 (wrap64 (x10_2 + 1)) q037 ql37 q37 hroom37
                                have hr37 := Kd.C_mid (lo := (x10_2 : Int).toNat) (hi := ((wrap64 (x10_2 + 1)) : Int).toNat) (c := c1) hC37 (by omega) (by omega) hroom37
                                obtain ⟨A37, hA37⟩ : ∃ A1, A1 = (if c1 = (x10_2 : Int).toNat then (some ad348) else ((some ad348) : Option Addr).map (·.add ((x10_2 : Int).toNat * 3))) := ⟨_, rfl⟩
                                obtain ⟨c37, hc37⟩ : ∃ cz_, cz_ = c1 - (x10_2 : Int).toNat := ⟨_, rfl⟩
                                have hy37 : y349.length = ((wrap64 (x10_2 + 1)) : Int).toNat - (x10_2 : Int).toNat := (by rw [Ny349.out, List.length_drop, List.length_take] <;> omega)
                                rw [show ((l1).take ((wrap64 (x10_2 + 1)) : Int).toNat).drop (x10_2 : Int).toNat = y349 from Ny349.out.symm] at hr37
                                replace hr37 : Kd.C k43 _ A37 y349.length y349 := (by rw [hA37]; exact hr37)
                                rw [← hy37, ← hA37, ← hc37] at hcut37
                                have HR352 := Aside0.mk hr37
                                have HC352 := Aside0.mk (show y349.length ≤ c37 from by rw [hy37, hc37]; exact Nat.sub_le_sub_right (Nat.le_trans (by omega) hroom37) _)
                                clear hr37 hC37 hroom37 hi037 hsz37 hc37
                                have KY37 := Aside0.mk hy37
                                have KA37 := Aside0.mk hA37
                                clear hy37 hA37
                                replace q37 := eq_true q37
                                obtain ⟨Ao38, co38, eo38⟩ := Kd.R_slice HO_9.out
                                subst eo38
                                go_wp2_with (first | ((with_reducible refine gate_callee (f := 27) rfl ?_); refine goesL_ (some 74) rfl rfl Tryd.func27 (by kernel_rfl) rfl #[.slice Ao38 x9_2.length co38, .slice A37 y349.length c37] rfl (by (try simp only [List.map_toArray, List.map_cons, List.map_nil]); first | done | rfl | (simp only [List.length_drop, List.length_take]; rfl)) ?_; (with_reducible refine (diag_Carry.calls k2 _ _ x9_2 _ _ y349 t353 t354 _ ?side1 ?side2 ?side3 ?side4 A32.out).mono ?_); (case side1 => repeat (first | exact (Kd.R_reads' HO_9.out).2.2 | (with_reducible refine Kd.C_alloc ?_ _) | (with_reducible refine Kd.C_drewN ?_ _) | (with_reducible refine Kd.C_drew ?_))); (case side2 => exact (Kd.R_reads' HO_9.out).2.1); (case side3 => repeat (first | exact (Kd.C_below HR352.out HB.out) | (with_reducible refine Kd.C_alloc ?_ _) | (with_reducible refine Kd.C_drewN ?_ _) | (with_reducible refine Kd.C_drew ?_))); (case side4 => exact HC352.out); rintro e w39 ⟨v355, rfl, ho0, hb⟩; refine ⟨_, rfl, ?_⟩; have n0_ := Aside0.mk (Kd.R_elder' (by (with_reducible repeat (first | apply Kd.R_alloc | apply Kd.R_drewN | apply Kd.R_drew)); exact HO_5.out) (Kd.R_base ho0) hb); have n1_ := Aside0.mk (Kd.R_elder' (by (with_reducible repeat (first | apply Kd.R_alloc | apply Kd.R_drewN | apply Kd.R_drew)); exact HO_9.out) (Kd.R_base ho0) hb); have n2_ := Aside0.mk (Kd.R_lower (Kd.R_new' (Kd.R_new' ho0 (Kd.R_lt (by (with_reducible repeat (first | apply Kd.R_alloc | apply Kd.R_drewN | apply Kd.R_drew)); exact HO_5.out))) (Kd.R_lt (by (with_reducible repeat (first | apply Kd.R_alloc | apply Kd.R_drewN | apply Kd.R_drew)); exact HO_9.out))) (below_size (by repeat (first | (with_reducible first | exact HB.out | apply below_alloc | apply pw_below_drewN | apply below_drew1) | exact HB.out)))); have n3_ := Aside0.mk (below_step (by repeat (first | (with_reducible first | exact HB.out | apply below_alloc | apply pw_below_drewN | apply below_drew1) | exact HB.out)) hb); clear HO_5; clear HO_9; clear HB; have HO_5 := n0_; have HO_9 := n1_; have HO356 := n2_; have HB := n3_; clear n0_ n1_ n2_ n3_; (try clear hb); (try clear hb2); (try clear hk); (try clear hi); (try clear ho0)))
                                go_ret
                                exact ⟨by first | rfl | (simp [errW_none, errW_some] <;> rfl) | (simp [*, errW_none, errW_some] <;> rfl), by repeat (first | (with_reducible first | exact HB.out | apply below_alloc | apply pw_below_drewN | apply below_drew1) | exact HB.out)⟩
                            · rw [if_neg c31] at H
                              exact absurd H (by simp)
                          · rw [if_neg c30] at H
                            exact absurd H (by simp)
                      · rw [if_neg c27] at H
                        exact absurd H (by simp)
                    · rw [if_neg c26] at H
                      exact absurd H (by simp)
                  · rw [if_neg c25] at H
                    have c25b0 : decide (0 ≤ x10_2) = false := decide_eq_false c25
                    clear c25
                    replace H := Option.bind_eq_some_iff.mp H
                    obtain ⟨t347, A400, H⟩ := H
                    replace H : (some t347) = some r := H
                    have A40 := Aside0.mk A400
                    clear A400
                    obtain rfl := Option.some.inj H
                    obtain ⟨Ao41, co41, eo41⟩ := Kd.R_slice HO_9.out
                    subst eo41
                    obtain ⟨Ao42, co42, eo42⟩ := Kd.R_slice HO_5.out
                    subst eo42
                    go_wp2_with (first | ((with_reducible refine gate_callee (f := 23) rfl ?_); refine goesL_ (some 82) rfl rfl Tryd.func23 (by kernel_rfl) rfl #[.slice Ao41 x9_2.length co41, .slice Ao42 t338.length co42] rfl (by (try simp only [List.map_toArray, List.map_cons, List.map_nil]); first | done | rfl | (simp only [List.length_drop, List.length_take]; rfl)) ?_; (with_reducible refine (scholiastlaw20_same.calls k2 _ _ x9_2 _ _ t338 t347 _ ?side1 ?side2 ?side3 ?side4 A40.out).mono ?_); (case side1 => repeat (first | exact (Kd.R_reads' HO_9.out).2.2 | (with_reducible refine Kd.C_alloc ?_ _) | (with_reducible refine Kd.C_drewN ?_ _) | (with_reducible refine Kd.C_drew ?_))); (case side2 => exact (Kd.R_reads' HO_9.out).2.1); (case side3 => repeat (first | exact (Kd.R_reads' HO_5.out).2.2 | (with_reducible refine Kd.C_alloc ?_ _) | (with_reducible refine Kd.C_drewN ?_ _) | (with_reducible refine Kd.C_drew ?_))); (case side4 => exact (Kd.R_reads' HO_5.out).2.1); rintro e w' ⟨rfl, ⟨nd, rfl⟩⟩; refine ⟨_, rfl, ?_⟩))
                    go_ret
                    exact ⟨by first | rfl | (simp [errW_none, errW_some] <;> rfl) | (simp [*, errW_none, errW_some] <;> rfl), by repeat (first | (with_reducible first | exact HB.out | apply below_alloc | apply pw_below_drewN | apply below_drew1) | exact HB.out)⟩
            · rw [if_neg c23] at H
              exact absurd H (by simp)
    · rw [if_neg c6] at H
      have c6b0 : (t339 == 0) = false := beq_eq_false_iff_ne.mpr c6
      have c6b1 : (t339 != 0) = true := bne_iff_ne.mpr c6
      by_cases c43 : t339 = 10
      · rw [if_pos c43] at H
        have c43b0 : (t339 == 10) = true := beq_iff_eq.mpr c43
        have c43b1 : (t339 != 10) = false := bne_eq_false_iff_eq.mpr c43
        clear c43
        obtain rfl := Option.some.inj H
        go_enter Tryd.func8, Tryd.ntmps8
        go_wp2_with (first | ((with_reducible refine gate_callee (f := 15) rfl ?_); refine goesL_ (some 13) rfl rfl Tryd.func15 (by kernel_rfl) rfl #[] rfl (by (try simp only [List.map_toArray, List.map_cons, List.map_nil]); first | done | rfl | (simp only [List.length_drop, List.length_take]; rfl)) ?_; (with_reducible refine (scholiastlaw20_shown.calls k  true _ (GlobP.below HGL.out (by repeat (first | (with_reducible first | exact HB.out | apply below_alloc | apply pw_below_drewN | apply below_drew1) | exact HB.out))) A3.out).mono ?_); rintro e w44 ⟨rfl, hb⟩; refine ⟨_, rfl, ?_⟩; have n0_ := Aside0.mk (below_step (by repeat (first | (with_reducible first | exact HB.out | apply below_alloc | apply pw_below_drewN | apply below_drew1) | exact HB.out)) hb); clear HB; have HB := n0_; clear n0_; (try clear hb); (try clear hb2); (try clear hk); (try clear hi)) | ((with_reducible refine gate_callee (f := 27) rfl ?_); refine goesL_ (some 18) rfl rfl Tryd.func27 (by kernel_rfl) rfl #[.slice A0 l0.length c0, .slice A1 l1.length c1] rfl (by (try simp only [List.map_toArray, List.map_cons, List.map_nil]); first | done | rfl | (simp only [List.length_drop, List.length_take]; rfl)) ?_; (with_reducible refine (diag_Carry.calls k _ _ l0 _ _ l1 t338 t339 _ ?side1 ?side2 ?side3 ?side4 A5.out).mono ?_); (case side1 => repeat (first | exact (Kd.C_below HR0.out HB.out) | (with_reducible refine Kd.C_alloc ?_ _) | (with_reducible refine Kd.C_drewN ?_ _) | (with_reducible refine Kd.C_drew ?_))); (case side2 => exact HC0.out); (case side3 => repeat (first | exact (Kd.C_below HR1.out HB.out) | (with_reducible refine Kd.C_alloc ?_ _) | (with_reducible refine Kd.C_drewN ?_ _) | (with_reducible refine Kd.C_drew ?_))); (case side4 => exact HC1.out); rintro e w45 ⟨v340, rfl, ho0, hb⟩; refine ⟨_, rfl, ?_⟩; have n0_ := Aside0.mk (Kd.R_lower ho0 (below_size (by repeat (first | (with_reducible first | exact HB.out | apply below_alloc | apply pw_below_drewN | apply below_drew1) | exact HB.out)))); have n1_ := Aside0.mk (below_step (by repeat (first | (with_reducible first | exact HB.out | apply below_alloc | apply pw_below_drewN | apply below_drew1) | exact HB.out)) hb); clear HB; have HO341 := n0_; have HB := n1_; clear n0_ n1_; (try clear hb); (try clear hb2); (try clear hk); (try clear hi); (try clear ho0); obtain ⟨Ao46, co46, eo46⟩ := Kd.R_slice HO341.out; subst eo46))
        go_ret
        exact ⟨by first | rfl | (simp [errW_none, errW_some] <;> rfl) | (simp [*, errW_none, errW_some] <;> rfl), by repeat (first | (with_reducible first | exact HB.out | apply below_alloc | apply pw_below_drewN | apply below_drew1) | exact HB.out)⟩
      · rw [if_neg c43] at H
        have c43b0 : (t339 == 10) = false := beq_eq_false_iff_ne.mpr c43
        have c43b1 : (t339 != 10) = true := bne_iff_ne.mpr c43
        obtain rfl := Option.some.inj H
        go_enter Tryd.func8, Tryd.ntmps8
        go_wp2_with (first | ((with_reducible refine gate_callee (f := 15) rfl ?_); refine goesL_ (some 13) rfl rfl Tryd.func15 (by kernel_rfl) rfl #[] rfl (by (try simp only [List.map_toArray, List.map_cons, List.map_nil]); first | done | rfl | (simp only [List.length_drop, List.length_take]; rfl)) ?_; (with_reducible refine (scholiastlaw20_shown.calls k  true _ (GlobP.below HGL.out (by repeat (first | (with_reducible first | exact HB.out | apply below_alloc | apply pw_below_drewN | apply below_drew1) | exact HB.out))) A3.out).mono ?_); rintro e w47 ⟨rfl, hb⟩; refine ⟨_, rfl, ?_⟩; have n0_ := Aside0.mk (below_step (by repeat (first | (with_reducible first | exact HB.out | apply below_alloc | apply pw_below_drewN | apply below_drew1) | exact HB.out)) hb); clear HB; have HB := n0_; clear n0_; (try clear hb); (try clear hb2); (try clear hk); (try clear hi)) | ((with_reducible refine gate_callee (f := 27) rfl ?_); refine goesL_ (some 18) rfl rfl Tryd.func27 (by kernel_rfl) rfl #[.slice A0 l0.length c0, .slice A1 l1.length c1] rfl (by (try simp only [List.map_toArray, List.map_cons, List.map_nil]); first | done | rfl | (simp only [List.length_drop, List.length_take]; rfl)) ?_; (with_reducible refine (diag_Carry.calls k _ _ l0 _ _ l1 t338 t339 _ ?side1 ?side2 ?side3 ?side4 A5.out).mono ?_); (case side1 => repeat (first | exact (Kd.C_below HR0.out HB.out) | (with_reducible refine Kd.C_alloc ?_ _) | (with_reducible refine Kd.C_drewN ?_ _) | (with_reducible refine Kd.C_drew ?_))); (case side2 => exact HC0.out); (case side3 => repeat (first | exact (Kd.C_below HR1.out HB.out) | (with_reducible refine Kd.C_alloc ?_ _) | (with_reducible refine Kd.C_drewN ?_ _) | (with_reducible refine Kd.C_drew ?_))); (case side4 => exact HC1.out); rintro e w48 ⟨v340, rfl, ho0, hb⟩; refine ⟨_, rfl, ?_⟩; have n0_ := Aside0.mk (Kd.R_lower ho0 (below_size (by repeat (first | (with_reducible first | exact HB.out | apply below_alloc | apply pw_below_drewN | apply below_drew1) | exact HB.out)))); have n1_ := Aside0.mk (below_step (by repeat (first | (with_reducible first | exact HB.out | apply below_alloc | apply pw_below_drewN | apply below_drew1) | exact HB.out)) hb); clear HB; have HO341 := n0_; have HB := n1_; clear n0_ n1_; (try clear hb); (try clear hb2); (try clear hk); (try clear hi); (try clear ho0)))
        go_ret
        exact ⟨by first | rfl | (simp [errW_none, errW_some] <;> rfl) | (simp [*, errW_none, errW_some] <;> rfl), by repeat (first | (with_reducible first | exact HB.out | apply below_alloc | apply pw_below_drewN | apply below_drew1) | exact HB.out)⟩
  · replace c4 := Bool.eq_false_iff.mpr c4
    subst c4
    have H1 : (some false) = some r := by rw [if_neg (show ¬ (false = true) by decide)] at H; exact H
    clear H
    have H := H1
    clear H1
    obtain rfl := Option.some.inj H
    go_enter Tryd.func8, Tryd.ntmps8
    go_wp2_with (first | ((with_reducible refine gate_callee (f := 15) rfl ?_); refine goesL_ (some 13) rfl rfl Tryd.func15 (by kernel_rfl) rfl #[] rfl (by (try simp only [List.map_toArray, List.map_cons, List.map_nil]); first | done | rfl | (simp only [List.length_drop, List.length_take]; rfl)) ?_; (with_reducible refine (scholiastlaw20_shown.calls k  false _ (GlobP.below HGL.out (by repeat (first | (with_reducible first | exact HB.out | apply below_alloc | apply pw_below_drewN | apply below_drew1) | exact HB.out))) A3.out).mono ?_); rintro e w49 ⟨rfl, hb⟩; refine ⟨_, rfl, ?_⟩; have n0_ := Aside0.mk (below_step (by repeat (first | (with_reducible first | exact HB.out | apply below_alloc | apply pw_below_drewN | apply below_drew1) | exact HB.out)) hb); clear HB; have HB := n0_; clear n0_; (try clear hb); (try clear hb2); (try clear hk); (try clear hi)))
    go_ret
    exact ⟨by first | rfl | (simp [errW_none, errW_some] <;> rfl) | (simp [*, errW_none, errW_some] <;> rfl), by repeat (first | (with_reducible first | exact HB.out | apply below_alloc | apply pw_below_drewN | apply below_drew1) | exact HB.out)⟩

end Go.Proofs.YtcbimnmpdpkefaaDoor.A
