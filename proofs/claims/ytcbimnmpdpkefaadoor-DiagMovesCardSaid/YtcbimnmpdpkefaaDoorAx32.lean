/- Printed by a changed copy of the kit's print.py for all laws of the seat at once (one namespace): functions and their contracts; some parts by hand. -/
import Derived.Test.YtcbimnmpdpkefaaDoorAx0
namespace Go.Proofs.YtcbimnmpdpkefaaDoor.A
open Go.RowKit Go.Proofs.YtcbimnmpdpkefaaDoorW.PrintWords Go.Proofs.YtcbimnmpdpkefaaDoorW.PrintLast Go.Proofs.YtcbimnmpdpkefaaDoorW.PrintMore
attribute [local go_sem] max2_int min2_int max_two min_two max_three min_three max_four min_four   -- for this text's walks alone
set_option linter.unusedVariables false
set_option linter.unusedSimpArgs false

/-! ### scholiastlaw20_marked: function 25 -/
def scholiastlaw20_marked.l0 : Nat → List (S36) → Int → Int → Option (Unit)
  | 0, _, _, _ => none
  | k + 1, x0, x4, x5 => if x5 < x4 then (if 0 ≤ x5 then (if x5 < (x0.length : Int) then (scholiastlaw20_marked.l0 k (x0.set (x5 : Int).toNat (⟨(-7), 0, 0⟩ : S36)) x4 (wrap64 (x5 + 1))) else (none)) else (none)) else ((some (([(⟨(-8), 0, 0⟩ : S36), (⟨(-8), 0, 0⟩ : S36)] : List (S36)) : List (S36))).bind fun y230 => (if x0.length + y230.length < 5864062014805 then (if 0 < ((x0 ++ y230).length : Int) then (some ()) else (none)) else (none)))
def scholiastlaw20_marked.f (k : Nat) (l0 : List (S36)) : Option (Unit) := scholiastlaw20_marked.l0 k l0 (l0.length : Int) 0
theorem scholiastlaw20_marked.mono_l : ∀ k, (∀ y0 y1 y2, LeO (scholiastlaw20_marked.l0 k y0 y1 y2) (scholiastlaw20_marked.l0 (k + 1) y0 y1 y2))
  | 0 => fun _ _ _ r h => by simp [scholiastlaw20_marked.l0] at h
  | k + 1 => by
    have ih0 := scholiastlaw20_marked.mono_l k
    · intro y0 y1 y2
      unfold scholiastlaw20_marked.l0
      repeat' first
      | (with_reducible exact ih0 _ _ _)
      | (with_reducible exact LeO.refl _)
      | (with_reducible exact LeO.none _)
      | (with_reducible refine LeO.ite ?_ ?_)
      | (with_reducible refine LeO.bind ?_ (fun _ => ?_))
      | exact ih0 _ _ _
      | exact LeO.none _
      | refine LeO.ite ?_ ?_
      | refine LeO.bind ?_ (fun _ => ?_)
theorem scholiastlaw20_marked.mono : ∀ a0 k, LeO (scholiastlaw20_marked.f k a0) (scholiastlaw20_marked.f (k + 1) a0) := by
  intro a0 k
  have ih0 := scholiastlaw20_marked.mono_l k
  unfold scholiastlaw20_marked.f
  repeat' first
      | (with_reducible exact ih0 _ _ _)
      | (with_reducible exact LeO.refl _)
      | (with_reducible exact LeO.none _)
      | (with_reducible refine LeO.ite ?_ ?_)
      | (with_reducible refine LeO.bind ?_ (fun _ => ?_))
      | exact ih0 _ _ _
      | exact LeO.none _
      | refine LeO.ite ?_ ?_
      | refine LeO.bind ?_ (fun _ => ?_)
set_option maxHeartbeats 8000000 in
set_option maxRecDepth 100000 in
theorem scholiastlaw20_marked.calls (k : Nat) (P0_ : Nat → Prop) (u9000_ : Value) (l0 : List (S36)) (w0 w : World) (hB : Below w0.heap.size w0 w) (ho0 : Kd.R k36 36 w w0.heap.size P0_ u9000_ l0) (h : scholiastlaw20_marked.f k l0 = some ()) :
    Calls Tryd.prog 25 #[u9000_] w fun e w' => e = .returned (.tuple #[]) ∧ Below w0.heap.size w0 w' ∧ Kept w w' (fun k_ => P0_ k_) := by
  have hu36 := Tryd.underlying36
  have HO0 := Aside0.mk (show Kd.R k36 36 w w0.heap.size (fun k_ => (P0_ k_ ∨ w.heap.size ≤ k_)) u9000_ l0 from Kd.R_mono ho0 (fun k_ hk => (.inl hk)))
  have HK := Aside0.mk (Kept.refl w (fun k_ => P0_ k_))
  have HW0 := Aside0.mk hB.size
  have HB := Aside0.mk hB
  clear hB
  have H : (scholiastlaw20_marked.l0 k l0 (l0.length : Int) 0) = some () := h
  clear h
  have H' := Aside0.mk H
  clear H
  obtain ⟨Ao2, co2, eo2⟩ := Kd.R_slice HO0.out
  subst eo2
  go_enter Tryd.func25, Tryd.ntmps25
  go_wp2
  go_loopg [5] k (fun kq v5 w' => ∃ (x0_1 : List (S36)) (x5_1 : Int), v5 = .int .i64 x5_1 ∧ Aside0 (scholiastlaw20_marked.l0 kq x0_1 (l0.length : Int) x5_1 = some ()) ∧ Aside0 (kq ≤ k) ∧ Aside0 (Kd.R k36 36 w' w0.heap.size (fun k_ => (P0_ k_ ∨ w.heap.size ≤ k_)) (.slice Ao2 l0.length co2) x0_1) ∧ Aside0 (Kept w w' (fun k_ => P0_ k_)) ∧ Aside0 (Below w0.heap.size w0 w'))
  case atStart => exact ⟨(l0), (0), (by first | rfl | (simp; done) | (simp [*]; done)), H', ⟨Nat.le_refl _⟩, ⟨by (with_reducible repeat (first | apply Kd.R_alloc | apply Kd.R_drewN | apply Kd.R_drew)); exact HO0.out⟩, ⟨by repeat (first | (with_reducible first | exact HK.out | apply Kept.alloc | apply Kept.drewN | apply Kept.drew) | exact HK.out)⟩, ⟨by repeat (first | (with_reducible first | exact HB.out | apply below_alloc | apply pw_below_drewN | apply below_drew1) | exact HB.out)⟩⟩
  case round =>
    clear H'
    try clear c2
    try clear p2
    obtain ⟨x0_1, x5_1, rfl, HA, HK1, HO_0, HK, HB⟩ := hrel
    have hl0_1 := (Kd.R_reads' HO_0.out).1
    rw [hl0_1] at HO_0
    (try simp only [hl0_1])
    cases gk with
    | zero => exact absurd HA.out (by simp [scholiastlaw20_marked.l0])
    | succ k1 =>
      have H := HA.out
      clear HA
      simp only [scholiastlaw20_marked.l0] at H
      by_cases c3 : x5_1 < (l0.length : Int)
      · rw [if_pos c3] at H
        have c3b0 : decide (x5_1 < (l0.length : Int)) = true := decide_eq_true c3
        clear c3
        by_cases c4 : 0 ≤ x5_1
        · rw [if_pos c4] at H
          have c4b0 : decide (0 ≤ x5_1) = true := decide_eq_true c4
          clear c4
          by_cases c5 : x5_1 < (x0_1.length : Int)
          · rw [if_pos c5] at H
            have c5b0 : decide (x5_1 < (x0_1.length : Int)) = true := decide_eq_true c5
            clear c5
            obtain ⟨y229, hy229⟩ : ∃ y_ : List (S36), y_ = (x0_1.set (x5_1 : Int).toNat (⟨(-7), 0, 0⟩ : S36)) := ⟨_, rfl⟩
            replace H : (scholiastlaw20_marked.l0 k1 y229 (l0.length : Int) (wrap64 (x5_1 + 1))) = some () := by first | (rw [hy229]; with_reducible exact H) | (have H2_ := (Option.bind_some _ _).symm.trans H; rw [hy229]; with_reducible exact H2_) | (have H2_ := (Option.bind_some _ _).symm.trans H; with_reducible exact H2_) | with_reducible exact H | (rw [hy229]; exact H) | exact H
            have Ny229 := Aside0.mk hy229
            clear hy229
            have H' := Aside0.mk H
            clear H
            have p6 : 0 ≤ (x5_1 : Int) := of_decide_eq_true (by first | (with_reducible assumption) | assumption)
            have q6 : (x5_1 : Int) < ((x0_1.length : Int) : Int) := of_decide_eq_true (by first | (with_reducible assumption) | assumption)
            obtain ⟨go6, co6, eo6, gb6, gl6, cl6, HG6⟩ := Kd.R_form HO_0.out (by omega)
            (first | cases eo6 | (injection eo6 with ea_ en_ ec_; (first | subst ea_ | (injection ea_ with ea_; subst ea_)); subst ec_; clear en_))
            have GB6 := Aside0.mk gb6
            have GG6 := Aside0.mk HG6
            clear gb6 gl6 HG6
            have HMgo6 := Aside0.mk (show (P0_ go6 ∨ w.heap.size ≤ go6) from (HO_0.out.1 _ rfl))
            obtain ⟨ce6, hcl6, hM6, hcc6, hfr6⟩ := Kd.R_elem HO_0.out z36 (x5_1 : Int) p6 q6
            obtain rfl := k36_openM hM6
            have hx6_0 : wr.cell? ⟨go6, (x5_1 : Int).toNat * 3, none⟩ = some (.int .i64 ((rd_T36 x0_1 x5_1).f0)) := hcc6 0 _ rfl
            have hx6_1 : wr.cell? ⟨go6, (x5_1 : Int).toNat * 3 + 1, none⟩ = some (.int .i64 ((rd_T36 x0_1 x5_1).f1)) := hcc6 1 _ rfl
            have hx6_2 : wr.cell? ⟨go6, (x5_1 : Int).toNat * 3 + 2, none⟩ = some (.int .i64 ((rd_T36 x0_1 x5_1).f2)) := hcc6 2 _ rfl
            have hf6_0 : wr.frozen? ⟨go6, (x5_1 : Int).toNat * 3, none⟩ = false := hfr6 0
            have hf6_1 : wr.frozen? ⟨go6, (x5_1 : Int).toNat * 3 + 1, none⟩ = false := hfr6 1
            have hf6_2 : wr.frozen? ⟨go6, (x5_1 : Int).toNat * 3 + 2, none⟩ = false := hfr6 2
            clear hcl6 hcc6 hfr6 hM6
            replace p6 := eq_true p6
            replace q6 := eq_true q6
            have HX7 := Aside0.mk (show Kd.R k36 36 wr w0.heap.size (fun k_ => (P0_ k_ ∨ w.heap.size ≤ k_)) (.slice (some ⟨go6, 0, none⟩) x0_1.length co2) x0_1 from (by (with_reducible repeat (first | apply Kd.R_alloc | apply Kd.R_drewN | apply Kd.R_drew)); exact HO_0.out))
            obtain ⟨ce7, hcl7, hM7, hcc7, hfr7⟩ := Kd.R_elem HX7.out z36 (x5_1 : Int) (of_decide_eq_true (by first | (with_reducible assumption) | assumption)) (by have h_ : (x5_1 : Int) < ((x0_1.length : Int) : Int) := of_decide_eq_true (by first | (with_reducible assumption) | assumption); first | exact h_ | (have e_ := (Kd.R_reads' HO_0.out).1; omega) | simpa using h_)
            obtain rfl := k36_openM hM7
            have HP7 := Kd.R_seg HX7.out (x5_1 : Int) (of_decide_eq_true (by first | (with_reducible assumption) | assumption)) (by have h_ : (x5_1 : Int) < ((x0_1.length : Int) : Int) := of_decide_eq_true (by first | (with_reducible assumption) | assumption); first | exact h_ | (have e_ := (Kd.R_reads' HO_0.out).1; omega) | simpa using h_) (seg := [.int .i64 (-7), .int .i64 0, .int .i64 0]) (j := 0) hcl7 hcc7 (show 3 ≤ 3 from by decide) (x' := (⟨(-7), 0, 0⟩ : S36)) (k36_mkM _ _ _ (⟨(-7), 0, 0⟩ : S36) ) (fun _ hk => hk)
            have hx7_0 := hcc7 0 _ rfl
            (try simp only [show (k36).sz = 3 from rfl, Nat.mul_one, Nat.add_zero] at hx7_0)
            have hf7_0 := hfr7 0
            (try simp only [show (k36).sz = 3 from rfl, Nat.mul_one, Nat.add_zero] at hf7_0)
            have hx7_1 := hcc7 1 _ rfl
            (try simp only [show (k36).sz = 3 from rfl, Nat.mul_one, Nat.add_zero] at hx7_1)
            have hf7_1 := hfr7 1
            (try simp only [show (k36).sz = 3 from rfl, Nat.mul_one, Nat.add_zero] at hf7_1)
            have hx7_2 := hcc7 2 _ rfl
            (try simp only [show (k36).sz = 3 from rfl, Nat.mul_one, Nat.add_zero] at hx7_2)
            have hf7_2 := hfr7 2
            (try simp only [show (k36).sz = 3 from rfl, Nat.mul_one, Nat.add_zero] at hf7_2)
            clear hcl7 hcc7 hfr7 hM7
            go_wp2_with (first | ((with_reducible refine gate_store (t := 36) (p := 11) rfl ?_); refine store_event (t := 36) (p := 11) (v := ?vo_w8) (w1 := (((wr.setCell ⟨go6, (x5_1 : Int).toNat * 3, none⟩ (.int .i64 (-7))).setCell ⟨go6, (x5_1 : Int).toNat * 3 + 1, none⟩ (.int .i64 0)).setCell ⟨go6, (x5_1 : Int).toNat * 3 + 2, none⟩ (.int .i64 0))) ?hg ?ho ?hn ?hr ?_; (case ho => rfl); (case hg => rfl); (case hn => rfl); (case hr => first | (go_simp; done) | (go_simp; rfl)); intro w8 hw; have hg : wr.grownBy w8 (some go6) := (by rw [hw]; exact HP7.2); have hp_ : Kd.R k36 36 w8 w0.heap.size (fun k_ => (P0_ k_ ∨ w.heap.size ≤ k_)) (.slice (some ⟨go6, 0, none⟩) x0_1.length co2) y229 := (by rw [hw, Ny229.out]; exact HP7.1); clear HP7; have n0_ := Aside0.mk (hp_); have n1_ := Aside0.mk ((by rw [hw]; exact below_set (below_set (below_set (HB.out) GB6.out) GB6.out) GB6.out : Below w0.heap.size w0 w8)); have n2_ := Aside0.mk (Kept.of_grown (S := (fun k_ => P0_ k_)) hg (by repeat (first | (with_reducible first | exact HK.out | apply Kept.alloc | apply Kept.drewN | apply Kept.drew) | exact HK.out)) (fun k_ e_ => (HO_0.out.1 k_ e_))); clear HO_0; clear HB; clear HK; have HO_0 := n0_; have HB := n1_; have HK := n2_; clear n0_ n1_ n2_; clear hg hw hp_))
            (try simp only [← hl0_1])
            go_roundg k1
            case measure => have := HK1.out; omega
            case rel => exact ⟨(y229), (wrap64 (x5_1 + 1)), (by first | rfl | (simp; done) | (simp [*]; done)), H', ⟨by have := HK1.out; omega⟩, ⟨by (try simp only [hl0_1]); (with_reducible repeat (first | apply Kd.R_alloc | apply Kd.R_drewN | apply Kd.R_drew)); exact HO_0.out⟩, ⟨by repeat (first | (with_reducible first | exact HK.out | apply Kept.alloc | apply Kept.drewN | apply Kept.drew) | exact HK.out)⟩, ⟨by repeat (first | (with_reducible first | exact HB.out | apply below_alloc | apply pw_below_drewN | apply below_drew1) | exact HB.out)⟩⟩
          · rw [if_neg c5] at H
            exact absurd H (by simp)
        · rw [if_neg c4] at H
          exact absurd H (by simp)
      · rw [if_neg c3] at H
        have c3b0 : decide (x5_1 < (l0.length : Int)) = false := decide_eq_false c3
        have c3b9 := c3b0
        rw [hl0_1] at c3b9
        clear c3
        obtain ⟨y230, hy230⟩ : ∃ y_ : List (S36), y_ = (([(⟨(-8), 0, 0⟩ : S36), (⟨(-8), 0, 0⟩ : S36)] : List (S36))) := ⟨_, rfl⟩
        replace H : (if x0_1.length + y230.length < 5864062014805 then (if 0 < ((x0_1 ++ y230).length : Int) then (some ()) else (none)) else (none)) = some () := by first | (rw [hy230]; with_reducible exact H) | (have H2_ := (Option.bind_some _ _).symm.trans H; rw [hy230]; with_reducible exact H2_) | (have H2_ := (Option.bind_some _ _).symm.trans H; with_reducible exact H2_) | with_reducible exact H | (rw [hy230]; exact H) | exact H
        have Ny230 := Aside0.mk hy230
        clear hy230
        by_cases c9 : x0_1.length + y230.length < 5864062014805
        · rw [if_pos c9] at H
          have LMc9 := Aside0.mk c9
          clear c9
          obtain ⟨y233, hy233⟩ : ∃ y_ : List (S36), y_ = (x0_1 ++ y230) := ⟨_, rfl⟩
          replace H : (if 0 < (y233.length : Int) then (some ()) else (none)) = some () := by first | (rw [hy233]; with_reducible exact H) | (have H2_ := (Option.bind_some _ _).symm.trans H; rw [hy233]; with_reducible exact H2_) | (have H2_ := (Option.bind_some _ _).symm.trans H; with_reducible exact H2_) | with_reducible exact H | (rw [hy233]; exact H) | exact H
          have Ny233 := Aside0.mk hy233
          clear hy233
          by_cases c10 : 0 < (y233.length : Int)
          · rw [if_pos c10] at H
            have c10b0 : decide (0 < (y233.length : Int)) = true := decide_eq_true c10
            have c10b1 : decide (0 < y233.length) = true := decide_eq_true (by omega)
            clear c10
            obtain ⟨y236, hy236⟩ : ∃ y_ : List (S36), y_ = (y233.set (0 : Int).toNat (⟨(rd_T36 y233 0).f0, 1, (rd_T36 y233 0).f2⟩ : S36)) := ⟨_, rfl⟩
            replace H : (some ()) = some () := by first | (rw [hy236]; with_reducible exact H) | (have H2_ := (Option.bind_some _ _).symm.trans H; rw [hy236]; with_reducible exact H2_) | (have H2_ := (Option.bind_some _ _).symm.trans H; with_reducible exact H2_) | with_reducible exact H | (rw [hy236]; exact H) | exact H
            have Ny236 := Aside0.mk hy236
            clear hy236
            go_wp2_with (first | ((with_reducible refine gate_dst (N := 16) rfl ?_); refine Kd.R_lit k36 _ 36 ?hg (N := 16) ?hd (xs := ([(⟨(-8), 0, 0⟩ : S36), (⟨(-8), 0, 0⟩ : S36)] : List (S36))) (inner := [.int .i64 (-8), .int .i64 0, .int .i64 0, .int .i64 (-8), .int .i64 0, .int .i64 0]) (ok := fun _ => True) (okp := fun _ => True) ?hr ?hp (fun _ hk => hk) trivial (Below.refl _ _) (Nat.le_refl _) (by simp) ?_; (case hd => rfl); (case hg => rfl); (case hr => first | (go_simp; done) | (go_simp; rfl)); (case hp => exact (Reps.c3 (show Kd.M k36 _ _ _ (⟨(-8), 0, 0⟩ : S36) [.int .i64 (-8), .int .i64 0, .int .i64 0] from (k36_mkM _ _ _ (⟨(-8), 0, 0⟩ : S36) )) (Reps.c3 (show Kd.M k36 _ _ _ (⟨(-8), 0, 0⟩ : S36) [.int .i64 (-8), .int .i64 0, .int .i64 0] from (k36_mkM _ _ _ (⟨(-8), 0, 0⟩ : S36) )) (Reps.none _ _)))); intro v231 w12 ho13 hb hg_ hnew_; clear hg_ hnew_; (first | rw [← Ny230.out] at ho13 | (simp only [Int.reduceToNat] at ho13; rw [← Ny230.out] at ho13)); have n0_ := Aside0.mk (Kd.R_elder' (by (with_reducible repeat (first | apply Kd.R_alloc | apply Kd.R_drewN | apply Kd.R_drew)); exact HO_0.out) (Kd.R_base ho13) hb); have n1_ := Aside0.mk (Kd.R_lower (Kd.R_new' (Kd.R_newM (M := fun k_ => (P0_ k_ ∨ w.heap.size ≤ k_)) ho13 (by first | exact HK.out.1 | exact (show Kept w _ (fun k_ => P0_ k_) from by repeat (first | (with_reducible first | exact HK.out | apply Kept.alloc | apply Kept.drewN | apply Kept.drew) | exact HK.out)).1) (fun k_ h_ => .inr h_)) (Kd.R_lt (by (with_reducible repeat (first | apply Kd.R_alloc | apply Kd.R_drewN | apply Kd.R_drew)); exact HO_0.out))) (below_size (by repeat (first | (with_reducible first | exact HB.out | apply below_alloc | apply pw_below_drewN | apply below_drew1) | exact HB.out)))); have n2_ := Aside0.mk (Kept.below (S := (fun k_ => P0_ k_)) (by repeat (first | (with_reducible first | exact HK.out | apply Kept.alloc | apply Kept.drewN | apply Kept.drew) | exact HK.out)) hb); have n3_ := Aside0.mk (below_step (by repeat (first | (with_reducible first | exact HB.out | apply below_alloc | apply pw_below_drewN | apply below_drew1) | exact HB.out)) hb); clear HO_0; clear HK; clear HB; have HO_0 := n0_; have HO232 := n1_; have HK := n2_; have HB := n3_; clear n0_ n1_ n2_ n3_; clear hb ho13; obtain ⟨Ao15, co15, eo15⟩ := Kd.R_slice HO232.out; subst eo15) | ((with_reducible refine gate_builtin (b := .append) (xs := #[.tmp 13, .tmp 16]) rfl ?_); at_builtin; refine Kd.R_append_rows k36 (w0 := w0) w0.heap.size rfl (.tmp 13) (.tmp 16) 23 36 (.agg #[(.int .i64 0), (.int .i64 0), (.int .i64 0)]) 24 rfl Tryd.underlying23 info36 rfl (by decide) (by omega) (.slice Ao2 x0_1.length co2) x0_1 y230 _ _ _ (fun k_ => (P0_ k_ ∨ w.heap.size ≤ k_) ∧ some k_ ≠ (.slice Ao15 y230.length co15 : Value).ownBlock) (fun _ => False) rfl rfl ?aO ?aR (fun _ _ h => h) (fun _ h => h.elim) ?aF ?aB ?aS ?aL ?_; (case aR => repeat (first | exact (Kd.R_reads' HO232.out).2.2 | (with_reducible refine Kd.C_alloc ?_ _) | (with_reducible refine Kd.C_drewN ?_ _) | (with_reducible refine Kd.C_drew ?_))); (case aB => exact (by repeat (first | (with_reducible first | exact HB.out | apply below_alloc | apply pw_below_drewN | apply below_drew1) | exact HB.out))); (case aF => exact (fun k_ hk => ⟨(.inr (Nat.le_trans (by first | exact HK.out.1 | exact (show Kept w _ (fun k_ => P0_ k_) from by repeat (first | (with_reducible first | exact HK.out | apply Kept.alloc | apply Kept.drewN | apply Kept.drew) | exact HK.out)).1) hk)), Kd.fresh' (Kd.R_lt (by (with_reducible repeat (first | apply Kd.R_alloc | apply Kd.R_drewN | apply Kd.R_drew)); exact HO232.out)) k_ hk⟩)); (case aO => exact (by (with_reducible repeat (first | apply Kd.R_alloc | apply Kd.R_drewN | apply Kd.R_drew)); exact HO_0.out)); (case aS => exact (below_size (by repeat (first | (with_reducible first | exact HB.out | apply below_alloc | apply pw_below_drewN | apply below_drew1) | exact HB.out)))); (case aL => have := LMc9.out; omega); intro v234 w14 ho hb hg hat; rw [← Ny233.out] at ho; have n0_ := Aside0.mk (Kd.R_after (ok := (fun k_ => (P0_ k_ ∨ w.heap.size ≤ k_))) (by (with_reducible repeat (first | apply Kd.R_alloc | apply Kd.R_drewN | apply Kd.R_drew)); exact Kd.R_mono HO232.out (fun _ hk => ⟨hk.1.1, hk.2⟩)) hg hat); have n1_ := Aside0.mk (hb); have n2_ := Aside0.mk (Kept.of_grown (S := (fun k_ => P0_ k_)) hg (by repeat (first | (with_reducible first | exact HK.out | apply Kept.alloc | apply Kept.drewN | apply Kept.drew) | exact HK.out)) (fun k_ e_ => (HO_0.out.1 k_ e_).1)); have n3_ := Aside0.mk (ho); clear HO232; clear HB; clear HK; clear HO_0; have HO232 := n0_; have HB := n1_; have HK := n2_; have HO235 := n3_; clear n0_ n1_ n2_ n3_; clear ho hb hg hat; have p11 : 0 ≤ (0 : Int) := (by omega); have q11 : (0 : Int) < ((y233.length : Int) : Int) := of_decide_eq_true (by first | (with_reducible assumption) | assumption); have qi11 : (0 < y233.length) = True := eq_true (by omega); obtain ⟨go11, co11, eo11, gb11, gl11, cl11, HG11⟩ := Kd.R_form HO235.out (by omega); (first | cases eo11 | (injection eo11 with ea_ en_ ec_; (first | subst ea_ | (injection ea_ with ea_; subst ea_)); subst ec_; clear en_)); have GB11 := Aside0.mk gb11; have GG11 := Aside0.mk HG11; clear gb11 gl11 HG11; have HMgo11 := Aside0.mk (show (P0_ go11 ∨ w.heap.size ≤ go11) from (HO235.out.1 _ rfl).1); obtain ⟨ce11, hcl11, hM11, hcc11, hfr11⟩ := Kd.R_elem HO235.out z36 (0 : Int) p11 q11; obtain rfl := k36_openM hM11; have hx11_0 : w14.cell? ⟨go11, (0 : Int).toNat * 3, none⟩ = some (.int .i64 ((rd_T36 y233 0).f0)) := hcc11 0 _ rfl; have hx11_1 : w14.cell? ⟨go11, (0 : Int).toNat * 3 + 1, none⟩ = some (.int .i64 ((rd_T36 y233 0).f1)) := hcc11 1 _ rfl; have hx11_2 : w14.cell? ⟨go11, (0 : Int).toNat * 3 + 2, none⟩ = some (.int .i64 ((rd_T36 y233 0).f2)) := hcc11 2 _ rfl; have hf11_0 : w14.frozen? ⟨go11, (0 : Int).toNat * 3, none⟩ = false := hfr11 0; have hf11_1 : w14.frozen? ⟨go11, (0 : Int).toNat * 3 + 1, none⟩ = false := hfr11 1; have hf11_2 : w14.frozen? ⟨go11, (0 : Int).toNat * 3 + 2, none⟩ = false := hfr11 2; clear hcl11 hcc11 hfr11 hM11; (try rw [show ((0 : Int)).toNat = 0 from rfl] at hx11_0); (try simp only [Nat.reduceMul, Nat.zero_mul, Nat.zero_add, Nat.reduceAdd] at hx11_0); (try rw [show ((0 : Int)).toNat = 0 from rfl] at hf11_0); (try simp only [Nat.reduceMul, Nat.zero_mul, Nat.zero_add, Nat.reduceAdd] at hf11_0); (try rw [show ((0 : Int)).toNat = 0 from rfl] at hx11_1); (try simp only [Nat.reduceMul, Nat.zero_mul, Nat.zero_add, Nat.reduceAdd] at hx11_1); (try rw [show ((0 : Int)).toNat = 0 from rfl] at hf11_1); (try simp only [Nat.reduceMul, Nat.zero_mul, Nat.zero_add, Nat.reduceAdd] at hf11_1); (try rw [show ((0 : Int)).toNat = 0 from rfl] at hx11_2); (try simp only [Nat.reduceMul, Nat.zero_mul, Nat.zero_add, Nat.reduceAdd] at hx11_2); (try rw [show ((0 : Int)).toNat = 0 from rfl] at hf11_2); (try simp only [Nat.reduceMul, Nat.zero_mul, Nat.zero_add, Nat.reduceAdd] at hf11_2); replace p11 := eq_true p11; replace q11 := eq_true q11; have HX16 := Aside0.mk (show Kd.R k36 36 w14 w0.heap.size (fun k_ => (P0_ k_ ∨ w.heap.size ≤ k_) ∧ some k_ ≠ (.slice Ao15 y230.length co15 : Value).ownBlock) (.slice (some ⟨go11, 0, none⟩) y233.length co11) y233 from (by (with_reducible repeat (first | apply Kd.R_alloc | apply Kd.R_drewN | apply Kd.R_drew)); exact HO235.out)); obtain ⟨ce16, hcl16, hM16, hcc16, hfr16⟩ := Kd.R_elem HX16.out z36 (0 : Int) (by omega) (by have h_ : (0 : Int) < ((y233.length : Int) : Int) := of_decide_eq_true (by first | (with_reducible assumption) | assumption); first | exact h_ | (have e_ := (Kd.R_reads' HO235.out).1; omega) | simpa using h_); obtain rfl := k36_openM hM16; have HP16 := Kd.R_seg HX16.out (0 : Int) (by omega) (by have h_ : (0 : Int) < ((y233.length : Int) : Int) := of_decide_eq_true (by first | (with_reducible assumption) | assumption); first | exact h_ | (have e_ := (Kd.R_reads' HO235.out).1; omega) | simpa using h_) (seg := [.int .i64 1]) (j := 1) hcl16 hcc16 (show 2 ≤ 3 from by decide) (x' := (⟨(rd_T36 y233 0).f0, 1, (rd_T36 y233 0).f2⟩ : S36)) (k36_mkM _ _ _ (⟨(rd_T36 y233 0).f0, 1, (rd_T36 y233 0).f2⟩ : S36) ) (fun _ hk => hk); have hx16_1 := hcc16 1 _ rfl; (try simp only [show (k36).sz = 3 from rfl, Nat.mul_one, Nat.add_zero] at hx16_1); (try rw [show ((0 : Int)).toNat = 0 from rfl] at hx16_1); (try simp only [Nat.reduceMul, Nat.zero_mul, Nat.zero_add, Nat.reduceAdd] at hx16_1); have hf16_1 := hfr16 1; (try simp only [show (k36).sz = 3 from rfl, Nat.mul_one, Nat.add_zero] at hf16_1); (try rw [show ((0 : Int)).toNat = 0 from rfl] at hf16_1); (try simp only [Nat.reduceMul, Nat.zero_mul, Nat.zero_add, Nat.reduceAdd] at hf16_1); clear hcl16 hcc16 hfr16 hM16) | ((with_reducible refine gate_store (t := 3) (p := 20) rfl ?_); refine store_event (t := 3) (p := 20) (v := ?vo_w17) (w1 := (w14.setCell ⟨go11, 1, none⟩ (.int .i64 1))) ?hg ?ho ?hn ?hr ?_; (case ho => rfl); (case hg => rfl); (case hn => rfl); (case hr => first | (go_simp; done) | (go_simp; rfl)); intro w17 hw; have hg : w14.grownBy w17 (some go11) := (by rw [hw]; exact HP16.2); have hp_ : Kd.R k36 36 w17 w0.heap.size (fun k_ => (P0_ k_ ∨ w.heap.size ≤ k_) ∧ some k_ ≠ (.slice Ao15 y230.length co15 : Value).ownBlock) (.slice (some ⟨go11, 0, none⟩) y233.length co11) y236 := (by rw [hw, Ny236.out]; exact HP16.1); clear HP16; have n0_ := Aside0.mk (Kd.R_after (v := (.slice (some ⟨go11, 0, none⟩) y233.length co11)) (v1 := (.slice (some ⟨go11, 0, none⟩) y233.length co11)) (ok := (fun k_ => (P0_ k_ ∨ w.heap.size ≤ k_))) (by (with_reducible repeat (first | apply Kd.R_alloc | apply Kd.R_drewN | apply Kd.R_drew)); exact HO232.out) hg (.inl rfl)); have n1_ := Aside0.mk (hp_); have n2_ := Aside0.mk ((by rw [hw]; exact below_set (HB.out) GB11.out : Below w0.heap.size w0 w17)); have n3_ := Aside0.mk (Kept.of_grown (S := (fun k_ => P0_ k_)) hg (by repeat (first | (with_reducible first | exact HK.out | apply Kept.alloc | apply Kept.drewN | apply Kept.drew) | exact HK.out)) (fun k_ e_ => (HO235.out.1 k_ e_).1)); clear HO232; clear HO235; clear HB; clear HK; have HO232 := n0_; have HO235 := n1_; have HB := n2_; have HK := n3_; clear n0_ n1_ n2_ n3_; clear hg hw hp_))
            first | go_end0 | ((try simp only [Exit.inBlock, Exit.then]); refine bodyPost_ret (results_none rfl _ _ _) rfl ?_)
            exact ⟨by first | rfl | (simp [errW_none, errW_some] <;> rfl) | (simp [*, errW_none, errW_some] <;> rfl), by repeat (first | (with_reducible first | exact HB.out | apply below_alloc | apply pw_below_drewN | apply below_drew1) | exact HB.out), by repeat (first | (with_reducible first | exact HK.out | apply Kept.alloc | apply Kept.drewN | apply Kept.drew) | exact HK.out)⟩
          · rw [if_neg c10] at H
            exact absurd H (by simp)
        · rw [if_neg c9] at H
          exact absurd H (by simp)

end Go.Proofs.YtcbimnmpdpkefaaDoor.A
