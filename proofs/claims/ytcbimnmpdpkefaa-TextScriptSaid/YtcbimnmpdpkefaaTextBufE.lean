/- text.Buffer: length, lines, a line, a piece. -/
import Derived.Test.YtcbimnmpdpkefaaTextBufD
import Derived.Deep.LoopGhost
set_option linter.unusedVariables false
set_option linter.unusedSimpArgs false
namespace Go.Proofs.YtcbimnmpdpkefaaTB
open Go.RowKit Go.Proofs.YtcbimnmpdpkefaaW.PrintWords Go.Proofs.YtcbimnmpdpkefaaW.PrintLast Go.Proofs.YtcbimnmpdpkefaaW.PrintMore

set_option maxHeartbeats 1000000 in
theorem len_ (w : World) (F : Nat → Prop) (b : Nat) (s : ByteArray) (hT : TB w F b s) :
    Calls Try.prog 31 #[.pointer (some ⟨b, 0, none⟩)] w fun e w' => e = .returned (.int .i64 (s.size : Int)) ∧ w' = w := by
  have h1 := hT.cells
  go_enter Try.func31, Try.ntmps31
  go_wp2
  go_ret
  exact ⟨rfl, rfl⟩
set_option maxHeartbeats 1000000 in
theorem lines_ (w : World) (F : Nat → Prop) (b : Nat) (s : ByteArray) (hT : TB w F b s) :
    Calls Try.prog 13 #[.pointer (some ⟨b, 0, none⟩)] w fun e w' => e = .returned (.int .i64 ((st s).length : Int)) ∧ ∃ F1, TB w' F1 b s ∧ Moved w w' F F1 := by
  have hst := starts w F b s hT
  go_enter Try.func13, Try.ntmps13
  go_wp2_with (go_at_call 24; refine hst.mono ?_; rintro e w1 ⟨v, F1, rfl, hR1, hT1, hM1⟩; obtain ⟨A1, n1, rfl⟩ := Kd.R_slice hR1)
  go_ret
  exact ⟨rfl, F1, hT1, hM1⟩
/-- A part of a text. -/
def sub (s : ByteArray) (lo hi : Int) : ByteArray := ⟨(((bys s).take hi.toNat).drop lo.toNat).toArray⟩
theorem bys_sub (s : ByteArray) (lo hi : Int) : bys (sub s lo hi) = ((bys s).take hi.toNat).drop lo.toNat := by simp [bys, sub]
def pcs (s : ByteArray) (lo hi : Int) : ByteArray × Int := if lo < 0 ∨ hi < lo ∨ hi > (s.size : Int) then (⟨#[]⟩, 10) else (sub s lo hi, 0)
set_option maxHeartbeats 1000000 in
set_option maxRecDepth 100000 in
theorem piece (w : World) (F : Nat → Prop) (b : Nat) (s : ByteArray) (lo hi : Int) (hT : TB w F b s) :
    Calls Try.prog 12 #[.pointer (some ⟨b, 0, none⟩), .int .i64 lo, .int .i64 hi] w fun e w' => e = .returned (.tuple #[.string (pcs s lo hi).1, .int .i64 (pcs s lo hi).2]) ∧ Below w.heap.size w w' := by
  have h1 := hT.cells
  have hsm := hT.small
  unfold pcs
  by_cases c1 : lo < 0
  · rw [if_pos (.inl c1)]
    have c1b := decide_eq_true c1
    go_enter Try.func12, Try.ntmps12
    go_wp2
    go_ret2
    exact ⟨rfl, Below.refl _ _⟩
  · have c1b := decide_eq_false c1
    by_cases c2 : hi < lo
    · rw [if_pos (.inr (.inl c2))]
      have c2b := decide_eq_true c2
      go_enter Try.func12, Try.ntmps12
      go_wp2
      go_ret2
      exact ⟨rfl, Below.refl _ _⟩
    · have c2b := decide_eq_false c2
      by_cases c3 : hi > (s.size : Int)
      · rw [if_pos (.inr (.inr c3))]
        have c3b := decide_eq_true c3
        go_enter Try.func12, Try.ntmps12
        go_wp2
        go_ret2
        exact ⟨rfl, Below.refl _ _⟩
      · have c3b := decide_eq_false c3
        rw [if_neg (by omega)]
        have hcut := cut w F b s lo hi hT (by omega) (by omega) (by omega) (by omega)
        have HCUT := Aside0.mk hcut
        clear hcut
        go_enter Try.func12, Try.ntmps12
        go_wp2_with (first
          | (go_at_call 22; refine HCUT.out.mono ?_; rintro e w1 ⟨v, rfl, out, hR, hB, hc, hl, _⟩; have HR := Aside0.mk hR; have HB := Aside0.mk hB; have HC := Aside0.mk hc; have HL := Aside0.mk hl; clear hR hB hc hl)
          | (go_at_call 23; refine (join out v _ _ w1 HR.out (by have := HL.out; omega) (by rw [HC.out, List.length_drop, List.length_take, bys_length]; omega)).mono ?_; rintro e w2 ⟨rfl, hB2⟩; have HB2 := Aside0.mk hB2; clear hB2))
        go_ret2
        exact ⟨by rw [show cat out = sub s lo hi from bys_inj (by rw [bys_cat, bys_sub]; exact HC.out)]; rfl, below_then HB.out HB.out.size HB2.out⟩
/-- Where line n begins and ends. -/
def lin (s : ByteArray) (n : Int) : Int × Int × Int :=
  if n < 0 ∨ n ≥ ((st s).length : Int) then (0, 0, 10) else (rd (st s) n, if n + 1 < ((st s).length : Int) then rd (st s) (n + 1) - 1 else (s.size : Int), 0)
theorem mv_kept {w w1 : World} {F F1 : Nat → Prop} (h : Moved w w1 F F1) (hlt : ∀ k, F k → k < w.heap.size) {b : Nat} {o : Obj} (hb : w.heap[b]? = some o) (hn : ¬ F b) : w1.heap[b]? = some o := by
  obtain ⟨⟨row, hr, hg⟩, _⟩ := h
  exact blk_kept hg hb (fun e => hn (hr b e.symm))
theorem mv_set {w0 w w1 : World} {F F1 : Nat → Prop} {b : Nat} {s : ByteArray} (h : Moved w w1 F F1) (hT : TB w1 F1 b s) (h0 : Below w0.heap.size w0 w) (hF : ∀ k, F k → k < w0.heap.size) {g : Nat} (hg : w0.heap.size ≤ g) (hgl : g < w.heap.size) {W : World} (hW : w1.grownBy W (some g)) : TB W F1 b s ∧ Moved w0 W F F1 := by
  have hne : ∀ k, F1 k → k ≠ g := fun k hk e => by
    subst e
    rcases h.foot k hk with h1 | h1
    · have := hF k h1; omega
    · omega
  refine ⟨hT.grown hW (fun k hk e => hne k hk (by injection e)), ?_, fun k hk => ?_⟩
  · obtain ⟨⟨row, hr, hgr⟩, _⟩ := h
    refine ⟨row, hr, ⟨hW.os.trans (hgr.os.trans h0.os), hW.tape.trans (hgr.tape.trans h0.tape), hW.output.trans (hgr.output.trans h0.output), Nat.le_trans h0.size (Nat.le_trans hgr.size hW.size), fun k hk hn => ?_⟩⟩
    have h1 := h0.size
    rw [hW.block k (by have := hgr.size; omega) (fun e => by injection e with e; omega), hgr.block k (by omega) hn, h0.block k hk]
  · rcases h.foot k hk with h1 | h1
    · exact .inl h1
    · right; have := h0.size; omega

set_option maxHeartbeats 2000000 in
set_option maxRecDepth 100000 in
theorem line_ (w : World) (F : Nat → Prop) (b : Nat) (s : ByteArray) (n : Int) (hT : TB w F b s) (hn : -9223372036854775808 ≤ n ∧ n ≤ 9223372036854775807) :
    Calls Try.prog 14 #[.pointer (some ⟨b, 0, none⟩), .int .i64 n] w fun e w' => e = .returned (.tuple #[.agg #[.int .i64 (lin s n).1, .int .i64 (lin s n).2.1], .int .i64 (lin s n).2.2]) ∧ ∃ F1, TB w' F1 b s ∧ Moved w w' F F1 := by
  have hba : Below w.heap.size w (w.alloc (.cells #[.int .i64 0, .int .i64 0] 40)) := below_alloc (Below.refl _ _) _
  have hst := starts (w.alloc (.cells #[.int .i64 0, .int .i64 0] 40)) F b s (hT.below hba)
  have hfr : ¬ F w.heap.size := fun h => by have := hT.lt _ h; omega
  have HST := Aside0.mk hst
  have hlen := st_length s
  have hsm := hT.small
  unfold lin
  clear hst
  by_cases c1 : n < 0
  · rw [if_pos (.inl c1)]
    have c1b := decide_eq_true c1
    go_enter Try.func14, Try.ntmps14
    go_wp2_with (go_at_call 24; refine HST.out.mono ?_; rintro e w1 ⟨v, F1, rfl, hR1, hT1, hM1⟩; have HR1 := Aside0.mk hR1; have HT1 := Aside0.mk hT1; have HM1 := Aside0.mk hM1; have hbx := mv_kept hM1 (hT.below hba).lt (blk_new w (.cells #[.int .i64 0, .int .i64 0] 40 (0, 0))) hfr; have HBX := Aside0.mk hbx; have hx0 : w1.cell? ⟨w.heap.size, 0, none⟩ = some (.int .i64 0) := cells_of hbx 0 _ rfl; have hx1 : w1.cell? ⟨w.heap.size, 1, none⟩ = some (.int .i64 0) := cells_of hbx 1 _ rfl; have hf0 := blk_frozen hbx 0; have hf1 := blk_frozen hbx 1; clear hR1 hT1 hM1 hbx; obtain ⟨A1, n1, rfl⟩ := Kd.R_slice HR1.out)
    have hq := blk_put (blk_put HBX.out 0 (.int .i64 (0)) rfl) 1 (.int .i64 (0)) rfl
    have hm := mv_set HM1.out HT1.out hba (fun k hk => hT.lt k hk) (Nat.le_refl _) (by simp) (grown_set (grown_set (World.grownBy.refl w1 (some w.heap.size)) 0 (.int .i64 (0))) 1 (.int .i64 (0)))
    refine bodyPost_ret (results_ct rfl _ _ w.heap.size 40 #[.int .i64 (0), .int .i64 (0)] (0, 0) _ rfl hq Try.underlying40 rfl (by kernel_rfl)) rfl ?_
    exact ⟨rfl, F1, hm.1, hm.2⟩
  · have c1b := decide_eq_false c1
    by_cases c2 : n ≥ ((st s).length : Int)
    · rw [if_pos (.inr c2)]
      have c2b := decide_eq_true c2
      go_enter Try.func14, Try.ntmps14
      go_wp2_with (go_at_call 24; refine HST.out.mono ?_; rintro e w1 ⟨v, F1, rfl, hR1, hT1, hM1⟩; have HR1 := Aside0.mk hR1; have HT1 := Aside0.mk hT1; have HM1 := Aside0.mk hM1; have hbx := mv_kept hM1 (hT.below hba).lt (blk_new w (.cells #[.int .i64 0, .int .i64 0] 40 (0, 0))) hfr; have HBX := Aside0.mk hbx; have hx0 : w1.cell? ⟨w.heap.size, 0, none⟩ = some (.int .i64 0) := cells_of hbx 0 _ rfl; have hx1 : w1.cell? ⟨w.heap.size, 1, none⟩ = some (.int .i64 0) := cells_of hbx 1 _ rfl; have hf0 := blk_frozen hbx 0; have hf1 := blk_frozen hbx 1; clear hR1 hT1 hM1 hbx; obtain ⟨A1, n1, rfl⟩ := Kd.R_slice HR1.out)
      have hq := blk_put (blk_put HBX.out 0 (.int .i64 (0)) rfl) 1 (.int .i64 (0)) rfl
      have hm := mv_set HM1.out HT1.out hba (fun k hk => hT.lt k hk) (Nat.le_refl _) (by simp) (grown_set (grown_set (World.grownBy.refl w1 (some w.heap.size)) 0 (.int .i64 (0))) 1 (.int .i64 (0)))
      refine bodyPost_ret (results_ct rfl _ _ w.heap.size 40 #[.int .i64 (0), .int .i64 (0)] (0, 0) _ rfl hq Try.underlying40 rfl (by kernel_rfl)) rfl ?_
      exact ⟨rfl, F1, hm.1, hm.2⟩
    · have c2b := decide_eq_false c2
      rw [if_neg (by omega)]
      go_enter Try.func14, Try.ntmps14
      go_wp2_with (go_at_call 24; refine HST.out.mono ?_; rintro e w1 ⟨v, F1, rfl, hR1, hT1, hM1⟩; have HR1 := Aside0.mk hR1; have HT1 := Aside0.mk hT1; have HM1 := Aside0.mk hM1; have hbx := mv_kept hM1 (hT.below hba).lt (blk_new w (.cells #[.int .i64 0, .int .i64 0] 40 (0, 0))) hfr; have HBX := Aside0.mk hbx; have hx0 : w1.cell? ⟨w.heap.size, 0, none⟩ = some (.int .i64 0) := cells_of hbx 0 _ rfl; have hx1 : w1.cell? ⟨w.heap.size, 1, none⟩ = some (.int .i64 0) := cells_of hbx 1 _ rfl; have hf0 := blk_frozen hbx 0; have hf1 := blk_frozen hbx 1; clear hR1 hT1 hM1 hbx; obtain ⟨A1, n1, rfl⟩ := Kd.R_slice HR1.out)
      have hC1 : Kd.C (Kd.int .i64) w1 A1 (st s).length (st s) := by obtain ⟨_, _, e_, _, h_⟩ := Kd.R_reads HR1.out; cases e_; exact h_
      obtain ⟨ad, ead, hx⟩ := at_I hC1 n (by omega) (by omega)
      subst ead
      have hszc := HT1.out.cells
      have p1 := eq_true (show 0 ≤ n by omega)
      have q1 := eq_true (show n < ((st s).length : Int) by omega)
      have HC1 := Aside0.mk hC1
      clear hC1
      generalize hx0 : rd (st s) n = x0 at hx ⊢
      have HX0 := Aside0.mk hx0
      clear hx0
      have hbA : Below w1.heap.size w1 (w1.alloc (.cells #[.int .i64 0, .int .i64 0] 40)) := below_alloc (Below.refl _ _) _
      refine wp_region_held_drew (S := fun W' => W'.cell? (ad.add n.toNat) = some (.int .i64 x0) ∧ W'.cell? ⟨b, 1, none⟩ = some (.int .i64 (s.size : Int))) (by kernel_rfl) ?_ (fun hHeld => ?_)
      · exact ⟨hx, hszc⟩
      refine wpAnyH_take (i := 0) (v := ?_) rfl (by kernel_rfl) (by kernel_rfl) (by kernel_rfl) (fun _ _ _ h => h) (Or.inl ⟨by rfl, ?_⟩) (by assumption) ?_
      rotate_left
      · intro w hSw; (try dsimp only at hSw); go_simp <;> with_reducible rfl
      try simp only [Act.put, List.getElem_toArray, List.getElem_cons_succ, List.getElem_cons_zero, List.setIfInBounds_toArray, List.set_cons_zero, List.set_cons_succ]
      refine wpAnyH_take (i := 1) (v := ?_) rfl (by kernel_rfl) (by kernel_rfl) (by kernel_rfl) (fun _ _ _ h => h) (Or.inl ⟨by rfl, ?_⟩) (by assumption) ?_
      rotate_left
      · intro w hSw; (try dsimp only at hSw); go_simp <;> with_reducible rfl
      try simp only [Act.put, List.getElem_toArray, List.getElem_cons_succ, List.getElem_cons_zero, List.setIfInBounds_toArray, List.set_cons_zero, List.set_cons_succ]
      refine wpAnyH_take (i := 2) (v := ?_) rfl (by kernel_rfl) (by kernel_rfl) (by kernel_rfl) (fun _ _ _ h => h) (Or.inl ⟨by rfl, ?_⟩) (by assumption) ?_
      rotate_left
      · intro w hSw; (try dsimp only at hSw); go_simp <;> with_reducible rfl
      try simp only [Act.put, List.getElem_toArray, List.getElem_cons_succ, List.getElem_cons_zero, List.setIfInBounds_toArray, List.set_cons_zero, List.set_cons_succ]
      refine wpAnyH_take (i := 3) (v := ?_) rfl (by kernel_rfl) (by kernel_rfl) (by kernel_rfl) (fun _ _ _ h => h) (Or.inl ⟨by rfl, ?_⟩) (by assumption) ?_
      rotate_left
      · intro w hSw; (try dsimp only at hSw); go_simp <;> with_reducible rfl
      try simp only [Act.put, List.getElem_toArray, List.getElem_cons_succ, List.getElem_cons_zero, List.setIfInBounds_toArray, List.set_cons_zero, List.set_cons_succ]
      refine wpAnyH_take (i := 4) (v := ?_) rfl (by kernel_rfl) (by kernel_rfl) (by kernel_rfl) (fun _ _ _ h => h) (Or.inl ⟨by rfl, ?_⟩) (by assumption) ?_
      rotate_left
      · intro w hSw; (try dsimp only at hSw); go_simp <;> with_reducible rfl
      try simp only [Act.put, List.getElem_toArray, List.getElem_cons_succ, List.getElem_cons_zero, List.setIfInBounds_toArray, List.set_cons_zero, List.set_cons_succ]
      refine wpAnyH_take (i := 5) (v := ?_) rfl (by kernel_rfl) (by kernel_rfl) (by kernel_rfl) (fun _ _ _ h => h) (Or.inl ⟨by rfl, ?_⟩) (by assumption) ?_
      rotate_left
      · intro w hSw; (try dsimp only at hSw); go_simp <;> with_reducible rfl
      try simp only [Act.put, List.getElem_toArray, List.getElem_cons_succ, List.getElem_cons_zero, List.setIfInBounds_toArray, List.set_cons_zero, List.set_cons_succ]
      refine wpAnyH_take (i := 6) (v := ?_) rfl (by kernel_rfl) (by kernel_rfl) (by kernel_rfl) (fun _ _ _ h => h) (Or.inl ⟨by rfl, ?_⟩) (by assumption) ?_
      rotate_left
      · intro w hSw; (try dsimp only at hSw); go_simp <;> with_reducible rfl
      try simp only [Act.put, List.getElem_toArray, List.getElem_cons_succ, List.getElem_cons_zero, List.setIfInBounds_toArray, List.set_cons_zero, List.set_cons_succ]
      refine wpAnyH_take (i := 7) (v := ?_) rfl (by kernel_rfl) (by kernel_rfl) (by kernel_rfl) (fun _ _ _ h => h) (Or.inl ⟨by rfl, ?_⟩) (by assumption) ?_
      rotate_left
      · intro w hSw; (try dsimp only at hSw); go_simp <;> with_reducible rfl
      try simp only [Act.put, List.getElem_toArray, List.getElem_cons_succ, List.getElem_cons_zero, List.setIfInBounds_toArray, List.set_cons_zero, List.set_cons_succ]
      refine wpAnyH_take (i := 8) (v := ?_) rfl (by kernel_rfl) (by kernel_rfl) (by kernel_rfl) (fun _ _ _ h => h) (Or.inl ⟨by rfl, ?_⟩) (by assumption) ?_
      rotate_left
      · intro w hSw; (try dsimp only at hSw); go_simp <;> with_reducible rfl
      try simp only [Act.put, List.getElem_toArray, List.getElem_cons_succ, List.getElem_cons_zero, List.setIfInBounds_toArray, List.set_cons_zero, List.set_cons_succ]
      refine wpAnyH_ready (rs := [9]) (by kernel_rfl) (by simp) ?_
      refine AllReadyH.cons rfl (fun K hK => ?_) AllReadyH.nil
      go_simp
      refine hK.out _ _ ?_ (fun hHeld => ?_)
      · exact ⟨pw_cell_below hbA hx, pw_cell_below hbA hszc⟩
      clear hK K
      have hB4 : Below w1.heap.size w1 ((w1.alloc (.cells #[.int .i64 0, .int .i64 0] 40)).drew) := below_drew hbA
      have hk4 : ((w1.alloc (.cells #[.int .i64 0, .int .i64 0] 40)).drew).heap[w1.heap.size]? = some (.cells #[.int .i64 0, .int .i64 0] 40 (0, 0)) := blk_drew (blk_new w1 _)
      change wpAnyH _ _ _ _ _ _ _ _ ((w1.alloc (.cells #[.int .i64 0, .int .i64 0] 40)).drew)
      generalize ((w1.alloc (.cells #[.int .i64 0, .int .i64 0] 40)).drew) = w4 at hB4 hk4 hHeld ⊢
      have hc40 : w4.cell? ⟨w1.heap.size, 0, none⟩ = some (.int .i64 0) := cells_of hk4 0 _ rfl
      have hc41 : w4.cell? ⟨w1.heap.size, 1, none⟩ = some (.int .i64 0) := cells_of hk4 1 _ rfl
      have hf40 := blk_frozen hk4 0
      have hf41 := blk_frozen hk4 1
      have hB5 : Below w1.heap.size w1 ((w4.setCell ⟨w1.heap.size, 0, none⟩ (.int .i64 x0)).setCell ⟨w1.heap.size, 1, none⟩ (.int .i64 (s.size : Int))) := below_set (below_set hB4 (Nat.le_refl _)) (Nat.le_refl _)
      have hk5 : ((w4.setCell ⟨w1.heap.size, 0, none⟩ (.int .i64 x0)).setCell ⟨w1.heap.size, 1, none⟩ (.int .i64 (s.size : Int))).heap[w1.heap.size]? = some (.cells #[.int .i64 x0, .int .i64 (s.size : Int)] 40 (0, 0)) := blk_put (blk_put hk4 0 _ rfl) 1 _ rfl
      refine wpAnyH_ready (rs := [10]) (by kernel_rfl) (by simp) ?_
      refine AllReadyH.cons rfl (fun K hK => ?_) AllReadyH.nil
      go_simp
      refine hK.out _ _ ?_ (fun hHeld => ?_)
      · exact ⟨pw_cell_below hB5 hx, pw_cell_below hB5 hszc⟩
      clear hK K
      refine wpAnyH_done (by kernel_rfl) ?_ _
      clear hHeld hB4 hk4 hc40 hc41 hf40 hf41 hbA
      generalize (w4.setCell ⟨w1.heap.size, 0, none⟩ (.int .i64 x0)).setCell ⟨w1.heap.size, 1, none⟩ (.int .i64 (s.size : Int)) = w5 at hB5 hk5 ⊢
      have hgl : w.heap.size < w1.heap.size := blk_lt HBX.out
      have hbx5 := (hB5.block _ hgl).trans HBX.out
      have k50 : w5.cell? ⟨w1.heap.size, 0, none⟩ = some (.int .i64 x0) := cells_of hk5 0 _ rfl
      have k51 : w5.cell? ⟨w1.heap.size, 1, none⟩ = some (.int .i64 (s.size : Int)) := cells_of hk5 1 _ rfl
      have kf1 := blk_frozen hk5 1
      have b50 : w5.cell? ⟨w.heap.size, 0, none⟩ = some (.int .i64 0) := cells_of hbx5 0 _ rfl
      have b51 : w5.cell? ⟨w.heap.size, 1, none⟩ = some (.int .i64 0) := cells_of hbx5 1 _ rfl
      have bf0 := blk_frozen hbx5 0
      have bf1 := blk_frozen hbx5 1
      by_cases c3 : n + 1 < ((st s).length : Int)
      · have c3b := decide_eq_true c3
        obtain ⟨ad', ead', hx1⟩ := at_I HC1.out (n + 1) (by omega) (by omega)
        obtain rfl : ad = ad' := by injection ead'
        replace hx1 := pw_cell_below hB5 hx1
        have p2 := eq_true (show 0 ≤ n + 1 by omega)
        have hmr := st_mem s (rd (st s) (n + 1)) (by
          unfold rd
          rw [List.getD_eq_getElem?_getD, List.getElem?_eq_getElem (by omega)]
          exact List.getElem_mem _)
        generalize hxe : rd (st s) (n + 1) = x1 at hx1 hmr
        have HXE := Aside0.mk hxe
        clear hxe ead'
        have C3 := Aside0.mk c3
        go_wp2
        have hB6 : Below w1.heap.size w1 (w5.setCell ⟨w1.heap.size, 1, none⟩ (.int .i64 (x1 - 1))) := below_set hB5 (Nat.le_refl _)
        have hq := blk_put (blk_put ((hB6.block _ hgl).trans HBX.out) 0 (.int .i64 x0) rfl) 1 (.int .i64 (x1 - 1)) rfl
        have hm := mv_set HM1.out HT1.out hba (fun k hk => hT.lt k hk) (Nat.le_refl _) (by simp) (grown_set (grown_set (grown_of_below hB6 (some w.heap.size)) 0 (.int .i64 x0)) 1 (.int .i64 (x1 - 1)))
        refine bodyPost_ret (results_ct rfl _ _ w.heap.size 40 #[.int .i64 x0, .int .i64 (x1 - 1)] (0, 0) _ rfl hq Try.underlying40 rfl (by kernel_rfl)) rfl ?_
        exact ⟨by rw [HX0.out, HXE.out]; rfl, F1, hm.1, hm.2⟩
      · have c3b := decide_eq_false c3
        have C3 := Aside0.mk c3
        go_wp2
        have hB6 : Below w1.heap.size w1 w5 := hB5
        have hq := blk_put (blk_put ((hB6.block _ hgl).trans HBX.out) 0 (.int .i64 x0) rfl) 1 (.int .i64 ((s.size : Int))) rfl
        have hm := mv_set HM1.out HT1.out hba (fun k hk => hT.lt k hk) (Nat.le_refl _) (by simp) (grown_set (grown_set (grown_of_below hB6 (some w.heap.size)) 0 (.int .i64 x0)) 1 (.int .i64 ((s.size : Int))))
        refine bodyPost_ret (results_ct rfl _ _ w.heap.size 40 #[.int .i64 x0, .int .i64 ((s.size : Int))] (0, 0) _ rfl hq Try.underlying40 rfl (by kernel_rfl)) rfl ?_
        exact ⟨by rw [HX0.out]; rfl, F1, hm.1, hm.2⟩
end Go.Proofs.YtcbimnmpdpkefaaTB
