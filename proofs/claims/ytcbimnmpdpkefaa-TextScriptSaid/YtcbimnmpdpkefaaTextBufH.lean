/- text.Buffer: At, Clone. -/
import Derived.Test.YtcbimnmpdpkefaaTextRefP
set_option linter.unusedVariables false
set_option linter.unusedSimpArgs false
namespace Go.Proofs.YtcbimnmpdpkefaaTB
open Go.RowKit Go.Proofs.YtcbimnmpdpkefaaW.PrintWords Go.Proofs.YtcbimnmpdpkefaaW.PrintLast Go.Proofs.YtcbimnmpdpkefaaW.PrintMore

set_option maxHeartbeats 2000000 in
set_option maxRecDepth 100000 in
theorem at_ (w : World) (F : Nat → Prop) (b : Nat) (s : ByteArray) (n c : Int) (hT : TB w F b s) (hn : -9223372036854775808 ≤ n ∧ n ≤ 9223372036854775807) (hc : -9223372036854775808 ≤ c ∧ c ≤ 9223372036854775807) :
    Calls Try.prog 29 #[.pointer (some ⟨b, 0, none⟩), .int .i64 n, .int .i64 c] w fun e w' => e = .returned (.tuple #[.int .i64 (atc s n c).1, .int .i64 (atc s n c).2]) ∧ ∃ F1, TB w' F1 b s ∧ Moved w w' F F1 := by
  have hl := line_ w F b s n hT hn
  have hr := lin_range s n
  have hsm := hT.small
  unfold atc
  generalize lin s n = z at *
  obtain ⟨f, t, e⟩ := z
  dsimp only at *
  have HL := Aside0.mk hl
  have hw1 : wrap64 (t - f) = t - f := by unfold wrap64; omega
  clear hl
  by_cases c1 : e = 0
  · subst c1
    rw [if_pos rfl]
    by_cases c2 : c < 0
    · rw [if_pos c2]
      have c2b := decide_eq_true c2
      go_enter Try.func29, Try.ntmps29
      go_wp2_with (go_at_call 14; refine HL.out.mono ?_; rintro e w1 ⟨rfl, F1, hT1, hM1⟩; have HT1 := Aside0.mk hT1; have HM1 := Aside0.mk hM1; clear hT1 hM1)
      repeat (go_quiet (fail); try go_wp2)
      go_ret2
      exact ⟨rfl, F1, HT1.out.below (below_alloc (Below.refl _ _) _), HM1.out.then_below (below_alloc (Below.refl _ _) _)⟩
    · rw [if_neg c2]
      have c2b := decide_eq_false c2
      by_cases c3 : c > t - f
      · rw [if_pos c3]
        have c3b : decide (c > wrap64 (t - f)) = true := by rw [hw1]; exact decide_eq_true c3
        have HW := Aside0.mk hw1
        clear hw1
        go_enter Try.func29, Try.ntmps29
        go_wp2_with (go_at_call 14; refine HL.out.mono ?_; rintro e w1 ⟨rfl, F1, hT1, hM1⟩; have HT1 := Aside0.mk hT1; have HM1 := Aside0.mk hM1; clear hT1 hM1)
        repeat (go_quiet (fail); try go_wp2)
        go_ret2
        exact ⟨rfl, F1, HT1.out.below (below_alloc (Below.refl _ _) _), HM1.out.then_below (below_alloc (Below.refl _ _) _)⟩
      · rw [if_neg c3]
        have c3b : decide (c > wrap64 (t - f)) = false := by rw [hw1]; exact decide_eq_false c3
        have HW := Aside0.mk hw1
        have hw2 : wrap64 (f + c) = f + c := by unfold wrap64; omega
        have HW2 := Aside0.mk hw2
        clear hw1 hw2
        go_enter Try.func29, Try.ntmps29
        go_wp2_with (go_at_call 14; refine HL.out.mono ?_; rintro e w1 ⟨rfl, F1, hT1, hM1⟩; have HT1 := Aside0.mk hT1; have HM1 := Aside0.mk hM1; clear hT1 hM1)
        repeat (go_quiet (fail); try go_wp2)
        go_ret2
        exact ⟨by first | rfl | (rw [HW2.out]), F1, HT1.out.below (below_alloc (Below.refl _ _) _), HM1.out.then_below (below_alloc (Below.refl _ _) _)⟩
  · rw [if_neg c1]
    have c1b := decide_eq_false c1
    have c1c := eq_false c1
    go_enter Try.func29, Try.ntmps29
    go_wp2_with (go_at_call 14; refine HL.out.mono ?_; rintro e w1 ⟨rfl, F1, hT1, hM1⟩; have HT1 := Aside0.mk hT1; have HM1 := Aside0.mk hM1; clear hT1 hM1)
    repeat (go_quiet (fail); try go_wp2)
    go_ret2
    exact ⟨rfl, F1, HT1.out.below (below_alloc (Below.refl _ _) _), HM1.out.then_below (below_alloc (Below.refl _ _) _)⟩

theorem clone_end {w W : World} {s : ByteArray} {ps : List ByteArray} {v : Value} {q : Nat} (hB : Below w.heap.size w W) (hq : W.heap[q]? = some (.cells #[.int .u32 0, .int .i32 0, .int .u32 0, .slice none 0 0] 73 (0, 0))) (hqw : w.heap.size ≤ q)
    (hR : Kd.R Kd.string 9 W w.heap.size (fun k => k ≠ q) v ps) (hc : cat ps = s) (hn : ps.length ≤ 64) (hs : s.size ≤ 16384) :
    TB (W.alloc (.cells #[v, .int .i64 (s.size : Int), .pointer (some ⟨q, 0, none⟩)] 75)) (fun k => w.heap.size ≤ k ∧ k < W.heap.size + 1) W.heap.size s := by
  have hq2 := blk_lt hq
  have hsz := hB.size
  refine ⟨fun k hk => by have := hk.2; simpa using this, hs, ⟨hsz, by omega⟩, q, v, ps, blk_new W (.cells #[v, .int .i64 (s.size : Int), .pointer (some ⟨q, 0, none⟩)] 75 (0, 0)), ⟨hqw, by omega⟩, .inl (blk_alloc hq _), ?_, hc, hn⟩
  refine Kd.R_lower (Kd.R_mono (Kd.R_alloc (Kd.R_bound hR) _) (fun k hk => ?_)) (Nat.zero_le _)
  have h1 := hk.2.1
  have h2 := hk.2.2.1
  exact ⟨⟨h1, by omega⟩, by omega, hk.1⟩
set_option maxHeartbeats 4000000 in
set_option maxRecDepth 100000 in
theorem clone_ (w : World) (F : Nat → Prop) (b : Nat) (s : ByteArray) (hT : TB w F b s) :
    Calls Try.prog 18 #[.pointer (some ⟨b, 0, none⟩)] w fun e w' => ∃ b' F', e = .returned (.pointer (some ⟨b', 0, none⟩)) ∧ TB w' F' b' s ∧ (∀ k, F' k → w.heap.size ≤ k) ∧ Below w.heap.size w w' := by
  obtain ⟨hlt, hsm, hFb, q, v, ps, hb, hFq, hi, hr, hc, hn⟩ := hT
  obtain ⟨A, c, rfl⟩ := Kd.R_slice hr
  have hC : Kd.C Kd.string w A ps.length ps := by obtain ⟨_, _, e, _, h⟩ := Kd.R_reads hr; cases e; exact h
  obtain ⟨k0, k1, _⟩ := cells3 hb
  have HLT := Aside0.mk hlt
  clear hlt hi hr hFq hFb
  go_enter Try.func18, Try.ntmps18
  go_upto_region 1 with (fail)
  refine wp_region_held_drew (S := fun W' => W'.cell? ⟨b, 0, none⟩ = some (.slice A ps.length c) ∧ W'.cell? ⟨b, 1, none⟩ = some (.int .i64 (s.size : Int)) ∧ Kd.C Kd.string W' A ps.length ps) (by kernel_rfl) ?_ (fun hHeld => ?_)
  · exact ⟨k0, k1, Kd.C_drew hC⟩
  refine wpAnyH_take (i := 0) (v := ?_) rfl (by kernel_rfl) (by kernel_rfl) (by kernel_rfl) (fun _ _ _ h => h) (Or.inl ⟨by rfl, ?_⟩) (by assumption) ?_
  rotate_left
  · intro w hSw; (try dsimp only at hSw); obtain ⟨hs0, hs1, hs2⟩ := hSw; go_simp <;> with_reducible rfl
  try simp only [Act.put, List.getElem_toArray, List.getElem_cons_succ, List.getElem_cons_zero, List.setIfInBounds_toArray, List.set_cons_zero, List.set_cons_succ]
  refine wpAnyH_take (i := 1) (v := ?_) rfl (by kernel_rfl) (by kernel_rfl) (by kernel_rfl) (fun _ _ _ h => h) (Or.inl ⟨by rfl, ?_⟩) (by assumption) ?_
  rotate_left
  · intro w hSw; (try dsimp only at hSw); obtain ⟨hs0, hs1, hs2⟩ := hSw; go_simp <;> with_reducible rfl
  try simp only [Act.put, List.getElem_toArray, List.getElem_cons_succ, List.getElem_cons_zero, List.setIfInBounds_toArray, List.set_cons_zero, List.set_cons_succ]
  refine wpAnyH_take (i := 2) (v := ?_) rfl (by kernel_rfl) (by kernel_rfl) (by kernel_rfl) (fun _ _ _ h => h) (Or.inl ⟨by rfl, ?_⟩) (by assumption) ?_
  rotate_left
  · intro w hSw; (try dsimp only at hSw); obtain ⟨hs0, hs1, hs2⟩ := hSw; go_simp <;> with_reducible rfl
  try simp only [Act.put, List.getElem_toArray, List.getElem_cons_succ, List.getElem_cons_zero, List.setIfInBounds_toArray, List.set_cons_zero, List.set_cons_succ]
  refine wpAnyH_take (i := 3) (v := ?_) rfl (by kernel_rfl) (by kernel_rfl) (by kernel_rfl) (fun _ _ _ h => h) (Or.inl ⟨by rfl, ?_⟩) (by assumption) ?_
  rotate_left
  · intro w hSw; (try dsimp only at hSw); obtain ⟨hs0, hs1, hs2⟩ := hSw; go_simp <;> with_reducible rfl
  try simp only [Act.put, List.getElem_toArray, List.getElem_cons_succ, List.getElem_cons_zero, List.setIfInBounds_toArray, List.set_cons_zero, List.set_cons_succ]
  refine wpAnyH_take (i := 5) (v := ?_) rfl (by kernel_rfl) (by kernel_rfl) (by kernel_rfl) (fun _ _ _ h => h) (Or.inl ⟨by rfl, ?_⟩) (by assumption) ?_
  rotate_left
  · intro w hSw; (try dsimp only at hSw); obtain ⟨hs0, hs1, hs2⟩ := hSw; go_simp <;> with_reducible rfl
  try simp only [Act.put, List.getElem_toArray, List.getElem_cons_succ, List.getElem_cons_zero, List.setIfInBounds_toArray, List.set_cons_zero, List.set_cons_succ]
  refine wpAnyH_take (i := 6) (v := ?_) rfl (by kernel_rfl) (by kernel_rfl) (by kernel_rfl) (fun _ _ _ h => h) (Or.inl ⟨by rfl, ?_⟩) (by assumption) ?_
  rotate_left
  · intro w hSw; (try dsimp only at hSw); obtain ⟨hs0, hs1, hs2⟩ := hSw; go_simp <;> with_reducible rfl
  try simp only [Act.put, List.getElem_toArray, List.getElem_cons_succ, List.getElem_cons_zero, List.setIfInBounds_toArray, List.set_cons_zero, List.set_cons_succ]
  refine wpAnyH_take (i := 7) (v := ?_) rfl (by kernel_rfl) (by kernel_rfl) (by kernel_rfl) (fun _ _ _ h => h) (Or.inl ⟨by rfl, ?_⟩) (by assumption) ?_
  rotate_left
  · intro w hSw; (try dsimp only at hSw); obtain ⟨hs0, hs1, hs2⟩ := hSw; go_simp <;> with_reducible rfl
  try simp only [Act.put, List.getElem_toArray, List.getElem_cons_succ, List.getElem_cons_zero, List.setIfInBounds_toArray, List.set_cons_zero, List.set_cons_succ]
  refine wpAnyH_take (i := 8) (v := ?_) rfl (by kernel_rfl) (by kernel_rfl) (by kernel_rfl) (fun _ _ _ h => h) (Or.inl ⟨by rfl, ?_⟩) (by assumption) ?_
  rotate_left
  · intro w hSw; (try dsimp only at hSw); obtain ⟨hs0, hs1, hs2⟩ := hSw; go_simp <;> with_reducible rfl
  try simp only [Act.put, List.getElem_toArray, List.getElem_cons_succ, List.getElem_cons_zero, List.setIfInBounds_toArray, List.set_cons_zero, List.set_cons_succ]
  refine wpAnyH_take (i := 9) (v := ?_) rfl (by kernel_rfl) (by kernel_rfl) (by kernel_rfl) (fun _ _ _ h => h) (Or.inl ⟨by rfl, ?_⟩) (by assumption) ?_
  rotate_left
  · intro w hSw; (try dsimp only at hSw); obtain ⟨hs0, hs1, hs2⟩ := hSw; go_simp <;> with_reducible rfl
  try simp only [Act.put, List.getElem_toArray, List.getElem_cons_succ, List.getElem_cons_zero, List.setIfInBounds_toArray, List.set_cons_zero, List.set_cons_succ]
  refine wpAnyH_ready (rs := [4, 10]) (by kernel_rfl) (by simp) ?_
  refine AllReadyH.cons rfl (fun K hK => ?_) (AllReadyH.cons rfl (fun K hK => ?_) AllReadyH.nil)
  · refine Kd.R_append_rows_step Kd.string (w0 := w.drew) w.drew.heap.size rfl (.const (.slice none 0 0)) (.tmp 6) 57 9 (.string ⟨#[]⟩) 16 rfl Try.underlying57 infoS rfl (by decide) (by omega) (.slice none 0 0) [] ps A ps.length c (fun _ => True) (fun _ => False) rfl rfl (Kd.R_nil _ _ _ _ _) hHeld.2.2 (fun _ _ h => h) (fun _ h => h.elim) (fun _ _ => trivial) (Below.refl _ _) (Nat.le_refl _) (by simp; omega) ?_
    intro v1 w1 ho hb1 hg hat
    rw [List.nil_append] at ho
    obtain ⟨A1, n1, rfl⟩ := Kd.R_slice ho
    refine hK.out _ _ ⟨pw_cell_below hb1 hHeld.1, pw_cell_below hb1 hHeld.2.1, Kd.C_below hHeld.2.2 hb1⟩ (fun hHeld2 => ?_)
    clear hK K
    try simp only [Act.put, List.getElem_toArray, List.getElem_cons_succ, List.getElem_cons_zero, List.setIfInBounds_toArray, List.set_cons_zero, List.set_cons_succ]
    refine wpAnyH_ready (rs := [10]) (by kernel_rfl) (by simp) ?_
    refine AllReadyH.cons rfl (fun K hK => ?_) AllReadyH.nil
    go_simp
    have hbx : Below w1.heap.size w1 (w1.alloc (.cells #[.int .u32 0, .int .i32 0, .int .u32 0, .slice none 0 0] 73)) := below_alloc (Below.refl _ _) _
    refine hK.out _ _ ⟨pw_cell_below hbx hHeld2.1, pw_cell_below hbx hHeld2.2.1, Kd.C_below hHeld2.2.2 hbx⟩ (fun hHeld3 => ?_)
    clear hK K
    try simp only [Act.put, List.getElem_toArray, List.getElem_cons_succ, List.getElem_cons_zero, List.setIfInBounds_toArray, List.set_cons_zero, List.set_cons_succ]
    have hB8 : Below w.heap.size w (w1.alloc (.cells #[.int .u32 0, .int .i32 0, .int .u32 0, .slice none 0 0] 73)) := below_alloc (below_then (below_drew (Below.refl _ _)) (Nat.le_refl _) hb1) _
    have hq8 : (w1.alloc (.cells #[.int .u32 0, .int .i32 0, .int .u32 0, .slice none 0 0] 73)).heap[w1.heap.size]? = some (.cells #[.int .u32 0, .int .i32 0, .int .u32 0, .slice none 0 0] 73 (0, 0)) := blk_new w1 _
    have hR8 : w.heap.size ≤ w1.heap.size ∧ Kd.R Kd.string 9 (w1.alloc (.cells #[.int .u32 0, .int .i32 0, .int .u32 0, .slice none 0 0] 73)) w.heap.size (fun k => k ≠ w1.heap.size) (.slice A1 ps.length n1) ps := ⟨hb1.size, Kd.R_alloc (Kd.R_mono (Kd.R_bound ho) (fun k hk => by have := hk.2.2.1; omega)) _⟩
    have HH := Aside0.mk (And.intro hB8 (And.intro hq8 hR8))
    clear hB8 hq8 hR8 hHeld hHeld2 ho hb1 hg hat hbx
    generalize w1.alloc (.cells #[.int .u32 0, .int .i32 0, .int .u32 0, .slice none 0 0] 73) = w8 at HH hHeld3 ⊢
    generalize w1.heap.size = gq at HH ⊢
    refine wpAnyH_take (i := 11) (v := ?_) rfl (by kernel_rfl) (by kernel_rfl) (by kernel_rfl) (fun _ _ _ h => h) (Or.inl ⟨by rfl, ?_⟩) (by assumption) ?_
    rotate_left
    · intro w hSw; (try dsimp only at hSw); obtain ⟨hs0, hs1, hs2⟩ := hSw; go_simp <;> with_reducible rfl
    try simp only [Act.put, List.getElem_toArray, List.getElem_cons_succ, List.getElem_cons_zero, List.setIfInBounds_toArray, List.set_cons_zero, List.set_cons_succ]
    refine wpAnyH_ready (rs := [12]) (by kernel_rfl) (by simp) ?_
    refine AllReadyH.cons rfl (fun K hK => ?_) AllReadyH.nil
    go_simp
    have hbz : Below w8.heap.size w8 (w8.alloc (.cells #[.slice A1 ps.length n1, .int .i64 (s.size : Int), .pointer (some ⟨gq, 0, none⟩)] 75)) := below_alloc (Below.refl _ _) _
    refine hK.out _ _ ⟨pw_cell_below hbz hHeld3.1, pw_cell_below hbz hHeld3.2.1, Kd.C_below hHeld3.2.2 hbz⟩ (fun hHeld4 => ?_)
    clear hK K
    try simp only [Act.put, List.getElem_toArray, List.getElem_cons_succ, List.getElem_cons_zero, List.setIfInBounds_toArray, List.set_cons_zero, List.set_cons_succ]
    refine wpAnyH_take (i := 13) (v := ?_) rfl (by kernel_rfl) (by kernel_rfl) (by kernel_rfl) (fun _ _ _ h => h) (Or.inl ⟨by rfl, ?_⟩) (by assumption) ?_
    rotate_left
    · intro w hSw; (try dsimp only at hSw); obtain ⟨hs0, hs1, hs2⟩ := hSw; go_simp <;> with_reducible rfl
    try simp only [Act.put, List.getElem_toArray, List.getElem_cons_succ, List.getElem_cons_zero, List.setIfInBounds_toArray, List.set_cons_zero, List.set_cons_succ]
    refine wpAnyH_done (by kernel_rfl) ?_ _
    go_wp2
    go_ret
    exact ⟨w8.heap.size, _, rfl, clone_end HH.out.1 HH.out.2.1 HH.out.2.2.1 HH.out.2.2.2 hc hn hsm, fun k hk => hk.1, below_alloc HH.out.1 _⟩
  · go_simp
    have hbx : Below w.drew.heap.size w.drew (w.alloc (.cells #[.int .u32 0, .int .i32 0, .int .u32 0, .slice none 0 0] 73)).drew := (fun h : Below w.heap.size w (w.alloc (.cells #[.int .u32 0, .int .i32 0, .int .u32 0, .slice none 0 0] 73)).drew => ⟨h.os, h.tape, h.output, h.size, h.block⟩) (below_drew (below_alloc (Below.refl _ _) _))
    refine hK.out _ _ ⟨pw_cell_below hbx hHeld.1, pw_cell_below hbx hHeld.2.1, Kd.C_below hHeld.2.2 hbx⟩ (fun hHeld2 => ?_)
    clear hK K
    try simp only [Act.put, List.getElem_toArray, List.getElem_cons_succ, List.getElem_cons_zero, List.setIfInBounds_toArray, List.set_cons_zero, List.set_cons_succ]
    have hB7 : Below w.heap.size w (w.alloc (.cells #[.int .u32 0, .int .i32 0, .int .u32 0, .slice none 0 0] 73)).drew := below_drew (below_alloc (Below.refl _ _) _)
    have hq7 : (w.alloc (.cells #[.int .u32 0, .int .i32 0, .int .u32 0, .slice none 0 0] 73)).drew.heap[w.heap.size]? = some (.cells #[.int .u32 0, .int .i32 0, .int .u32 0, .slice none 0 0] 73 (0, 0)) := blk_drew (blk_new w _)
    have hs7 : (w.alloc (.cells #[.int .u32 0, .int .i32 0, .int .u32 0, .slice none 0 0] 73)).drew.heap.size = w.heap.size + 1 := by show (w.heap.push _).size = _; rw [Array.size_push]
    change wpAnyH _ _ _ _ _ _ _ { tmps := _, defers := _ } (w.alloc (.cells #[.int .u32 0, .int .i32 0, .int .u32 0, .slice none 0 0] 73)).drew
    have hgq : w.drew.heap.size = w.heap.size := rfl
    try rw [hgq]
    generalize (w.alloc (.cells #[.int .u32 0, .int .i32 0, .int .u32 0, .slice none 0 0] 73)).drew = w7 at hB7 hq7 hs7 hHeld2 ⊢
    refine wpAnyH_ready (rs := [4]) (by kernel_rfl) (by simp) ?_
    refine AllReadyH.cons rfl (fun K hK => ?_) AllReadyH.nil
    refine Kd.R_append_rows_step Kd.string (w0 := w7) w7.heap.size rfl (.const (.slice none 0 0)) (.tmp 6) 57 9 (.string ⟨#[]⟩) 16 rfl Try.underlying57 infoS rfl (by decide) (by omega) (.slice none 0 0) [] ps A ps.length c (fun _ => True) (fun _ => False) rfl rfl (Kd.R_nil _ _ _ _ _) hHeld2.2.2 (fun _ _ h => h) (fun _ h => h.elim) (fun _ _ => trivial) (Below.refl _ _) (Nat.le_refl _) (by simp; omega) ?_
    intro v1 w1 ho hb1 hg hat
    rw [List.nil_append] at ho
    obtain ⟨A1, n1, rfl⟩ := Kd.R_slice ho
    refine hK.out _ _ ⟨pw_cell_below hb1 hHeld2.1, pw_cell_below hb1 hHeld2.2.1, Kd.C_below hHeld2.2.2 hb1⟩ (fun hHeld3 => ?_)
    clear hK K
    try simp only [Act.put, List.getElem_toArray, List.getElem_cons_succ, List.getElem_cons_zero, List.setIfInBounds_toArray, List.set_cons_zero, List.set_cons_succ]
    have HH := Aside0.mk (And.intro (below_then hB7 hB7.size hb1) (And.intro ((hb1.block _ (blk_lt hq7)).trans hq7) (And.intro (Nat.le_refl w.heap.size) (Kd.R_lower (Kd.R_mono (Kd.R_bound ho) (fun k hk => (show k ≠ w.heap.size from by have := hk.2.1; omega))) hB7.size))))
    clear hHeld hHeld2 ho hb1 hg hat hbx hB7 hq7 hs7 hgq
    refine wpAnyH_take (i := 11) (v := ?_) rfl (by kernel_rfl) (by kernel_rfl) (by kernel_rfl) (fun _ _ _ h => h) (Or.inl ⟨by rfl, ?_⟩) (by assumption) ?_
    rotate_left
    · intro w hSw; (try dsimp only at hSw); obtain ⟨hs0, hs1, hs2⟩ := hSw; go_simp <;> with_reducible rfl
    try simp only [Act.put, List.getElem_toArray, List.getElem_cons_succ, List.getElem_cons_zero, List.setIfInBounds_toArray, List.set_cons_zero, List.set_cons_succ]
    refine wpAnyH_ready (rs := [12]) (by kernel_rfl) (by simp) ?_
    refine AllReadyH.cons rfl (fun K hK => ?_) AllReadyH.nil
    go_simp
    have hbz : Below w1.heap.size w1 (w1.alloc (.cells #[.slice A1 ps.length n1, .int .i64 (s.size : Int), .pointer (some ⟨w.heap.size, 0, none⟩)] 75)) := below_alloc (Below.refl _ _) _
    refine hK.out _ _ ⟨pw_cell_below hbz hHeld3.1, pw_cell_below hbz hHeld3.2.1, Kd.C_below hHeld3.2.2 hbz⟩ (fun hHeld4 => ?_)
    clear hK K
    try simp only [Act.put, List.getElem_toArray, List.getElem_cons_succ, List.getElem_cons_zero, List.setIfInBounds_toArray, List.set_cons_zero, List.set_cons_succ]
    refine wpAnyH_take (i := 13) (v := ?_) rfl (by kernel_rfl) (by kernel_rfl) (by kernel_rfl) (fun _ _ _ h => h) (Or.inl ⟨by rfl, ?_⟩) (by assumption) ?_
    rotate_left
    · intro w hSw; (try dsimp only at hSw); obtain ⟨hs0, hs1, hs2⟩ := hSw; go_simp <;> with_reducible rfl
    try simp only [Act.put, List.getElem_toArray, List.getElem_cons_succ, List.getElem_cons_zero, List.setIfInBounds_toArray, List.set_cons_zero, List.set_cons_succ]
    refine wpAnyH_done (by kernel_rfl) ?_ _
    go_wp2
    go_ret
    exact ⟨w1.heap.size, _, rfl, clone_end HH.out.1 HH.out.2.1 HH.out.2.2.1 HH.out.2.2.2 hc hn hsm, fun k hk => hk.1, below_alloc HH.out.1 _⟩
end Go.Proofs.YtcbimnmpdpkefaaTB
