/- Printed by a changed copy of the kit's print.py for all laws of the seat at once (one namespace): functions and their contracts; some parts by hand. -/
import Derived.Test.YtcbimnmpdpkefaaDoorAx0
import Derived.Test.YtcbimnmpdpkefaaDoorAx14
namespace Go.Proofs.YtcbimnmpdpkefaaDoor.A
open Go.RowKit Go.Proofs.YtcbimnmpdpkefaaDoorW.PrintWords Go.Proofs.YtcbimnmpdpkefaaDoorW.PrintLast Go.Proofs.YtcbimnmpdpkefaaDoorW.PrintMore
attribute [local go_sem] max2_int min2_int max_two min_two max_three min_three max_four min_four   -- for this text's walks alone
set_option linter.unusedVariables false
set_option linter.unusedSimpArgs false

/-! ### diag_Print: function 29 (by hand) -/
def diag_Print.f (a0 : ByteArray) (a1_0 a1_1 a1_2 : Int) : Option (ByteArray × Int) :=
  (diag_Name.f a1_0).bind fun nm => if nm.toList = ([] : List UInt8) then some (⟨#[]⟩, 1) else if a1_1 < 0 then some (⟨#[]⟩, 10) else if a1_2 < a1_1 then some (⟨#[]⟩, 10) else if a1_2 > (a0.size : Int) then some (⟨#[]⟩, 10)
    else if nm.size ≤ 1000 ∧ a1_2 < 9223372036854775807 then some ((((YtcbimnmpdpkefaaDoorTB.dp_loc a0 a1_1 ++ (⟨#[45]⟩ : ByteArray)) ++ YtcbimnmpdpkefaaDoorTB.dp_loc a0 a1_2) ++ (⟨#[32]⟩ : ByteArray)) ++ nm, 0) else none
set_option maxHeartbeats 4000000 in
set_option maxRecDepth 100000 in
theorem diag_Print.calls (a0 : ByteArray) (a1_0 : Int) (a1_1 : Int) (a1_2 : Int) (r1 : ByteArray) (r2 : Int) (w : World) (hG : GlobP w) (h : diag_Print.f a0 a1_0 a1_1 a1_2 = some (r1, r2)) :
    Calls Tryd.prog 29 #[.string a0, .agg #[.int .i64 a1_0, .int .i64 a1_1, .int .i64 a1_2]] w fun e w' => e = .returned (.tuple #[.string r1, .int .i64 r2]) ∧ Below w.heap.size w w' := by
  unfold diag_Print.f at h
  obtain ⟨nm, hnm, h⟩ := Option.bind_eq_some_iff.1 h
  have HN := Aside0.mk (fun W => diag_Name.calls a1_0 nm W hnm)
  have HG := Aside0.mk hG
  have HB := Aside0.mk (Below.refl w.heap.size w)
  clear hnm hG
  have hba := below_alloc (below_alloc (Below.refl w.heap.size w) (.cells #[.string a0] 9)) (.cells #[.int .i64 a1_0, .int .i64 a1_1, .int .i64 a1_2] 36)
  by_cases c1 : nm.toList = ([] : List UInt8)
  · rw [if_pos c1] at h
    have c1b : (nm.toList == ([] : List UInt8)) = true := beq_iff_eq.mpr c1
    simp only [Option.some.injEq, Prod.mk.injEq] at h
    obtain ⟨rfl, rfl⟩ := h
    go_enter Tryd.func29, Tryd.ntmps29
    go_wp2_with (go_at_call 16; refine (HN.out _).mono ?_; rintro e w1 ⟨rfl, ⟨nd, rfl⟩⟩)
    go_ret2
    exact ⟨rfl, pw_below_drewN hba nd⟩
  · rw [if_neg c1] at h
    have c1b : (nm.toList == ([] : List UInt8)) = false := beq_eq_false_iff_ne.mpr c1
    by_cases c2 : a1_1 < 0
    · rw [if_pos c2] at h
      have c2b := decide_eq_true c2
      simp only [Option.some.injEq, Prod.mk.injEq] at h
      obtain ⟨rfl, rfl⟩ := h
      go_enter Tryd.func29, Tryd.ntmps29
      go_wp2_with (go_at_call 16; refine (HN.out _).mono ?_; rintro e w1 ⟨rfl, ⟨nd, rfl⟩⟩)
      go_ret2
      exact ⟨rfl, pw_below_drewN hba nd⟩
    · rw [if_neg c2] at h
      have c2b := decide_eq_false c2
      by_cases c3 : a1_2 < a1_1
      · rw [if_pos c3] at h
        have c3b := decide_eq_true c3
        simp only [Option.some.injEq, Prod.mk.injEq] at h
        obtain ⟨rfl, rfl⟩ := h
        go_enter Tryd.func29, Tryd.ntmps29
        go_wp2_with (go_at_call 16; refine (HN.out _).mono ?_; rintro e w1 ⟨rfl, ⟨nd, rfl⟩⟩)
        go_ret2
        exact ⟨rfl, pw_below_drewN hba nd⟩
      · rw [if_neg c3] at h
        have c3b := decide_eq_false c3
        by_cases c4 : a1_2 > (a0.size : Int)
        · rw [if_pos c4] at h
          have c4b := decide_eq_true c4
          simp only [Option.some.injEq, Prod.mk.injEq] at h
          obtain ⟨rfl, rfl⟩ := h
          go_enter Tryd.func29, Tryd.ntmps29
          go_wp2_with (go_at_call 16; refine (HN.out _).mono ?_; rintro e w1 ⟨rfl, ⟨nd, rfl⟩⟩)
          go_ret2
          exact ⟨rfl, pw_below_drewN hba nd⟩
        · rw [if_neg c4] at h
          have c4b := decide_eq_false c4
          by_cases c5 : nm.size ≤ 1000 ∧ a1_2 < 9223372036854775807
          · rw [if_pos c5] at h
            simp only [Option.some.injEq, Prod.mk.injEq] at h
            obtain ⟨rfl, rfl⟩ := h
            have z1 := YtcbimnmpdpkefaaDoorTB.dp_loc_size a0 a1_1 (by omega) (by omega) (by omega)
            have z2 := YtcbimnmpdpkefaaDoorTB.dp_loc_size a0 a1_2 (by omega) (by omega) (by omega)
            generalize hL1 : YtcbimnmpdpkefaaDoorTB.dp_loc a0 a1_1 = L1 at z1 ⊢
            generalize hL2 : YtcbimnmpdpkefaaDoorTB.dp_loc a0 a1_2 = L2 at z2 ⊢
            by_cases c6 : a0.size ≤ 16384
            · have hnew := fun W => YtcbimnmpdpkefaaDoorTB.new_small a0 W c6
              have HNEW := Aside0.mk hnew
              clear hnew
              go_enter Tryd.func29, Tryd.ntmps29
              go_upto_region 12 with (first | (go_at_call 16; refine (HN.out _).mono ?_; rintro e w1 ⟨rfl, ⟨nd, rfl⟩⟩) | (go_at_call 33; refine (HNEW.out _).mono ?_; rintro e w2 ⟨b, F, rfl, hT, hF, hB2⟩; have HT := Aside0.mk hT; have HF := Aside0.mk hF; have HB2 := Aside0.mk hB2; clear hT hF hB2))
              have hW1 : Below w.heap.size w (((w.alloc (.cells #[.string a0] 9)).alloc (.cells #[.int .i64 a1_0, .int .i64 a1_1, .int .i64 a1_2] 36)).drewN nd) := pw_below_drewN hba nd
              have hsz1 : (((w.alloc (.cells #[.string a0] 9)).alloc (.cells #[.int .i64 a1_0, .int .i64 a1_1, .int .i64 a1_2] 36)).drewN nd).heap.size = w.heap.size + 2 := by simp
              have hd1 : (((w.alloc (.cells #[.string a0] 9)).alloc (.cells #[.int .i64 a1_0, .int .i64 a1_1, .int .i64 a1_2] 36)).drewN nd).heap[w.heap.size + 1]? = some (.cells #[.int .i64 a1_0, .int .i64 a1_1, .int .i64 a1_2] 36 (0, 0)) := blk_drewN (by have h_ := blk_new (w.alloc (.cells #[.string a0] 9)) (.cells #[.int .i64 a1_0, .int .i64 a1_1, .int .i64 a1_2] 36 (0, 0)); simpa using h_) nd
              generalize ((w.alloc (.cells #[.string a0] 9)).alloc (.cells #[.int .i64 a1_0, .int .i64 a1_1, .int .i64 a1_2] 36)).drewN nd = W1 at hW1 hsz1 hd1 HF HB2 ⊢
              have hB3 : Below w2.heap.size w2 (w2.alloc (.cells #[.pointer (some ⟨b, 0, none⟩)] 52)) := below_alloc (Below.refl _ _) _
              have ht3 : (w2.alloc (.cells #[.pointer (some ⟨b, 0, none⟩)] 52)).cell? ⟨w2.heap.size, 0, none⟩ = some (.pointer (some ⟨b, 0, none⟩)) := YtcbimnmpdpkefaaDoorTB.ds_cellN' _ _ _ _ _ rfl
              have hs3 : (w2.alloc (.cells #[.pointer (some ⟨b, 0, none⟩)] 52)).heap.size = w2.heap.size + 1 := by simp
              generalize hW3e : w2.alloc (.cells #[.pointer (some ⟨b, 0, none⟩)] 52) = W3 at hB3 ht3 hs3 ⊢
              have hB12 : Below w.heap.size w W3.drew := below_drew (below_then (below_then hW1 hW1.size HB2.out) (below_then hW1 hW1.size HB2.out).size hB3)
              have hd3 : W3.drew.heap[w.heap.size + 1]? = some (.cells #[.int .i64 a1_0, .int .i64 a1_1, .int .i64 a1_2] 36 (0, 0)) := blk_drew ((hB3.block _ (by have := HB2.out.size; omega)).trans ((HB2.out.block _ (by omega)).trans hd1))
              have hI : (W3.drew.cell? ⟨w2.heap.size, 0, none⟩ = some (.pointer (some ⟨b, 0, none⟩)) ∧ W3.drew.cell? ⟨w.heap.size + 1, 1, none⟩ = some (.int .i64 a1_1) ∧ W3.drew.cell? ⟨w.heap.size + 1, 2, none⟩ = some (.int .i64 a1_2) ∧ Below w.heap.size w W3.drew ∧ w2.heap.size < W3.drew.heap.size ∧ ∃ F', YtcbimnmpdpkefaaDoorTB.TB W3.drew F' b a0 ∧ ∀ k, F' k → w.heap.size + 2 ≤ k ∧ k ≠ w2.heap.size) := ⟨ht3, (YtcbimnmpdpkefaaDoorTB.cells3 hd3).2.1, (YtcbimnmpdpkefaaDoorTB.cells3 hd3).2.2, hB12, (by show _ < W3.heap.size; omega), F, HT.out.below (below_drew hB3), fun k hk => ⟨by have := HF.out k hk; omega, by have := HT.out.lt k hk; omega⟩⟩
              have hcl : ∀ (p : Int) (W : World), 0 ≤ p → p ≤ (a0.size : Int) → (W.cell? ⟨w2.heap.size, 0, none⟩ = some (.pointer (some ⟨b, 0, none⟩)) ∧ W.cell? ⟨w.heap.size + 1, 1, none⟩ = some (.int .i64 a1_1) ∧ W.cell? ⟨w.heap.size + 1, 2, none⟩ = some (.int .i64 a1_2) ∧ Below w.heap.size w W ∧ w2.heap.size < W.heap.size ∧ ∃ F', YtcbimnmpdpkefaaDoorTB.TB W F' b a0 ∧ ∀ k, F' k → w.heap.size + 2 ≤ k ∧ k ≠ w2.heap.size) →
                  Calls Tryd.prog 50 #[.int .i64 p, .pointer (some ⟨w2.heap.size, 0, none⟩)] W fun e W' => e = .returned (.string (YtcbimnmpdpkefaaDoorTB.dp_loc a0 p)) ∧ (W'.cell? ⟨w2.heap.size, 0, none⟩ = some (.pointer (some ⟨b, 0, none⟩)) ∧ W'.cell? ⟨w.heap.size + 1, 1, none⟩ = some (.int .i64 a1_1) ∧ W'.cell? ⟨w.heap.size + 1, 2, none⟩ = some (.int .i64 a1_2) ∧ Below w.heap.size w W' ∧ w2.heap.size < W'.heap.size ∧ ∃ F', YtcbimnmpdpkefaaDoorTB.TB W' F' b a0 ∧ ∀ k, F' k → w.heap.size + 2 ≤ k ∧ k ≠ w2.heap.size) := fun p W h0 h1 ⟨i0, i1, i2, i4, i5, F', i6, i7⟩ =>
                (YtcbimnmpdpkefaaDoorTB.dp_ask a0 p ⟨w2.heap.size, 0, none⟩ b F' W (HG.out.below i4) h0 h1 i0 i6 (fun w' F'' hm => HG.out.below (hm.below i4 (fun k hk => by have := i7 k hk; omega)))).mono fun e W' ⟨he, F1, hT1, hm⟩ => by
                  obtain ⟨row, hr, hg⟩ := hm.ex
                  exact ⟨he, YtcbimnmpdpkefaaDoorTB.cell_grown hg i0 (fun e_ => (i7 _ (hr _ e_.symm)).2 rfl), YtcbimnmpdpkefaaDoorTB.cell_grown hg i1 (fun e_ => by have := (i7 _ (hr _ e_.symm)).1; simp at this), YtcbimnmpdpkefaaDoorTB.cell_grown hg i2 (fun e_ => by have := (i7 _ (hr _ e_.symm)).1; simp at this), hm.below i4 (fun k hk => by have := i7 k hk; omega), (by have := hm.size; omega), F1, hT1, fun k hk => by
                    rcases hm.foot k hk with h_ | h_
                    · exact i7 k h_
                    · have := i4.size; have := HB2.out.size; omega⟩
              have hc1 := fun W => hcl a1_1 W (by omega) (by omega)
              have hc2 := fun W => hcl a1_2 W (by omega) (by omega)
              rw [hL1] at hc1
              rw [hL2] at hc2
              clear hcl hW1 hsz1 hd1 hB3 ht3 hs3 hW3e hB12 hd3
              have HC1 := Aside0.mk hc1
              have HC2 := Aside0.mk hc2
              have HI := Aside0.mk hI
              clear hc1 hc2 hI
              have k1 := HI.out.2.1
              have k2 := HI.out.2.2.1
              have z3 : (9223372036854775807 < L1.size + 1) = False := eq_false (by omega)
              have z4 : (9223372036854775807 < L1.size + 1 + L2.size) = False := eq_false (by omega)
              have z5 : (9223372036854775807 < L1.size + 1 + L2.size + 1) = False := eq_false (by omega)
              have z6 : (9223372036854775807 < L1.size + 1 + L2.size + 1 + nm.size) = False := eq_false (by omega)
              refine wp_region_held_drew (S := (fun W' => W'.cell? ⟨w.heap.size + 1, 1, none⟩ = some (.int .i64 a1_1) ∧ W'.cell? ⟨w.heap.size + 1, 2, none⟩ = some (.int .i64 a1_2))) (by kernel_rfl) ?_ (fun hHeld => ?_)
              · exact ⟨k1, k2⟩
              refine wpAnyH_take (i := 0) (v := ?_) rfl (by kernel_rfl) (by kernel_rfl) (by kernel_rfl) (fun _ _ _ h => h) (Or.inl ⟨by rfl, ?_⟩) (by assumption) ?_
              rotate_left
              · intro w hSw; (try dsimp only at hSw); go_simp <;> with_reducible rfl
              try simp only [Act.put, List.getElem_toArray, List.getElem_cons_succ, List.getElem_cons_zero, List.setIfInBounds_toArray, List.set_cons_zero, List.set_cons_succ]
              refine wpAnyH_take (i := 1) (v := ?_) rfl (by kernel_rfl) (by kernel_rfl) (by kernel_rfl) (fun _ _ _ h => h) (Or.inl ⟨by rfl, ?_⟩) (by assumption) ?_
              rotate_left
              · intro w hSw; (try dsimp only at hSw); go_simp <;> with_reducible rfl
              try simp only [Act.put, List.getElem_toArray, List.getElem_cons_succ, List.getElem_cons_zero, List.setIfInBounds_toArray, List.set_cons_zero, List.set_cons_succ]
              refine wpAnyH_take (i := 2) (v := ?_) rfl (by kernel_rfl) (by kernel_rfl) (by kernel_rfl) (fun _ _ _ h => h) (Or.inl ⟨by rfl, ?_⟩) (by assumption) ?_
              rotate_left
              · intro w hSw; (try dsimp only at hSw); go_simp <;> with_reducible rfl
              try simp only [Act.put, List.getElem_toArray, List.getElem_cons_succ, List.getElem_cons_zero, List.setIfInBounds_toArray, List.set_cons_zero, List.set_cons_succ]
              refine wpAnyH_take (i := 5) (v := ?_) rfl (by kernel_rfl) (by kernel_rfl) (by kernel_rfl) (fun _ _ _ h => h) (Or.inl ⟨by rfl, ?_⟩) (by assumption) ?_
              rotate_left
              · intro w hSw; (try dsimp only at hSw); go_simp <;> with_reducible rfl
              try simp only [Act.put, List.getElem_toArray, List.getElem_cons_succ, List.getElem_cons_zero, List.setIfInBounds_toArray, List.set_cons_zero, List.set_cons_succ]
              refine wpAnyH_take (i := 6) (v := ?_) rfl (by kernel_rfl) (by kernel_rfl) (by kernel_rfl) (fun _ _ _ h => h) (Or.inl ⟨by rfl, ?_⟩) (by assumption) ?_
              rotate_left
              · intro w hSw; (try dsimp only at hSw); go_simp <;> with_reducible rfl
              try simp only [Act.put, List.getElem_toArray, List.getElem_cons_succ, List.getElem_cons_zero, List.setIfInBounds_toArray, List.set_cons_zero, List.set_cons_succ]
              refine wpAnyH_take (i := 7) (v := ?_) rfl (by kernel_rfl) (by kernel_rfl) (by kernel_rfl) (fun _ _ _ h => h) (Or.inl ⟨by rfl, ?_⟩) (by assumption) ?_
              rotate_left
              · intro w hSw; (try dsimp only at hSw); go_simp <;> with_reducible rfl
              try simp only [Act.put, List.getElem_toArray, List.getElem_cons_succ, List.getElem_cons_zero, List.setIfInBounds_toArray, List.set_cons_zero, List.set_cons_succ]
              refine wpAnyH_take (i := 11) (v := ?_) rfl (by kernel_rfl) (by kernel_rfl) (by kernel_rfl) (fun _ _ _ h => h) (Or.inl ⟨by rfl, ?_⟩) (by assumption) ?_
              rotate_left
              · intro w hSw; (try dsimp only at hSw); go_simp <;> with_reducible rfl
              try simp only [Act.put, List.getElem_toArray, List.getElem_cons_succ, List.getElem_cons_zero, List.setIfInBounds_toArray, List.set_cons_zero, List.set_cons_succ]
              refine wpAnyH_ready (rs := [3]) (by kernel_rfl) (by simp) ?_
              refine AllReadyH.cons rfl (fun K hK => ?_) AllReadyH.nil
              go_simp
              go_at_call 50; refine (HC1.out _ HI.out).mono ?_; rintro e w4 ⟨rfl, hI4⟩; have HI4 := Aside0.mk hI4; have k3 := HI4.out.2.1; have k4 := HI4.out.2.2.1; clear hI4
              refine hK.out _ _ ?_ (fun hHeld => ?_)
              · exact ⟨k3, k4⟩
              clear hK K
              refine wpAnyH_take (i := 4) (v := ?_) rfl (by kernel_rfl) (by kernel_rfl) (by kernel_rfl) (fun _ _ _ h => h) (Or.inl ⟨by rfl, ?_⟩) (by assumption) ?_
              rotate_left
              · intro w hSw; (try dsimp only at hSw); go_simp <;> with_reducible rfl
              try simp only [Act.put, List.getElem_toArray, List.getElem_cons_succ, List.getElem_cons_zero, List.setIfInBounds_toArray, List.set_cons_zero, List.set_cons_succ]
              refine wpAnyH_ready (rs := [8]) (by kernel_rfl) (by simp) ?_
              refine AllReadyH.cons rfl (fun K hK => ?_) AllReadyH.nil
              go_simp
              go_at_call 50; refine (HC2.out _ HI4.out).mono ?_; rintro e w5 ⟨rfl, hI5⟩; have HI5 := Aside0.mk hI5; have k5 := HI5.out.2.1; have k6 := HI5.out.2.2.1; clear hI5
              refine hK.out _ _ ?_ (fun hHeld => ?_)
              · exact ⟨k5, k6⟩
              clear hK K
              refine wpAnyH_take (i := 9) (v := ?_) rfl (by kernel_rfl) (by kernel_rfl) (by kernel_rfl) (fun _ _ _ h => h) (Or.inl ⟨by rfl, ?_⟩) (by assumption) ?_
              rotate_left
              · intro w hSw; (try dsimp only at hSw); go_simp <;> with_reducible rfl
              try simp only [Act.put, List.getElem_toArray, List.getElem_cons_succ, List.getElem_cons_zero, List.setIfInBounds_toArray, List.set_cons_zero, List.set_cons_succ]
              refine wpAnyH_take (i := 10) (v := ?_) rfl (by kernel_rfl) (by kernel_rfl) (by kernel_rfl) (fun _ _ _ h => h) (Or.inl ⟨by rfl, ?_⟩) (by assumption) ?_
              rotate_left
              · intro w hSw; (try dsimp only at hSw); go_simp <;> with_reducible rfl
              try simp only [Act.put, List.getElem_toArray, List.getElem_cons_succ, List.getElem_cons_zero, List.setIfInBounds_toArray, List.set_cons_zero, List.set_cons_succ]
              refine wpAnyH_take (i := 12) (v := ?_) rfl (by kernel_rfl) (by kernel_rfl) (by kernel_rfl) (fun _ _ _ h => h) (Or.inl ⟨by rfl, ?_⟩) (by assumption) ?_
              rotate_left
              · intro w hSw; (try dsimp only at hSw); go_simp <;> with_reducible rfl
              try simp only [Act.put, List.getElem_toArray, List.getElem_cons_succ, List.getElem_cons_zero, List.setIfInBounds_toArray, List.set_cons_zero, List.set_cons_succ]
              refine wpAnyH_take (i := 13) (v := ?_) rfl (by kernel_rfl) (by kernel_rfl) (by kernel_rfl) (fun _ _ _ h => h) (Or.inl ⟨by rfl, ?_⟩) (by assumption) ?_
              rotate_left
              · intro w hSw; (try dsimp only at hSw); go_simp <;> with_reducible rfl
              try simp only [Act.put, List.getElem_toArray, List.getElem_cons_succ, List.getElem_cons_zero, List.setIfInBounds_toArray, List.set_cons_zero, List.set_cons_succ]
              refine wpAnyH_take (i := 14) (v := ?_) rfl (by kernel_rfl) (by kernel_rfl) (by kernel_rfl) (fun _ _ _ h => h) (Or.inl ⟨by rfl, ?_⟩) (by assumption) ?_
              rotate_left
              · intro w hSw; (try dsimp only at hSw); go_simp <;> with_reducible rfl
              try simp only [Act.put, List.getElem_toArray, List.getElem_cons_succ, List.getElem_cons_zero, List.setIfInBounds_toArray, List.set_cons_zero, List.set_cons_succ]
              refine wpAnyH_done (by kernel_rfl) ?_ _
              go_wp2
              go_ret2
              exact ⟨rfl, HI5.out.2.2.2.1⟩
            · have hnew := fun W => YtcbimnmpdpkefaaDoorTB.new_large a0 W c6
              have HNEW := Aside0.mk hnew
              clear hnew
              go_enter Tryd.func29, Tryd.ntmps29
              go_upto_region 12 with (first | (go_at_call 16; refine (HN.out _).mono ?_; rintro e w1 ⟨rfl, ⟨nd, rfl⟩⟩) | (go_at_call 33; refine (HNEW.out _).mono ?_; rintro e w2 ⟨rfl, rfl⟩))
              have hWB : Below w.heap.size w ((((w.alloc (.cells #[.string a0] 9)).alloc (.cells #[.int .i64 a1_0, .int .i64 a1_1, .int .i64 a1_2] 36)).drewN nd).alloc (.cells #[.pointer none] 52)) := below_alloc (pw_below_drewN hba nd) _
              have hW2 : ((((w.alloc (.cells #[.string a0] 9)).alloc (.cells #[.int .i64 a1_0, .int .i64 a1_1, .int .i64 a1_2] 36)).drewN nd).alloc (.cells #[.pointer none] 52)).heap[w.heap.size + 1]? = some (.cells #[.int .i64 a1_0, .int .i64 a1_1, .int .i64 a1_2] 36 (0, 0)) := blk_alloc (blk_drewN (by have h_ := blk_new (w.alloc (.cells #[.string a0] 9)) (.cells #[.int .i64 a1_0, .int .i64 a1_1, .int .i64 a1_2] 36 (0, 0)); simpa using h_) nd) _
              have hW3 : ((((w.alloc (.cells #[.string a0] 9)).alloc (.cells #[.int .i64 a1_0, .int .i64 a1_1, .int .i64 a1_2] 36)).drewN nd).alloc (.cells #[.pointer none] 52)).heap[w.heap.size]? = some (.cells #[.string a0] 9 (0, 0)) := blk_alloc (blk_drewN (blk_alloc (blk_new w _) _) nd) _
              generalize ((((w.alloc (.cells #[.string a0] 9)).alloc (.cells #[.int .i64 a1_0, .int .i64 a1_1, .int .i64 a1_2] 36)).drewN nd).alloc (.cells #[.pointer none] 52)) = W3 at hWB hW2 hW3 ⊢
              have hI : W3.drew.cell? ⟨w.heap.size, 0, none⟩ = some (.string a0) ∧ W3.drew.cell? ⟨w.heap.size + 1, 1, none⟩ = some (.int .i64 a1_1) ∧ W3.drew.cell? ⟨w.heap.size + 1, 2, none⟩ = some (.int .i64 a1_2) ∧ GlobP W3.drew ∧ Below w.heap.size w W3.drew := ⟨YtcbimnmpdpkefaaDoorTB.cells_of (blk_drew hW3) 0 _ rfl, (YtcbimnmpdpkefaaDoorTB.cells3 (blk_drew hW2)).2.1, (YtcbimnmpdpkefaaDoorTB.cells3 (blk_drew hW2)).2.2, HG.out.below (below_drew hWB), below_drew hWB⟩
              have hcl : ∀ (p : Int) (W : World), 0 ≤ p → p ≤ (a0.size : Int) → p < 9223372036854775807 → (W.cell? ⟨w.heap.size, 0, none⟩ = some (.string a0) ∧ W.cell? ⟨w.heap.size + 1, 1, none⟩ = some (.int .i64 a1_1) ∧ W.cell? ⟨w.heap.size + 1, 2, none⟩ = some (.int .i64 a1_2) ∧ GlobP W ∧ Below w.heap.size w W) →
                  Calls Tryd.prog 48 #[.int .i64 p, .pointer (some ⟨w.heap.size, 0, none⟩)] W fun e W' => e = .returned (.string (YtcbimnmpdpkefaaDoorTB.dp_loc a0 p)) ∧ (W'.cell? ⟨w.heap.size, 0, none⟩ = some (.string a0) ∧ W'.cell? ⟨w.heap.size + 1, 1, none⟩ = some (.int .i64 a1_1) ∧ W'.cell? ⟨w.heap.size + 1, 2, none⟩ = some (.int .i64 a1_2) ∧ GlobP W' ∧ Below w.heap.size w W') := fun p W h0 h1 h2 ⟨i0, i1, i2, i3, i4⟩ =>
                (YtcbimnmpdpkefaaDoorTB.dp_count a0 p ⟨w.heap.size, 0, none⟩ W i3 h0 h1 h2 i0).mono fun e W' ⟨he, hb⟩ => ⟨he, pw_cell_below hb i0, pw_cell_below hb i1, pw_cell_below hb i2, i3.below hb, below_then i4 i4.size hb⟩
              have hc1 := fun W => hcl a1_1 W (by omega) (by omega) (by omega)
              have hc2 := fun W => hcl a1_2 W (by omega) (by omega) (by omega)
              rw [hL1] at hc1
              rw [hL2] at hc2
              clear hcl
              have HC1 := Aside0.mk hc1
              have HC2 := Aside0.mk hc2
              have HI := Aside0.mk hI
              clear hc1 hc2 hI
              have k1 := HI.out.2.1
              have k2 := HI.out.2.2.1
              have z3 : (9223372036854775807 < L1.size + 1) = False := eq_false (by omega)
              have z4 : (9223372036854775807 < L1.size + 1 + L2.size) = False := eq_false (by omega)
              have z5 : (9223372036854775807 < L1.size + 1 + L2.size + 1) = False := eq_false (by omega)
              have z6 : (9223372036854775807 < L1.size + 1 + L2.size + 1 + nm.size) = False := eq_false (by omega)
              refine wp_region_held_drew (S := (fun W' => W'.cell? ⟨w.heap.size + 1, 1, none⟩ = some (.int .i64 a1_1) ∧ W'.cell? ⟨w.heap.size + 1, 2, none⟩ = some (.int .i64 a1_2))) (by kernel_rfl) ?_ (fun hHeld => ?_)
              · exact ⟨k1, k2⟩
              refine wpAnyH_take (i := 0) (v := ?_) rfl (by kernel_rfl) (by kernel_rfl) (by kernel_rfl) (fun _ _ _ h => h) (Or.inl ⟨by rfl, ?_⟩) (by assumption) ?_
              rotate_left
              · intro w hSw; (try dsimp only at hSw); go_simp <;> with_reducible rfl
              try simp only [Act.put, List.getElem_toArray, List.getElem_cons_succ, List.getElem_cons_zero, List.setIfInBounds_toArray, List.set_cons_zero, List.set_cons_succ]
              refine wpAnyH_take (i := 1) (v := ?_) rfl (by kernel_rfl) (by kernel_rfl) (by kernel_rfl) (fun _ _ _ h => h) (Or.inl ⟨by rfl, ?_⟩) (by assumption) ?_
              rotate_left
              · intro w hSw; (try dsimp only at hSw); go_simp <;> with_reducible rfl
              try simp only [Act.put, List.getElem_toArray, List.getElem_cons_succ, List.getElem_cons_zero, List.setIfInBounds_toArray, List.set_cons_zero, List.set_cons_succ]
              refine wpAnyH_take (i := 2) (v := ?_) rfl (by kernel_rfl) (by kernel_rfl) (by kernel_rfl) (fun _ _ _ h => h) (Or.inl ⟨by rfl, ?_⟩) (by assumption) ?_
              rotate_left
              · intro w hSw; (try dsimp only at hSw); go_simp <;> with_reducible rfl
              try simp only [Act.put, List.getElem_toArray, List.getElem_cons_succ, List.getElem_cons_zero, List.setIfInBounds_toArray, List.set_cons_zero, List.set_cons_succ]
              refine wpAnyH_take (i := 5) (v := ?_) rfl (by kernel_rfl) (by kernel_rfl) (by kernel_rfl) (fun _ _ _ h => h) (Or.inl ⟨by rfl, ?_⟩) (by assumption) ?_
              rotate_left
              · intro w hSw; (try dsimp only at hSw); go_simp <;> with_reducible rfl
              try simp only [Act.put, List.getElem_toArray, List.getElem_cons_succ, List.getElem_cons_zero, List.setIfInBounds_toArray, List.set_cons_zero, List.set_cons_succ]
              refine wpAnyH_take (i := 6) (v := ?_) rfl (by kernel_rfl) (by kernel_rfl) (by kernel_rfl) (fun _ _ _ h => h) (Or.inl ⟨by rfl, ?_⟩) (by assumption) ?_
              rotate_left
              · intro w hSw; (try dsimp only at hSw); go_simp <;> with_reducible rfl
              try simp only [Act.put, List.getElem_toArray, List.getElem_cons_succ, List.getElem_cons_zero, List.setIfInBounds_toArray, List.set_cons_zero, List.set_cons_succ]
              refine wpAnyH_take (i := 7) (v := ?_) rfl (by kernel_rfl) (by kernel_rfl) (by kernel_rfl) (fun _ _ _ h => h) (Or.inl ⟨by rfl, ?_⟩) (by assumption) ?_
              rotate_left
              · intro w hSw; (try dsimp only at hSw); go_simp <;> with_reducible rfl
              try simp only [Act.put, List.getElem_toArray, List.getElem_cons_succ, List.getElem_cons_zero, List.setIfInBounds_toArray, List.set_cons_zero, List.set_cons_succ]
              refine wpAnyH_take (i := 11) (v := ?_) rfl (by kernel_rfl) (by kernel_rfl) (by kernel_rfl) (fun _ _ _ h => h) (Or.inl ⟨by rfl, ?_⟩) (by assumption) ?_
              rotate_left
              · intro w hSw; (try dsimp only at hSw); go_simp <;> with_reducible rfl
              try simp only [Act.put, List.getElem_toArray, List.getElem_cons_succ, List.getElem_cons_zero, List.setIfInBounds_toArray, List.set_cons_zero, List.set_cons_succ]
              refine wpAnyH_ready (rs := [3]) (by kernel_rfl) (by simp) ?_
              refine AllReadyH.cons rfl (fun K hK => ?_) AllReadyH.nil
              go_simp
              go_at_call 48; refine (HC1.out _ HI.out).mono ?_; rintro e w4 ⟨rfl, hI4⟩; have HI4 := Aside0.mk hI4; have k3 := HI4.out.2.1; have k4 := HI4.out.2.2.1; clear hI4
              refine hK.out _ _ ?_ (fun hHeld => ?_)
              · exact ⟨k3, k4⟩
              clear hK K
              refine wpAnyH_take (i := 4) (v := ?_) rfl (by kernel_rfl) (by kernel_rfl) (by kernel_rfl) (fun _ _ _ h => h) (Or.inl ⟨by rfl, ?_⟩) (by assumption) ?_
              rotate_left
              · intro w hSw; (try dsimp only at hSw); go_simp <;> with_reducible rfl
              try simp only [Act.put, List.getElem_toArray, List.getElem_cons_succ, List.getElem_cons_zero, List.setIfInBounds_toArray, List.set_cons_zero, List.set_cons_succ]
              refine wpAnyH_ready (rs := [8]) (by kernel_rfl) (by simp) ?_
              refine AllReadyH.cons rfl (fun K hK => ?_) AllReadyH.nil
              go_simp
              go_at_call 48; refine (HC2.out _ HI4.out).mono ?_; rintro e w5 ⟨rfl, hI5⟩; have HI5 := Aside0.mk hI5; have k5 := HI5.out.2.1; have k6 := HI5.out.2.2.1; clear hI5
              refine hK.out _ _ ?_ (fun hHeld => ?_)
              · exact ⟨k5, k6⟩
              clear hK K
              refine wpAnyH_take (i := 9) (v := ?_) rfl (by kernel_rfl) (by kernel_rfl) (by kernel_rfl) (fun _ _ _ h => h) (Or.inl ⟨by rfl, ?_⟩) (by assumption) ?_
              rotate_left
              · intro w hSw; (try dsimp only at hSw); go_simp <;> with_reducible rfl
              try simp only [Act.put, List.getElem_toArray, List.getElem_cons_succ, List.getElem_cons_zero, List.setIfInBounds_toArray, List.set_cons_zero, List.set_cons_succ]
              refine wpAnyH_take (i := 10) (v := ?_) rfl (by kernel_rfl) (by kernel_rfl) (by kernel_rfl) (fun _ _ _ h => h) (Or.inl ⟨by rfl, ?_⟩) (by assumption) ?_
              rotate_left
              · intro w hSw; (try dsimp only at hSw); go_simp <;> with_reducible rfl
              try simp only [Act.put, List.getElem_toArray, List.getElem_cons_succ, List.getElem_cons_zero, List.setIfInBounds_toArray, List.set_cons_zero, List.set_cons_succ]
              refine wpAnyH_take (i := 12) (v := ?_) rfl (by kernel_rfl) (by kernel_rfl) (by kernel_rfl) (fun _ _ _ h => h) (Or.inl ⟨by rfl, ?_⟩) (by assumption) ?_
              rotate_left
              · intro w hSw; (try dsimp only at hSw); go_simp <;> with_reducible rfl
              try simp only [Act.put, List.getElem_toArray, List.getElem_cons_succ, List.getElem_cons_zero, List.setIfInBounds_toArray, List.set_cons_zero, List.set_cons_succ]
              refine wpAnyH_take (i := 13) (v := ?_) rfl (by kernel_rfl) (by kernel_rfl) (by kernel_rfl) (fun _ _ _ h => h) (Or.inl ⟨by rfl, ?_⟩) (by assumption) ?_
              rotate_left
              · intro w hSw; (try dsimp only at hSw); go_simp <;> with_reducible rfl
              try simp only [Act.put, List.getElem_toArray, List.getElem_cons_succ, List.getElem_cons_zero, List.setIfInBounds_toArray, List.set_cons_zero, List.set_cons_succ]
              refine wpAnyH_take (i := 14) (v := ?_) rfl (by kernel_rfl) (by kernel_rfl) (by kernel_rfl) (fun _ _ _ h => h) (Or.inl ⟨by rfl, ?_⟩) (by assumption) ?_
              rotate_left
              · intro w hSw; (try dsimp only at hSw); go_simp <;> with_reducible rfl
              try simp only [Act.put, List.getElem_toArray, List.getElem_cons_succ, List.getElem_cons_zero, List.setIfInBounds_toArray, List.set_cons_zero, List.set_cons_succ]
              refine wpAnyH_done (by kernel_rfl) ?_ _
              go_wp2
              go_ret2
              exact ⟨rfl, HI5.out.2.2.2.2⟩
          · rw [if_neg c5] at h
            cases h

end Go.Proofs.YtcbimnmpdpkefaaDoor.A
