/- A buffer of the program and one of the document: what is asked of both. -/
import Derived.Test.YtcbimnmpdpkefaaTextBufH
import Derived.Test.YtcbimnmpdpkefaaAx1
set_option linter.unusedVariables false
set_option linter.unusedSimpArgs false
namespace Go.Proofs.YtcbimnmpdpkefaaTB
open Go.RowKit Go.Proofs.YtcbimnmpdpkefaaW.PrintWords Go.Proofs.YtcbimnmpdpkefaaW.PrintLast Go.Proofs.YtcbimnmpdpkefaaW.PrintMore Go.Proofs.Ytcbimnmpdpkefaa.A

/-- What a call may have done: all but G is as it was; what it stands on now is of G, or new. -/
structure Mv (w w1 : World) (G G1 : Nat → Prop) : Prop where
  os : w1.os = w.os
  tape : w1.tape = w.tape
  output : w1.output = w.output
  size : w.heap.size ≤ w1.heap.size
  block : ∀ k, k < w.heap.size → ¬ G k → w1.heap[k]? = w.heap[k]?
  foot : ∀ k, G1 k → G k ∨ w.heap.size ≤ k
theorem Mv.refl (w : World) (G : Nat → Prop) : Mv w w G G := ⟨rfl, rfl, rfl, Nat.le_refl _, fun _ _ _ => rfl, fun _ h => .inl h⟩
theorem Mv.of_below {w w1 : World} (h : Below w.heap.size w w1) (G : Nat → Prop) : Mv w w1 G G := ⟨h.os, h.tape, h.output, h.size, fun k hk _ => h.block k hk, fun _ h => .inl h⟩
theorem Mv.trans {w w1 w2 : World} {G G1 G2 : Nat → Prop} (h : Mv w w1 G G1) (k : Mv w1 w2 G1 G2) : Mv w w2 G G2 :=
  ⟨k.os.trans h.os, k.tape.trans h.tape, k.output.trans h.output, Nat.le_trans h.size k.size, fun i hi hn => (k.block i (Nat.lt_of_lt_of_le hi h.size) (fun h1 => by
    rcases h.foot i h1 with h2 | h2
    · exact hn h2
    · omega)).trans (h.block i hi hn), fun i h2 => by
    rcases k.foot i h2 with h3 | h3
    · exact h.foot i h3
    · exact .inr (Nat.le_trans h.size h3)⟩
theorem Mv.below {w0 w w1 : World} {G G1 : Nat → Prop} (h : Mv w w1 G G1) (hb : Below w0.heap.size w0 w) (hG : ∀ k, G k → w0.heap.size ≤ k) : Below w0.heap.size w0 w1 :=
  ⟨h.os.trans hb.os, h.tape.trans hb.tape, h.output.trans hb.output, Nat.le_trans hb.size h.size, fun k hk => (h.block k (Nat.lt_of_lt_of_le hk hb.size) (fun hg => by have := hG k hg; omega)).trans (hb.block k hk)⟩
theorem Mv.from_ {w w1 : World} {G G1 : Nat → Prop} (h : Mv w w1 G G1) {n : Nat} (hn : n ≤ w.heap.size) (hG : ∀ k, G k → n ≤ k) : ∀ k, G1 k → n ≤ k := fun k hk => by
  rcases h.foot k hk with h1 | h1
  · exact hG k h1
  · omega
theorem Mv.kept {w w1 : World} {G G1 : Nat → Prop} (h : Mv w w1 G G1) {b : Nat} {o : Obj} (hb : w.heap[b]? = some o) (hn : ¬ G b) : w1.heap[b]? = some o := (h.block b (blk_lt hb) hn).trans hb
theorem Mv.notin {w w1 : World} {G G1 : Nat → Prop} (h : Mv w w1 G G1) {b : Nat} (hb : b < w.heap.size) (hn : ¬ G b) : ¬ G1 b := fun h1 => by
  rcases h.foot b h1 with h2 | h2
  · exact hn h2
  · omega
/-- A pair: its footprint is F and g. -/
structure PB (W : World) (F : Nat → Prop) (b g : Nat) (s : ByteArray) : Prop where
  tb : TB W F b s
  ng : ¬ F g
  hg : W.heap[g]? = some (.cells #[.string s] 54 (0, 0))
abbrev Gp (F : Nat → Prop) (g : Nat) : Nat → Prop := fun k => F k ∨ k = g
theorem PB.lt {W : World} {F : Nat → Prop} {b g : Nat} {s : ByteArray} (h : PB W F b g s) : ∀ k, Gp F g k → k < W.heap.size := fun k hk => by
  rcases hk with hk | rfl
  · exact h.tb.lt k hk
  · exact blk_lt h.hg
theorem PB.move {W W1 : World} {F : Nat → Prop} {b g : Nat} {s : ByteArray} (h : PB W F b g s) (hs : W.heap.size ≤ W1.heap.size) (hm : ∀ k, Gp F g k → W1.heap[k]? = W.heap[k]?) : PB W1 F b g s :=
  ⟨h.tb.move hs (fun k hk => hm k (.inl hk)), h.ng, (hm g (.inr rfl)).trans h.hg⟩
theorem PB.below {W W1 : World} {F : Nat → Prop} {b g : Nat} {s : ByteArray} (h : PB W F b g s) (hb : Below W.heap.size W W1) : PB W1 F b g s := h.move hb.size (fun k hk => hb.block k (h.lt k hk))
theorem PB.other {W W1 : World} {F : Nat → Prop} {b g : Nat} {s : ByteArray} {G G1 : Nat → Prop} (h : PB W F b g s) (hm : Mv W W1 G G1) (hd : ∀ k, Gp F g k → ¬ G k) : PB W1 F b g s := h.move hm.size (fun k hk => hm.block k (h.lt k hk) (hd k hk))
theorem PB.moved {W W1 : World} {F F1 : Nat → Prop} {b g : Nat} {s s1 : ByteArray} (h : PB W F b g s) (hT : TB W1 F1 b s1) (hm : Moved W W1 F F1) : ¬ F1 g ∧ W1.heap[g]? = some (.cells #[.string s] 54 (0, 0)) ∧ Mv W W1 (Gp F g) (Gp F1 g) := by
  have hk := mv_kept hm h.tb.lt h.hg h.ng
  refine ⟨fun h1 => ?_, hk, ?_⟩
  · rcases hm.foot g h1 with h2 | h2
    · exact h.ng h2
    · have := blk_lt h.hg; omega
  · obtain ⟨⟨row, hr, hgr⟩, hf⟩ := hm
    refine ⟨hgr.os, hgr.tape, hgr.output, hgr.size, fun k hk hn => hgr.block k hk (fun e => hn (.inl (hr k e.symm))), fun k hk => ?_⟩
    rcases hk with hk | rfl
    · rcases hf k hk with h1 | h1
      · exact .inl (.inl h1)
      · exact .inr h1
    · exact .inl (.inr rfl)
theorem PB.step {W W1 : World} {F F1 : Nat → Prop} {b g : Nat} {s : ByteArray} (h : PB W F b g s) (hT : TB W1 F1 b s) (hm : Moved W W1 F F1) : PB W1 F1 b g s ∧ Mv W W1 (Gp F g) (Gp F1 g) := by
  obtain ⟨h1, h2, h3⟩ := h.moved hT hm
  exact ⟨⟨hT, h1, h2⟩, h3⟩
/-- A call of the document's that leaves its text. -/
theorem PB.rstep {W W1 : World} {F : Nat → Prop} {b g : Nat} {s : ByteArray} {w0 : World} (h : PB W F b g s) (hI : W1.heap[g]? = some (.cells #[.string s] 54 (0, 0))) (hk : KeepBut W W1 g none) (hb : Below w0.heap.size w0 W) (hb1 : Below w0.heap.size w0 W1) : PB W1 F b g s ∧ Mv W W1 (Gp F g) (Gp F g) :=
  ⟨h.move hk.1 (fun k hk1 => by
    by_cases e : k = g
    · subst e; exact hI.trans h.hg.symm
    · exact hk.2 k (h.lt k hk1) e (fun e => nomatch e)),
   ⟨hb1.os.trans hb.os.symm, hb1.tape.trans hb.tape.symm, hb1.output.trans hb.output.symm, hk.1, fun k hk1 hn => hk.2 k hk1 (fun e => hn (.inr e)) (fun e => nomatch e), fun k h => .inl h⟩⟩

set_option maxHeartbeats 8000000 in
set_option maxRecDepth 100000 in
theorem same_ (w0 w : World) (F : Nat → Prop) (b g : Nat) (s : ByteArray) (hB : Below w0.heap.size w0 w) (hP : PB w F b g s) (hF : ∀ k, Gp F g k → w0.heap.size ≤ k) :
    Calls Try.prog 20 #[.agg #[.pointer (some ⟨b, 0, none⟩), .pointer (some ⟨g, 0, none⟩)]] w fun e w' => e = .returned (.bool true) ∧ ∃ F1, PB w' F1 b g s ∧ Mv w w' (Gp F g) (Gp F1 g) := by
  have HB := Aside0.mk hB
  have HF := Aside0.mk hF
  have hlt := hP.lt
  have hgl := blk_lt hP.hg
  have hbx : Below w.heap.size w (w.alloc (.cells #[.pointer (some ⟨b, 0, none⟩), .pointer (some ⟨g, 0, none⟩)] 47)).drew := below_drew (below_alloc (Below.refl _ _) _)
  have hvx : (w.alloc (.cells #[.pointer (some ⟨b, 0, none⟩), .pointer (some ⟨g, 0, none⟩)] 47)).drew.heap[w.heap.size]? = some (.cells #[.pointer (some ⟨b, 0, none⟩), .pointer (some ⟨g, 0, none⟩)] 47 (0, 0)) := blk_drew (blk_new w _)
  have HPX := Aside0.mk (hP.below hbx)
  have HMX := Aside0.mk (Mv.of_below hbx (Gp F g))
  have HVX := Aside0.mk hvx
  clear hB hF hP hvx hbx
  go_enter Try.func20, Try.ntmps20
  go_upto_region 1 with (fail)
  refine wp_region_held_drew (S := fun W' => ∃ F', PB W' F' b g s ∧ Mv w W' (Gp F g) (Gp F' g) ∧ ¬ Gp F' g w.heap.size ∧ W'.heap[w.heap.size]? = some (.cells #[.pointer (some ⟨b, 0, none⟩), .pointer (some ⟨g, 0, none⟩)] 47 (0, 0))) (by kernel_rfl) ?_ (fun hHeld => ?_)
  · exact ⟨F, HPX.out, HMX.out, (fun h => by have := hlt _ h; omega), HVX.out⟩
  refine wpAnyH_take (i := 0) (v := ?_) rfl (by kernel_rfl) (by kernel_rfl) (by kernel_rfl) (fun _ _ _ h => h) (Or.inl ⟨by rfl, ?_⟩) (by assumption) ?_
  rotate_left
  · intro w hSw; obtain ⟨F_, hP_, hM_, hN_, hV_⟩ := hSw; have hg0 := cells_of hP_.hg 0 _ rfl; have hv0 := cells_of hV_ 0 _ rfl; have hv1 := cells_of hV_ 1 _ rfl; go_simp <;> with_reducible rfl
  try simp only [Act.put, List.getElem_toArray, List.getElem_cons_succ, List.getElem_cons_zero, List.setIfInBounds_toArray, List.set_cons_zero, List.set_cons_succ]
  refine wpAnyH_take (i := 1) (v := ?_) rfl (by kernel_rfl) (by kernel_rfl) (by kernel_rfl) (fun _ _ _ h => h) (Or.inl ⟨by rfl, ?_⟩) (by assumption) ?_
  rotate_left
  · intro w hSw; obtain ⟨F_, hP_, hM_, hN_, hV_⟩ := hSw; have hg0 := cells_of hP_.hg 0 _ rfl; have hv0 := cells_of hV_ 0 _ rfl; have hv1 := cells_of hV_ 1 _ rfl; go_simp <;> with_reducible rfl
  try simp only [Act.put, List.getElem_toArray, List.getElem_cons_succ, List.getElem_cons_zero, List.setIfInBounds_toArray, List.set_cons_zero, List.set_cons_succ]
  refine wpAnyH_take (i := 3) (v := ?_) rfl (by kernel_rfl) (by kernel_rfl) (by kernel_rfl) (fun _ _ _ h => h) (Or.inl ⟨by rfl, ?_⟩) (by assumption) ?_
  rotate_left
  · intro w hSw; obtain ⟨F_, hP_, hM_, hN_, hV_⟩ := hSw; have hg0 := cells_of hP_.hg 0 _ rfl; have hv0 := cells_of hV_ 0 _ rfl; have hv1 := cells_of hV_ 1 _ rfl; go_simp <;> with_reducible rfl
  try simp only [Act.put, List.getElem_toArray, List.getElem_cons_succ, List.getElem_cons_zero, List.setIfInBounds_toArray, List.set_cons_zero, List.set_cons_succ]
  refine wpAnyH_take (i := 4) (v := ?_) rfl (by kernel_rfl) (by kernel_rfl) (by kernel_rfl) (fun _ _ _ h => h) (Or.inl ⟨by rfl, ?_⟩) (by assumption) ?_
  rotate_left
  · intro w hSw; obtain ⟨F_, hP_, hM_, hN_, hV_⟩ := hSw; have hg0 := cells_of hP_.hg 0 _ rfl; have hv0 := cells_of hV_ 0 _ rfl; have hv1 := cells_of hV_ 1 _ rfl; go_simp <;> with_reducible rfl
  try simp only [Act.put, List.getElem_toArray, List.getElem_cons_succ, List.getElem_cons_zero, List.setIfInBounds_toArray, List.set_cons_zero, List.set_cons_succ]
  refine wpAnyH_take (i := 5) (v := ?_) rfl (by kernel_rfl) (by kernel_rfl) (by kernel_rfl) (fun _ _ _ h => h) (Or.inl ⟨by rfl, ?_⟩) (by assumption) ?_
  rotate_left
  · intro w hSw; obtain ⟨F_, hP_, hM_, hN_, hV_⟩ := hSw; have hg0 := cells_of hP_.hg 0 _ rfl; have hv0 := cells_of hV_ 0 _ rfl; have hv1 := cells_of hV_ 1 _ rfl; go_simp <;> with_reducible rfl
  try simp only [Act.put, List.getElem_toArray, List.getElem_cons_succ, List.getElem_cons_zero, List.setIfInBounds_toArray, List.set_cons_zero, List.set_cons_succ]
  refine wpAnyH_take (i := 6) (v := ?_) rfl (by kernel_rfl) (by kernel_rfl) (by kernel_rfl) (fun _ _ _ h => h) (Or.inl ⟨by rfl, ?_⟩) (by assumption) ?_
  rotate_left
  · intro w hSw; obtain ⟨F_, hP_, hM_, hN_, hV_⟩ := hSw; have hg0 := cells_of hP_.hg 0 _ rfl; have hv0 := cells_of hV_ 0 _ rfl; have hv1 := cells_of hV_ 1 _ rfl; go_simp <;> with_reducible rfl
  try simp only [Act.put, List.getElem_toArray, List.getElem_cons_succ, List.getElem_cons_zero, List.setIfInBounds_toArray, List.set_cons_zero, List.set_cons_succ]
  refine wpAnyH_take (i := 7) (v := ?_) rfl (by kernel_rfl) (by kernel_rfl) (by kernel_rfl) (fun _ _ _ h => h) (Or.inl ⟨by rfl, ?_⟩) (by assumption) ?_
  rotate_left
  · intro w hSw; obtain ⟨F_, hP_, hM_, hN_, hV_⟩ := hSw; have hg0 := cells_of hP_.hg 0 _ rfl; have hv0 := cells_of hV_ 0 _ rfl; have hv1 := cells_of hV_ 1 _ rfl; go_simp <;> with_reducible rfl
  try simp only [Act.put, List.getElem_toArray, List.getElem_cons_succ, List.getElem_cons_zero, List.setIfInBounds_toArray, List.set_cons_zero, List.set_cons_succ]
  refine wpAnyH_ready (rs := [2]) (by kernel_rfl) (by simp) ?_
  refine AllReadyH.cons rfl (fun K hK => ?_) AllReadyH.nil
  go_simp
  refine (text_ _ F b s HPX.out.tb).mono ?_
  rintro e w2 ⟨rfl, hB2⟩
  refine hK.out _ _ ⟨F, HPX.out.below hB2, HMX.out.trans (Mv.of_below hB2 _), (fun h => by have := hlt _ h; omega), (hB2.block _ (blk_lt HVX.out)).trans HVX.out⟩ (fun hHeld2 => ?_)
  clear hK K hHeld HPX HMX HVX hB2
  try simp only [Act.put, List.getElem_toArray, List.getElem_cons_succ, List.getElem_cons_zero, List.setIfInBounds_toArray, List.set_cons_zero, List.set_cons_succ]
  refine wpAnyH_take (i := 8) (v := ?_) rfl (by kernel_rfl) (by kernel_rfl) (by kernel_rfl) (fun _ _ _ h => h) (Or.inl ⟨by rfl, ?_⟩) (by assumption) ?_
  rotate_left
  · intro w hSw; obtain ⟨F_, hP_, hM_, hN_, hV_⟩ := hSw; have hg0 := cells_of hP_.hg 0 _ rfl; have hv0 := cells_of hV_ 0 _ rfl; have hv1 := cells_of hV_ 1 _ rfl; go_simp <;> with_reducible rfl
  try simp only [Act.put, List.getElem_toArray, List.getElem_cons_succ, List.getElem_cons_zero, List.setIfInBounds_toArray, List.set_cons_zero, List.set_cons_succ]
  refine wpAnyH_take (i := 9) (v := ?_) rfl (by kernel_rfl) (by kernel_rfl) (by kernel_rfl) (fun _ _ _ h => h) (Or.inl ⟨by rfl, ?_⟩) (by assumption) ?_
  rotate_left
  · intro w hSw; obtain ⟨F_, hP_, hM_, hN_, hV_⟩ := hSw; have hg0 := cells_of hP_.hg 0 _ rfl; have hv0 := cells_of hV_ 0 _ rfl; have hv1 := cells_of hV_ 1 _ rfl; go_simp <;> with_reducible rfl
  try simp only [Act.put, List.getElem_toArray, List.getElem_cons_succ, List.getElem_cons_zero, List.setIfInBounds_toArray, List.set_cons_zero, List.set_cons_succ]
  refine wpAnyH_take (i := 10) (v := ?_) rfl (by kernel_rfl) (by kernel_rfl) (by kernel_rfl) (fun _ _ _ h => h) (Or.inl ⟨by rfl, ?_⟩) (by assumption) ?_
  rotate_left
  · intro w hSw; obtain ⟨F_, hP_, hM_, hN_, hV_⟩ := hSw; have hg0 := cells_of hP_.hg 0 _ rfl; have hv0 := cells_of hV_ 0 _ rfl; have hv1 := cells_of hV_ 1 _ rfl; go_simp <;> with_reducible rfl
  try simp only [Act.put, List.getElem_toArray, List.getElem_cons_succ, List.getElem_cons_zero, List.setIfInBounds_toArray, List.set_cons_zero, List.set_cons_succ]
  refine wpAnyH_take (i := 11) (v := ?_) rfl (by kernel_rfl) (by kernel_rfl) (by kernel_rfl) (fun _ _ _ h => h) (Or.inl ⟨by rfl, ?_⟩) (by assumption) ?_
  rotate_left
  · intro w hSw; obtain ⟨F_, hP_, hM_, hN_, hV_⟩ := hSw; have hg0 := cells_of hP_.hg 0 _ rfl; have hv0 := cells_of hV_ 0 _ rfl; have hv1 := cells_of hV_ 1 _ rfl; go_simp <;> with_reducible rfl
  try simp only [Act.put, List.getElem_toArray, List.getElem_cons_succ, List.getElem_cons_zero, List.setIfInBounds_toArray, List.set_cons_zero, List.set_cons_succ]
  refine wpAnyH_take (i := 13) (v := ?_) rfl (by kernel_rfl) (by kernel_rfl) (by kernel_rfl) (fun _ _ _ h => h) (Or.inl ⟨by rfl, ?_⟩) (by assumption) ?_
  rotate_left
  · intro w hSw; obtain ⟨F_, hP_, hM_, hN_, hV_⟩ := hSw; have hg0 := cells_of hP_.hg 0 _ rfl; have hv0 := cells_of hV_ 0 _ rfl; have hv1 := cells_of hV_ 1 _ rfl; go_simp <;> with_reducible rfl
  try simp only [Act.put, List.getElem_toArray, List.getElem_cons_succ, List.getElem_cons_zero, List.setIfInBounds_toArray, List.set_cons_zero, List.set_cons_succ]
  refine wpAnyH_take (i := 14) (v := ?_) rfl (by kernel_rfl) (by kernel_rfl) (by kernel_rfl) (fun _ _ _ h => h) (Or.inl ⟨by rfl, ?_⟩) (by assumption) ?_
  rotate_left
  · intro w hSw; obtain ⟨F_, hP_, hM_, hN_, hV_⟩ := hSw; have hg0 := cells_of hP_.hg 0 _ rfl; have hv0 := cells_of hV_ 0 _ rfl; have hv1 := cells_of hV_ 1 _ rfl; go_simp <;> with_reducible rfl
  try simp only [Act.put, List.getElem_toArray, List.getElem_cons_succ, List.getElem_cons_zero, List.setIfInBounds_toArray, List.set_cons_zero, List.set_cons_succ]
  refine wpAnyH_take (i := 15) (v := ?_) rfl (by kernel_rfl) (by kernel_rfl) (by kernel_rfl) (fun _ _ _ h => h) (Or.inl ⟨by rfl, ?_⟩) (by assumption) ?_
  rotate_left
  · intro w hSw; obtain ⟨F_, hP_, hM_, hN_, hV_⟩ := hSw; have hg0 := cells_of hP_.hg 0 _ rfl; have hv0 := cells_of hV_ 0 _ rfl; have hv1 := cells_of hV_ 1 _ rfl; go_simp <;> with_reducible rfl
  try simp only [Act.put, List.getElem_toArray, List.getElem_cons_succ, List.getElem_cons_zero, List.setIfInBounds_toArray, List.set_cons_zero, List.set_cons_succ]
  refine wpAnyH_take (i := 16) (v := ?_) rfl (by kernel_rfl) (by kernel_rfl) (by kernel_rfl) (fun _ _ _ h => h) (Or.inl ⟨by rfl, ?_⟩) (by assumption) ?_
  rotate_left
  · intro w hSw; obtain ⟨F_, hP_, hM_, hN_, hV_⟩ := hSw; have hg0 := cells_of hP_.hg 0 _ rfl; have hv0 := cells_of hV_ 0 _ rfl; have hv1 := cells_of hV_ 1 _ rfl; go_simp <;> with_reducible rfl
  try simp only [Act.put, List.getElem_toArray, List.getElem_cons_succ, List.getElem_cons_zero, List.setIfInBounds_toArray, List.set_cons_zero, List.set_cons_succ]
  refine wpAnyH_take (i := 17) (v := ?_) rfl (by kernel_rfl) (by kernel_rfl) (by kernel_rfl) (fun _ _ _ h => h) (Or.inl ⟨by rfl, ?_⟩) (by assumption) ?_
  rotate_left
  · intro w hSw; obtain ⟨F_, hP_, hM_, hN_, hV_⟩ := hSw; have hg0 := cells_of hP_.hg 0 _ rfl; have hv0 := cells_of hV_ 0 _ rfl; have hv1 := cells_of hV_ 1 _ rfl; go_simp <;> with_reducible rfl
  try simp only [Act.put, List.getElem_toArray, List.getElem_cons_succ, List.getElem_cons_zero, List.setIfInBounds_toArray, List.set_cons_zero, List.set_cons_succ]
  refine wpAnyH_take (i := 18) (v := ?_) rfl (by kernel_rfl) (by kernel_rfl) (by kernel_rfl) (fun _ _ _ h => h) (Or.inl ⟨by rfl, ?_⟩) (by assumption) ?_
  rotate_left
  · intro w hSw; obtain ⟨F_, hP_, hM_, hN_, hV_⟩ := hSw; have hg0 := cells_of hP_.hg 0 _ rfl; have hv0 := cells_of hV_ 0 _ rfl; have hv1 := cells_of hV_ 1 _ rfl; go_simp <;> with_reducible rfl
  try simp only [Act.put, List.getElem_toArray, List.getElem_cons_succ, List.getElem_cons_zero, List.setIfInBounds_toArray, List.set_cons_zero, List.set_cons_succ]
  refine wpAnyH_ready (rs := [12]) (by kernel_rfl) (by simp) ?_
  refine AllReadyH.cons rfl (fun K hK => ?_) AllReadyH.nil
  obtain ⟨F2, hP2, hM2, hN2, hV2⟩ := hHeld2
  go_simp
  refine (len_ _ F2 b s hP2.tb).mono ?_
  rintro e w3 ⟨rfl, hw3⟩
  subst hw3
  refine hK.out _ _ ⟨F2, hP2, hM2, hN2, hV2⟩ (fun hHeld2 => ?_)
  clear hK K hP2 hM2 hN2 hV2
  try simp only [Act.put, List.getElem_toArray, List.getElem_cons_succ, List.getElem_cons_zero, List.setIfInBounds_toArray, List.set_cons_zero, List.set_cons_succ]
  refine wpAnyH_take (i := 19) (v := ?_) rfl (by kernel_rfl) (by kernel_rfl) (by kernel_rfl) (fun _ _ _ h => h) (Or.inl ⟨by rfl, ?_⟩) (by assumption) ?_
  rotate_left
  · intro w hSw; obtain ⟨F_, hP_, hM_, hN_, hV_⟩ := hSw; have hg0 := cells_of hP_.hg 0 _ rfl; have hv0 := cells_of hV_ 0 _ rfl; have hv1 := cells_of hV_ 1 _ rfl; go_simp <;> with_reducible rfl
  try simp only [Act.put, List.getElem_toArray, List.getElem_cons_succ, List.getElem_cons_zero, List.setIfInBounds_toArray, List.set_cons_zero, List.set_cons_succ]
  refine wpAnyH_take (i := 20) (v := ?_) rfl (by kernel_rfl) (by kernel_rfl) (by kernel_rfl) (fun _ _ _ h => h) (Or.inl ⟨by rfl, ?_⟩) (by assumption) ?_
  rotate_left
  · intro w hSw; obtain ⟨F_, hP_, hM_, hN_, hV_⟩ := hSw; have hg0 := cells_of hP_.hg 0 _ rfl; have hv0 := cells_of hV_ 0 _ rfl; have hv1 := cells_of hV_ 1 _ rfl; go_simp <;> with_reducible rfl
  try simp only [Act.put, List.getElem_toArray, List.getElem_cons_succ, List.getElem_cons_zero, List.setIfInBounds_toArray, List.set_cons_zero, List.set_cons_succ]
  refine wpAnyH_take (i := 21) (v := ?_) rfl (by kernel_rfl) (by kernel_rfl) (by kernel_rfl) (fun _ _ _ h => h) (Or.inl ⟨by rfl, ?_⟩) (by assumption) ?_
  rotate_left
  · intro w hSw; obtain ⟨F_, hP_, hM_, hN_, hV_⟩ := hSw; have hg0 := cells_of hP_.hg 0 _ rfl; have hv0 := cells_of hV_ 0 _ rfl; have hv1 := cells_of hV_ 1 _ rfl; go_simp <;> with_reducible rfl
  try simp only [Act.put, List.getElem_toArray, List.getElem_cons_succ, List.getElem_cons_zero, List.setIfInBounds_toArray, List.set_cons_zero, List.set_cons_succ]
  refine wpAnyH_take (i := 22) (v := ?_) rfl (by kernel_rfl) (by kernel_rfl) (by kernel_rfl) (fun _ _ _ h => h) (Or.inl ⟨by rfl, ?_⟩) (by assumption) ?_
  rotate_left
  · intro w hSw; obtain ⟨F_, hP_, hM_, hN_, hV_⟩ := hSw; have hg0 := cells_of hP_.hg 0 _ rfl; have hv0 := cells_of hV_ 0 _ rfl; have hv1 := cells_of hV_ 1 _ rfl; go_simp <;> with_reducible rfl
  try simp only [Act.put, List.getElem_toArray, List.getElem_cons_succ, List.getElem_cons_zero, List.setIfInBounds_toArray, List.set_cons_zero, List.set_cons_succ]
  refine wpAnyH_take (i := 23) (v := ?_) rfl (by kernel_rfl) (by kernel_rfl) (by kernel_rfl) (fun _ _ _ h => h) (Or.inl ⟨by rfl, ?_⟩) (by assumption) ?_
  rotate_left
  · intro w hSw; obtain ⟨F_, hP_, hM_, hN_, hV_⟩ := hSw; have hg0 := cells_of hP_.hg 0 _ rfl; have hv0 := cells_of hV_ 0 _ rfl; have hv1 := cells_of hV_ 1 _ rfl; go_simp <;> with_reducible rfl
  try simp only [Act.put, List.getElem_toArray, List.getElem_cons_succ, List.getElem_cons_zero, List.setIfInBounds_toArray, List.set_cons_zero, List.set_cons_succ]
  refine wpAnyH_take (i := 25) (v := ?_) rfl (by kernel_rfl) (by kernel_rfl) (by kernel_rfl) (fun _ _ _ h => h) (Or.inl ⟨by rfl, ?_⟩) (by assumption) ?_
  rotate_left
  · intro w hSw; obtain ⟨F_, hP_, hM_, hN_, hV_⟩ := hSw; have hg0 := cells_of hP_.hg 0 _ rfl; have hv0 := cells_of hV_ 0 _ rfl; have hv1 := cells_of hV_ 1 _ rfl; go_simp <;> with_reducible rfl
  try simp only [Act.put, List.getElem_toArray, List.getElem_cons_succ, List.getElem_cons_zero, List.setIfInBounds_toArray, List.set_cons_zero, List.set_cons_succ]
  refine wpAnyH_take (i := 26) (v := ?_) rfl (by kernel_rfl) (by kernel_rfl) (by kernel_rfl) (fun _ _ _ h => h) (Or.inl ⟨by rfl, ?_⟩) (by assumption) ?_
  rotate_left
  · intro w hSw; obtain ⟨F_, hP_, hM_, hN_, hV_⟩ := hSw; have hg0 := cells_of hP_.hg 0 _ rfl; have hv0 := cells_of hV_ 0 _ rfl; have hv1 := cells_of hV_ 1 _ rfl; go_simp <;> with_reducible rfl
  try simp only [Act.put, List.getElem_toArray, List.getElem_cons_succ, List.getElem_cons_zero, List.setIfInBounds_toArray, List.set_cons_zero, List.set_cons_succ]
  refine wpAnyH_ready (rs := [24]) (by kernel_rfl) (by simp) ?_
  refine AllReadyH.cons rfl (fun K hK => ?_) AllReadyH.nil
  obtain ⟨F2, hP2, hM2, hN2, hV2⟩ := hHeld2
  go_simp
  refine (lines_ _ F2 b s hP2.tb).mono ?_
  rintro e w4 ⟨rfl, F3, hT3, hMv3⟩
  obtain ⟨hP3, hM3⟩ := hP2.step hT3 hMv3
  refine hK.out _ _ ⟨F3, hP3, hM2.trans hM3, hM3.notin (blk_lt hV2) hN2, hM3.kept hV2 hN2⟩ (fun hHeld3 => ?_)
  clear hK K hP2 hM2 hN2 hV2 hP3 hM3 hT3 hMv3
  try simp only [Act.put, List.getElem_toArray, List.getElem_cons_succ, List.getElem_cons_zero, List.setIfInBounds_toArray, List.set_cons_zero, List.set_cons_succ]
  refine wpAnyH_ready (rs := [27]) (by kernel_rfl) (by simp) ?_
  refine AllReadyH.cons rfl (fun K hK => ?_) AllReadyH.nil
  obtain ⟨F3, hP3, hM3, hN3, hV3⟩ := hHeld3
  have hB3 := hM3.below HB.out HF.out
  have hge : w0.heap.size ≤ g := HF.out g (.inr rfl)
  go_simp
  refine (scholiastref01_Buffer_Lines.calls 16385 g s _ s w0 w4 ⟨hP3.hg, hge⟩ hB3 (rlines s hP3.tb.small)).mono ?_
  rintro e w5 ⟨rfl, hI5, hB5, hK5⟩
  obtain ⟨hP5, hM5⟩ := hP3.rstep hI5.1 hK5 hB3 hB5
  refine hK.out _ _ ⟨F3, hP5, hM3.trans hM5, hN3, hM5.kept hV3 hN3⟩ (fun hHeld5 => ?_)
  clear hK K hP3 hM3 hN3 hV3 hP5 hM5 hI5 hK5
  try simp only [Act.put, List.getElem_toArray, List.getElem_cons_succ, List.getElem_cons_zero, List.setIfInBounds_toArray, List.set_cons_zero, List.set_cons_succ]
  refine wpAnyH_take (i := 28) (v := ?_) rfl (by kernel_rfl) (by kernel_rfl) (by kernel_rfl) (fun _ _ _ h => h) (Or.inl ⟨by rfl, ?_⟩) (by assumption) ?_
  rotate_left
  · intro w hSw; obtain ⟨F_, hP_, hM_, hN_, hV_⟩ := hSw; have hg0 := cells_of hP_.hg 0 _ rfl; have hv0 := cells_of hV_ 0 _ rfl; have hv1 := cells_of hV_ 1 _ rfl; go_simp <;> with_reducible rfl
  try simp only [Act.put, List.getElem_toArray, List.getElem_cons_succ, List.getElem_cons_zero, List.setIfInBounds_toArray, List.set_cons_zero, List.set_cons_succ]
  refine wpAnyH_take (i := 29) (v := ?_) rfl (by kernel_rfl) (by kernel_rfl) (by kernel_rfl) (fun _ _ _ h => h) (Or.inl ⟨by rfl, ?_⟩) (by assumption) ?_
  rotate_left
  · intro w hSw; obtain ⟨F_, hP_, hM_, hN_, hV_⟩ := hSw; have hg0 := cells_of hP_.hg 0 _ rfl; have hv0 := cells_of hV_ 0 _ rfl; have hv1 := cells_of hV_ 1 _ rfl; go_simp <;> with_reducible rfl
  try simp only [Act.put, List.getElem_toArray, List.getElem_cons_succ, List.getElem_cons_zero, List.setIfInBounds_toArray, List.set_cons_zero, List.set_cons_succ]
  refine wpAnyH_take (i := 30) (v := ?_) rfl (by kernel_rfl) (by kernel_rfl) (by kernel_rfl) (fun _ _ _ h => h) (Or.inl ⟨by rfl, ?_⟩) (by assumption) ?_
  rotate_left
  · intro w hSw; obtain ⟨F_, hP_, hM_, hN_, hV_⟩ := hSw; have hg0 := cells_of hP_.hg 0 _ rfl; have hv0 := cells_of hV_ 0 _ rfl; have hv1 := cells_of hV_ 1 _ rfl; go_simp <;> with_reducible rfl
  try simp only [Act.put, List.getElem_toArray, List.getElem_cons_succ, List.getElem_cons_zero, List.setIfInBounds_toArray, List.set_cons_zero, List.set_cons_succ]
  refine wpAnyH_done (by kernel_rfl) ?_ _
  obtain ⟨F5, hP5, hM5, _, _⟩ := hHeld5
  go_wp2
  go_ret
  exact ⟨by first | rfl | simp, F5, hP5, hM5⟩
theorem eqA_Span (d : Nat) (w : World) (x0 y0 : Int) (x1 y1 : Int) :
    (Op.equalIn (d + 2) 40 (.agg #[.int .i64 x0, .int .i64 x1]) (.agg #[.int .i64 y0, .int .i64 y1])).run Try.prog w = .ok (x0 == y0 && (x1 == y1)) w := by
  refine eqA_of Try.underlying40 (by kernel_rfl) ?_
  refine eqf_cons (by rfl) (by go_simp; rfl) (by go_simp; rfl) (by go_simp) ?_
  exact eqf_last (by rfl) (by go_simp; rfl) (by go_simp; rfl) (by go_simp)
attribute [local go_sem high] eqA_Span
set_option maxHeartbeats 8000000 in
set_option maxRecDepth 100000 in
theorem asks_ (w0 w : World) (F : Nat → Prop) (b g : Nat) (s : ByteArray) (hB : Below w0.heap.size w0 w) (hP : PB w F b g s) (hF : ∀ k, Gp F g k → w0.heap.size ≤ k) (kd n m : Int) (A : Option Addr) (le c : Nat)
    (hn : -9223372036854775808 ≤ n ∧ n ≤ 9223372036854775807) (hm : -9223372036854775808 ≤ m ∧ m ≤ 9223372036854775807) :
    Calls Try.prog 19 #[.agg #[.pointer (some ⟨b, 0, none⟩), .pointer (some ⟨g, 0, none⟩)], .agg #[.int .i64 kd, .int .i64 n, .int .i64 m, .slice A le c]] w fun e w' => e = .returned (.bool true) ∧ ∃ F1, PB w' F1 b g s ∧ Mv w w' (Gp F g) (Gp F1 g) := by
  have HB := Aside0.mk hB
  have HF := Aside0.mk hF
  have HGE := Aside0.mk (hF g (.inr rfl))
  have hlt := hP.lt
  have hbx : Below w.heap.size w ((w.alloc (.cells #[.pointer (some ⟨b, 0, none⟩), .pointer (some ⟨g, 0, none⟩)] 47)).alloc (.cells #[.int .i64 kd, .int .i64 n, .int .i64 m, .slice A le c] 49)) := below_alloc (below_alloc (Below.refl _ _) _) _
  have hvx : ((w.alloc (.cells #[.pointer (some ⟨b, 0, none⟩), .pointer (some ⟨g, 0, none⟩)] 47)).alloc (.cells #[.int .i64 kd, .int .i64 n, .int .i64 m, .slice A le c] 49)).heap[w.heap.size]? = some (.cells #[.pointer (some ⟨b, 0, none⟩), .pointer (some ⟨g, 0, none⟩)] 47 (0, 0)) := blk_alloc (blk_new w _) _
  have hox : ((w.alloc (.cells #[.pointer (some ⟨b, 0, none⟩), .pointer (some ⟨g, 0, none⟩)] 47)).alloc (.cells #[.int .i64 kd, .int .i64 n, .int .i64 m, .slice A le c] 49)).heap[w.heap.size + 1]? = some (.cells #[.int .i64 kd, .int .i64 n, .int .i64 m, .slice A le c] 49 (0, 0)) := by
    have h := blk_new (w.alloc (.cells #[.pointer (some ⟨b, 0, none⟩), .pointer (some ⟨g, 0, none⟩)] 47)) (.cells #[.int .i64 kd, .int .i64 n, .int .i64 m, .slice A le c] 49 (0, 0))
    simpa using h
  have hs1 : (w.alloc (.cells #[.pointer (some ⟨b, 0, none⟩), .pointer (some ⟨g, 0, none⟩)] 47)).heap.size = w.heap.size + 1 := by simp
  have HP2 := Aside0.mk (hP.below hbx)
  have HM2 := Aside0.mk (Mv.of_below hbx (Gp F g))
  have HVX := Aside0.mk (And.intro hvx hox)
  have HNX := Aside0.mk (show ¬ Gp F g w.heap.size ∧ ¬ Gp F g (w.heap.size + 1) from ⟨fun h => by have := hlt _ h; omega, fun h => by have := hlt _ h; omega⟩)
  clear hB hF hP hbx hvx hox
  go_enter Try.func19, Try.ntmps19
  go_upto_region 1 with (fail)
  try rw [hs1]
  generalize (w.alloc (.cells #[.pointer (some ⟨b, 0, none⟩), .pointer (some ⟨g, 0, none⟩)] 47)).alloc (.cells #[.int .i64 kd, .int .i64 n, .int .i64 m, .slice A le c] 49) = w2 at HP2 HM2 HVX ⊢
  obtain ⟨vp, hvp⟩ : ∃ x, x = w.heap.size := ⟨_, rfl⟩
  obtain ⟨vo, hvo⟩ : ∃ x, x = w.heap.size + 1 := ⟨_, rfl⟩
  rw [← hvo, ← hvp] at HVX HNX ⊢
  have HB2 := Aside0.mk (HM2.out.below HB.out HF.out)
  have HF2 := HF
  have hv0 : w2.cell? ⟨vp, 0, none⟩ = some (.pointer (some ⟨b, 0, none⟩)) := cells_of HVX.out.1 0 _ rfl
  have hv1 : w2.cell? ⟨vp, 1, none⟩ = some (.pointer (some ⟨g, 0, none⟩)) := cells_of HVX.out.1 1 _ rfl
  have ho0 : w2.cell? ⟨vo, 0, none⟩ = some (.int .i64 kd) := cells_of HVX.out.2 0 _ rfl
  have ho1 : w2.cell? ⟨vo, 1, none⟩ = some (.int .i64 n) := cells_of HVX.out.2 1 _ rfl
  have ho2 : w2.cell? ⟨vo, 2, none⟩ = some (.int .i64 m) := cells_of HVX.out.2 2 _ rfl
  clear hvp hvo hs1
  by_cases k1 : kd = 1
  · have k1b := decide_eq_true k1
    go_upto_region 4 with (go_at_call 12; refine (piece w2 F b s n m HP2.out.tb).mono ?_; rintro e w3 ⟨rfl, hB3⟩; have HP3 := Aside0.mk (HP2.out.below hB3); have HM3 := Aside0.mk (HM2.out.trans (Mv.of_below hB3 _)); have HB3 := Aside0.mk (HM3.out.below HB.out HF.out); have hv1' : w3.cell? ⟨vp, 1, none⟩ = some (.pointer (some ⟨g, 0, none⟩)) := pw_cell_below hB3 hv1; have ho1' : w3.cell? ⟨vo, 1, none⟩ = some (.int .i64 n) := pw_cell_below hB3 ho1; have ho2' : w3.cell? ⟨vo, 2, none⟩ = some (.int .i64 m) := pw_cell_below hB3 ho2; clear hB3)
    go_wp2_with (go_at_call 25; refine (scholiastref01_Buffer_Piece.calls g s n m _ _ s w0 w3 ⟨HP3.out.hg, HGE.out⟩ HB3.out (rpiece s n m)).mono ?_; rintro e w4 ⟨rfl, hI4, hB4, hK4⟩; obtain ⟨hP4, hM4⟩ := HP3.out.rstep hI4.1 hK4 HB3.out hB4; have HP4 := Aside0.mk hP4; have HM4 := Aside0.mk (HM3.out.trans hM4); clear hI4 hB4 hK4 hP4 hM4)
    repeat (go_quiet (fail); try go_wp2)
    go_ret
    exact ⟨by first | rfl | simp, F, HP4.out, HM4.out⟩
  · have k1b := decide_eq_false k1
    by_cases k2 : kd = 2
    · have k2b := decide_eq_true k2
      go_upto_region 8 with (go_at_call 14; refine (line_ w2 F b s n HP2.out.tb hn).mono ?_; rintro e w3 ⟨rfl, F3, hT3, hM3⟩; obtain ⟨hP3, hM3'⟩ := HP2.out.step hT3 hM3; have HP3 := Aside0.mk hP3; have HM3 := Aside0.mk (HM2.out.trans hM3'); have HV3 := Aside0.mk (And.intro (hM3'.kept HVX.out.1 HNX.out.1) (hM3'.kept HVX.out.2 HNX.out.2)); clear hT3 hM3 hP3 hM3')
      have hbz : Below w3.heap.size w3 (w3.alloc (.cells #[.int .i64 (lin s n).1, .int .i64 (lin s n).2.1] 40)) := below_alloc (Below.refl _ _) _
      have HP4 := Aside0.mk (HP3.out.below hbz)
      have HM4 := Aside0.mk (HM3.out.trans (Mv.of_below hbz _))
      have HB4 := Aside0.mk (HM4.out.below HB.out HF.out)
      have HZ4 := Aside0.mk (And.intro (blk_new w3 (.cells #[.int .i64 (lin s n).1, .int .i64 (lin s n).2.1] 40 (0, 0))) (show ¬ Gp F3 g w3.heap.size from fun h => by have := HP3.out.lt _ h; omega))
      have hv1' : (w3.alloc (.cells #[.int .i64 (lin s n).1, .int .i64 (lin s n).2.1] 40)).cell? ⟨vp, 1, none⟩ = some (.pointer (some ⟨g, 0, none⟩)) := pw_cell_below hbz (cells_of HV3.out.1 1 _ rfl)
      have ho1' : (w3.alloc (.cells #[.int .i64 (lin s n).1, .int .i64 (lin s n).2.1] 40)).cell? ⟨vo, 1, none⟩ = some (.int .i64 n) := pw_cell_below hbz (cells_of HV3.out.2 1 _ rfl)
      clear hbz hv0 hv1 ho0 ho1 ho2 HP3 HM3 HV3 HP2 HM2 HVX
      generalize w3.alloc (.cells #[.int .i64 (lin s n).1, .int .i64 (lin s n).2.1] 40) = w4 at HP4 HM4 HB4 HZ4 hv1' ho1' ⊢
      generalize w3.heap.size = vs at HZ4 ⊢
      go_upto_region 9 with (go_at_call 26; refine (scholiastref01_Buffer_Line.calls 40000 g s n _ _ _ s w0 w4 ⟨HP4.out.hg, HGE.out⟩ HB4.out (rline s n HP4.out.tb.small)).mono ?_; rintro e w5 ⟨rfl, hI5, hB5, hK5⟩; obtain ⟨hP5, hM5⟩ := HP4.out.rstep hI5.1 hK5 HB4.out hB5; have HP5 := Aside0.mk hP5; have HM5 := Aside0.mk (HM4.out.trans hM5); have hz := hM5.kept HZ4.out.1 HZ4.out.2; have hz0 : w5.cell? ⟨vs, 0, none⟩ = some (.int .i64 (lin s n).1) := cells_of hz 0 _ rfl; have hz1 : w5.cell? ⟨vs, 1, none⟩ = some (.int .i64 (lin s n).2.1) := cells_of hz 1 _ rfl; clear hI5 hB5 hK5 hP5 hM5 hz)
      have hy0 : (w5.alloc (.cells #[.int .i64 (lin s n).1, .int .i64 (lin s n).2.1] 40)).cell? ⟨vs, 0, none⟩ = some (.int .i64 (lin s n).1) := pw_cell_below (below_alloc (Below.refl _ _) _) hz0
      have hy1 : (w5.alloc (.cells #[.int .i64 (lin s n).1, .int .i64 (lin s n).2.1] 40)).cell? ⟨vs, 1, none⟩ = some (.int .i64 (lin s n).2.1) := pw_cell_below (below_alloc (Below.refl _ _) _) hz1
      clear hz0 hz1
      go_wp2
      repeat (go_quiet (fail); try go_wp2)
      go_ret
      exact ⟨by first | rfl | simp, F3, HP5.out.below (below_alloc (Below.refl _ _) _), HM5.out.trans (Mv.of_below (below_alloc (Below.refl _ _) _) _)⟩
    · have k2b := decide_eq_false k2
      by_cases k3 : kd = 3
      · have k3b := decide_eq_true k3
        go_upto_region 12 with (go_at_call 27; refine (place w2 F b s n HP2.out.tb hn).mono ?_; rintro e w3 ⟨F3, rfl, hT3, hM3⟩; obtain ⟨hP3, hM3'⟩ := HP2.out.step hT3 hM3; have HP3 := Aside0.mk hP3; have HM3 := Aside0.mk (HM2.out.trans hM3'); have HB3 := Aside0.mk (HM3.out.below HB.out HF.out); have hV3 := And.intro (hM3'.kept HVX.out.1 HNX.out.1) (hM3'.kept HVX.out.2 HNX.out.2); have hv1' : w3.cell? ⟨vp, 1, none⟩ = some (.pointer (some ⟨g, 0, none⟩)) := cells_of hV3.1 1 _ rfl; have ho1' : w3.cell? ⟨vo, 1, none⟩ = some (.int .i64 n) := cells_of hV3.2 1 _ rfl; clear hT3 hM3 hP3 hM3' hV3)
        go_wp2_with (go_at_call 28; refine (scholiastref01_Buffer_Place.calls 16386 g s n _ _ _ s w0 w3 ⟨HP3.out.hg, HGE.out⟩ HB3.out (rplace s n HP3.out.tb.small)).mono ?_; rintro e w4 ⟨rfl, hI4, hB4, hK4⟩; obtain ⟨hP4, hM4⟩ := HP3.out.rstep hI4.1 hK4 HB3.out hB4; have HP4 := Aside0.mk hP4; have HM4 := Aside0.mk (HM3.out.trans hM4); clear hI4 hB4 hK4 hP4 hM4)
        repeat (go_quiet (fail); try go_wp2)
        go_ret
        exact ⟨by first | rfl | simp, F3, HP4.out, HM4.out⟩
      · have k3b := decide_eq_false k3
        by_cases k4 : kd = 4
        · have k4b := decide_eq_true k4
          go_upto_region 16 with (go_at_call 29; refine (at_ w2 F b s n m HP2.out.tb hn hm).mono ?_; rintro e w3 ⟨rfl, F3, hT3, hM3⟩; obtain ⟨hP3, hM3'⟩ := HP2.out.step hT3 hM3; have HP3 := Aside0.mk hP3; have HM3 := Aside0.mk (HM2.out.trans hM3'); have HB3 := Aside0.mk (HM3.out.below HB.out HF.out); have hV3 := And.intro (hM3'.kept HVX.out.1 HNX.out.1) (hM3'.kept HVX.out.2 HNX.out.2); have hv1' : w3.cell? ⟨vp, 1, none⟩ = some (.pointer (some ⟨g, 0, none⟩)) := cells_of hV3.1 1 _ rfl; have ho1' : w3.cell? ⟨vo, 1, none⟩ = some (.int .i64 n) := cells_of hV3.2 1 _ rfl; have ho2' : w3.cell? ⟨vo, 2, none⟩ = some (.int .i64 m) := cells_of hV3.2 2 _ rfl; clear hT3 hM3 hP3 hM3' hV3)
          go_wp2_with (go_at_call 30; refine (scholiastref01_Buffer_At.calls 40000 g s n m _ _ s w0 w3 ⟨HP3.out.hg, HGE.out⟩ HB3.out (rat s n m HP3.out.tb.small hm)).mono ?_; rintro e w4 ⟨rfl, hI4, hB4, hK4⟩; obtain ⟨hP4, hM4⟩ := HP3.out.rstep hI4.1 hK4 HB3.out hB4; have HP4 := Aside0.mk hP4; have HM4 := Aside0.mk (HM3.out.trans hM4); clear hI4 hB4 hK4 hP4 hM4)
          repeat (go_quiet (fail); try go_wp2)
          go_ret
          exact ⟨by first | rfl | simp, F3, HP4.out, HM4.out⟩
        · have k4b := decide_eq_false k4
          go_wp2
          repeat (go_quiet (fail); try go_wp2)
          go_ret
          exact ⟨rfl, F, HP2.out, HM2.out⟩
end Go.Proofs.YtcbimnmpdpkefaaTB
