/- text.Buffer: its blocks under one name; New and starts. -/
import Derived.Test.YtcbimnmpdpkefaaDoorTextBuf
set_option linter.unusedVariables false
set_option linter.unusedSimpArgs false
namespace Go.Proofs.YtcbimnmpdpkefaaDoorTB
open Go.RowKit Go.Proofs.YtcbimnmpdpkefaaDoorW.PrintWords Go.Proofs.YtcbimnmpdpkefaaDoorW.PrintLast Go.Proofs.YtcbimnmpdpkefaaDoorW.PrintMore

/-- The index: not yet filled, or filled. -/
def Idx (w : World) (ok : Nat → Prop) (q : Nat) (s : ByteArray) : Prop :=
  w.heap[q]? = some (.cells #[.int .u32 0, .int .i32 0, .int .u32 0, .slice none 0 0] 85 (0, 0)) ∨
  ∃ v2, w.heap[q]? = some (.cells #[.int .u32 1, .int .i32 0, .int .u32 0, v2] 85 (0, 0)) ∧ Kd.R (Kd.int .i64) 3 w 0 ok v2 (st s)
/-- At block b lies a Buffer that holds s; all that it stands on lies in F. -/
structure TB (w : World) (F : Nat → Prop) (b : Nat) (s : ByteArray) : Prop where
  lt : ∀ k, F k → k < w.heap.size
  small : s.size ≤ 16384
  self : F b
  ex : ∃ (q : Nat) (v : Value) (ps : List ByteArray), w.heap[b]? = some (.cells #[v, .int .i64 (s.size : Int), .pointer (some ⟨q, 0, none⟩)] 87 (0, 0)) ∧
    F q ∧ Idx w (fun k => F k ∧ k ≠ b ∧ k ≠ q) q s ∧ Kd.R Kd.string 9 w 0 (fun k => F k ∧ k ≠ b ∧ k ≠ q) v ps ∧ cat ps = s ∧ ps.length ≤ 64
theorem Idx.move {w w1 : World} {ok ok' : Nat → Prop} {q : Nat} {s : ByteArray} (h : Idx w ok q s) (hq : w1.heap[q]? = w.heap[q]?) (hm : ∀ k, ok k → w1.heap[k]? = w.heap[k]?) (hok : ∀ k, ok k → ok' k) : Idx w1 ok' q s := by
  rcases h with h | ⟨v2, h, hr⟩
  · exact .inl (hq.trans h)
  · exact .inr ⟨v2, hq.trans h, Kd.R_mono (Kd.R_move hr hm) hok⟩
theorem TB.move {w w1 : World} {F : Nat → Prop} {b : Nat} {s : ByteArray} (h : TB w F b s) (hs : w.heap.size ≤ w1.heap.size) (hm : ∀ k, F k → w1.heap[k]? = w.heap[k]?) : TB w1 F b s := by
  obtain ⟨h1, h2, h3, q, v, ps, hb, hq, hi, hr, hc, hn⟩ := h
  exact ⟨fun k hk => Nat.lt_of_lt_of_le (h1 k hk) hs, h2, h3, q, v, ps, (hm b h3).trans hb, hq, hi.move (hm q hq) (fun k hk => hm k hk.1) (fun _ hk => hk), Kd.R_move hr (fun k hk => hm k hk.1), hc, hn⟩
theorem TB.below {w w1 : World} {F : Nat → Prop} {b : Nat} {s : ByteArray} (h : TB w F b s) (hb : Below w.heap.size w w1) : TB w1 F b s := h.move hb.size (fun k hk => hb.block k (h.lt k hk))
theorem TB.grown {w w1 : World} {F : Nat → Prop} {b : Nat} {s : ByteArray} (h : TB w F b s) {row : Option Nat} (hg : w.grownBy w1 row) (hn : ∀ k, F k → some k ≠ row) : TB w1 F b s := h.move hg.size (fun k hk => hg.block k (h.lt k hk) (hn k hk))
/-- What a method may have done: one block of F at most is another; what it stands on now is of F, or new. -/
structure Moved (w w1 : World) (F F1 : Nat → Prop) : Prop where
  ex : ∃ row, (∀ k, row = some k → F k) ∧ w.grownBy w1 row
  foot : ∀ k, F1 k → F k ∨ w.heap.size ≤ k
theorem Moved.size {w w1 : World} {F F1 : Nat → Prop} (h : Moved w w1 F F1) : w.heap.size ≤ w1.heap.size := by
  obtain ⟨⟨_, _, hg⟩, _⟩ := h
  exact hg.size
theorem Moved.other {w w1 : World} {F F1 F2 : Nat → Prop} {b : Nat} {s : ByteArray} (h : Moved w w1 F F1) (k : TB w F2 b s) (hd : ∀ j, F2 j → ¬ F j) : TB w1 F2 b s := by
  obtain ⟨⟨row, hr, hg⟩, _⟩ := h
  exact k.grown hg (fun j hj e => hd j hj (hr j e.symm))
theorem Moved.apart {w w1 : World} {F F1 F2 : Nat → Prop} {b : Nat} {s : ByteArray} (h : Moved w w1 F F1) (k : TB w F2 b s) (hd : ∀ j, F2 j → ¬ F j) : ∀ j, F2 j → ¬ F1 j := fun j hj h1 => by
  rcases h.foot j h1 with h2 | h2
  · exact hd j hj h2
  · have := k.lt j hj; omega
theorem Moved.refl (w : World) (F : Nat → Prop) : Moved w w F F := ⟨⟨none, (fun _ hk => nomatch hk), World.grownBy.refl w none⟩, fun _ hk => .inl hk⟩
theorem Moved.then_below {w w1 w2 : World} {F F1 : Nat → Prop} (h : Moved w w1 F F1) (hb : Below w1.heap.size w1 w2) : Moved w w2 F F1 := by
  obtain ⟨⟨row, hr, hg⟩, hf⟩ := h
  exact ⟨⟨row, hr, grown_then hg (grown_of_below hb none) (fun _ e => nomatch e)⟩, hf⟩
/-- F lies from base on: below it nothing turns. -/
theorem Moved.below {w0 w w1 : World} {F F1 : Nat → Prop} (h : Moved w w1 F F1) (hb : Below w0.heap.size w0 w) (hF : ∀ k, F k → w0.heap.size ≤ k) : Below w0.heap.size w0 w1 := by
  obtain ⟨⟨row, hr, hg⟩, _⟩ := h
  exact hb.grown hg hb.size (fun k hk => hF k (hr k hk))
theorem Moved.from_ {w0 w w1 : World} {F F1 : Nat → Prop} (h : Moved w w1 F F1) (hb : w0.heap.size ≤ w.heap.size) (hF : ∀ k, F k → w0.heap.size ≤ k) : ∀ k, F1 k → w0.heap.size ≤ k := fun k hk => by
  rcases h.foot k hk with h1 | h1
  · exact hF k h1
  · omega

theorem ds_cellN' (W : World) (a : Array Value) (t i : Nat) (u : Value) (hu : a[i]? = some u) : (W.alloc (.cells a t)).cell? ⟨W.heap.size, i, none⟩ = some u := (blk_cell (blk_new W (.cells a t (0, 0))) i).trans hu
set_option maxHeartbeats 1000000 in
set_option maxRecDepth 100000 in
/-- New, of a text that is small enough. -/
theorem new_small (s : ByteArray) (w : World) (hs : s.size ≤ 16384) :
    Calls Tryd.prog 33 #[.string s] w fun e w' => ∃ b F, e = .returned (.tuple #[.pointer (some ⟨b, 0, none⟩), .int .i64 0]) ∧ TB w' F b s ∧ (∀ k, F k → w.heap.size ≤ k) ∧ Below w.heap.size w w' := by
  have c1 : decide ((s.size : Int) > 16384) = false := decide_eq_false (by omega)
  have HS := Aside0.mk hs
  clear hs
  go_enter Tryd.func33, Tryd.ntmps33
  go_wp2
  go_ret2
  have hrow := World.ownsRow_lit (base := 0) (e := 9) (size := 1) w #[.string s] 1 (Nat.zero_le _) (by simp [maxLen]) (by simp)
  have hR : Kd.R Kd.string 9 (w.alloc (.cells #[.string s] 9)) 0 (fun k => k = w.heap.size) (.slice (some ⟨w.heap.size, 0, none⟩) 1 1) [s] := Kd.R_of_own (h1 := fun _ => rfl) hrow (fun k hk => by simpa [Value.ownBlock] using hk.symm)
  refine ⟨_, fun k => w.heap.size ≤ k ∧ k < w.heap.size + 3, rfl, ⟨fun k hk => by simpa using hk.2, HS.out, by constructor <;> omega, w.heap.size + 1, .slice (some ⟨w.heap.size, 0, none⟩) 1 1, [s], ?_, by constructor <;> omega, .inl ?_, ?_, cat_one s, by simp⟩, fun k hk => hk.1, ?_⟩
  · have h := blk_new ((w.alloc (.cells #[.string s] 9)).alloc (.cells #[.int .u32 0, .int .i32 0, .int .u32 0, .slice none 0 0] 85)) (.cells #[.slice (some ⟨w.heap.size, 0, none⟩) 1 1, .int .i64 (s.size : Int), .pointer (some ⟨w.heap.size + 1, 0, none⟩)] 87 (0, 0))
    simpa using h
  · have h := blk_new (w.alloc (.cells #[.string s] 9)) (.cells #[.int .u32 0, .int .i32 0, .int .u32 0, .slice none 0 0] 85 (0, 0))
    refine blk_alloc ?_ _
    simpa using h
  · refine Kd.R_mono (Kd.R_alloc (Kd.R_alloc hR _) _) (fun k hk => ?_)
    subst hk
    refine ⟨⟨?_, ?_⟩, ?_, ?_⟩ <;> omega
  · exact below_alloc (below_alloc (below_alloc (Below.refl _ _) _) _) _

set_option maxHeartbeats 1000000 in
set_option maxRecDepth 100000 in
/-- New, of a text that is too large. -/
theorem new_large (s : ByteArray) (w : World) (hs : ¬ s.size ≤ 16384) :
    Calls Tryd.prog 33 #[.string s] w fun e w' => e = .returned (.tuple #[.pointer none, .int .i64 11]) ∧ w' = w := by
  have c1 : decide ((s.size : Int) > 16384) = true := decide_eq_true (by omega)
  clear hs
  go_enter Tryd.func33, Tryd.ntmps33
  go_wp2
  go_ret2
  exact ⟨rfl, rfl⟩

set_option maxHeartbeats 2000000 in
set_option maxRecDepth 100000 in
/-- starts: where the lines begin; the index is filled when it is first asked for. -/
theorem starts (w : World) (F : Nat → Prop) (b : Nat) (s : ByteArray) (hT : TB w F b s) :
    Calls Tryd.prog 65 #[.pointer (some ⟨b, 0, none⟩)] w fun e w' => ∃ v F1, e = .returned v ∧ Kd.R (Kd.int .i64) 3 w' 0 F1 v (st s) ∧ TB w' F1 b s ∧ Moved w w' F F1 := by
  obtain ⟨hlt, hsm, hFb, q, v, ps, hb, hFq, hi, hr, hc, hn⟩ := hT
  obtain ⟨A0, c0, rfl⟩ := Kd.R_slice hr
  have hba : Below w.heap.size w (w.alloc (.cells #[.pointer (some ⟨b, 0, none⟩)] 52)) := below_alloc (Below.refl _ _) _
  have hbl := blk_lt hb
  have hb' := (hba.block b hbl).trans hb
  have hp := ds_cellN' w #[.pointer (some ⟨b, 0, none⟩)] 52 0 _ rfl
  have hTw : TB w F b s := ⟨hlt, hsm, hFb, q, _, ps, hb, hFq, hi, hr, hc, hn⟩
  rcases hi with hi | ⟨v2, hi, hr2⟩
  · have hql := blk_lt hi
    have hi' := (hba.block q hql).trans hi
    have hbq : b ≠ q := fun e => by
      subst e; rw [hb] at hi; cases hi
    obtain ⟨hq0, hq1, _, hq3⟩ := cells4 hi'
    have hr' := Kd.R_below hr hba
    have hRr : Kd.C Kd.string (w.alloc (.cells #[.pointer (some ⟨b, 0, none⟩)] 52)) A0 ps.length ps := by
      obtain ⟨A', c', e', _, h'⟩ := Kd.R_reads hr'
      cases e'; exact h'
    have hAne : ∀ ad, A0 = some ad → ad.block ≠ q ∧ ad.block < w.heap.size := fun ad e => by
      subst e
      have h1 := hr.1 ad.block rfl
      exact ⟨h1.2.2, hlt _ h1.1⟩
    generalize hW1 : w.alloc (.cells #[.pointer (some ⟨b, 0, none⟩)] 52) = W1 at *
    have hs1 : W1.heap.size = w.heap.size + 1 := by rw [← hW1]; simp
    have g1 := grown_set (World.grownBy.refl W1 (some q)) 1 (.int .i32 1)
    have hfill := fill ⟨w.heap.size, 0, none⟩ b q A0 c0 ps (s.size : Int) (.slice none 0 0) (W1.setCell ⟨q, 1, none⟩ (.int .i32 1)) (cell_grown g1 hp (by simp; omega)) (blk_kept g1 hb' (by simpa using hbq)) (blk_put hi' 1 _ rfl) (by simp; omega) hbq
      ⟨hRr.1, hRr.2.1, fun h0 => by
        obtain ⟨ad, e, hh⟩ := hRr.2.2 h0
        exact ⟨ad, e, fun j p hj => by
          obtain ⟨cs, h1, h2, h3⟩ := hh j p hj
          exact ⟨cs, h1, h2, fun i u hu => cell_grown g1 (h3 i u hu) (by rw [add_block]; simpa using (hAne ad e).1)⟩⟩⟩ (fun ad e => (hAne ad e).1) (by rw [← cat_size, hc]; exact hsm)
    rw [hc] at hfill
    have hdo := YtcbimnmpdpkefaaDoorOnce.do_first q 0 ⟨w.heap.size, 0, none⟩ (fun w' => ∃ v2, w'.heap[q]? = some (.cells #[.int .u32 0, .int .i32 1, .int .u32 0, v2] 85 (0, 0)) ∧ Kd.R (Kd.int .i64) 3 w' (W1.setCell ⟨q, 1, none⟩ (.int .i32 1)).heap.size (fun _ => True) v2 (st s) ∧ (W1.setCell ⟨q, 1, none⟩ (.int .i32 1)).grownBy w' (some q)) W1 hq0 hq1 (blk_frozen hi' 0) (blk_frozen hi' 1) (hfill.mono fun e w' hh => by
      obtain ⟨he, v2, h1, h2, h3⟩ := hh
      obtain ⟨k0, k1, _, _⟩ := cells4 h1
      exact ⟨he, ⟨v2, h1, h2, h3⟩, k0, k1, blk_frozen h1 0, blk_frozen h1 1⟩)
    have hb2 := (cells3 hb').2.2
    have HX := Aside0.mk hTw
    have HA := Aside0.mk hAne
    have HR := Aside0.mk hr'
    have HW := Aside0.mk hW1
    clear hW1 hTw hAne hr' hfill hr hRr hlt
    go_enter Tryd.func65, Tryd.ntmps65
    go_upto_region 1 with (fail)
    rw [HW.out]
    go_wp2_with (go_at_call 84; refine hdo.mono ?_; rintro e w9 ⟨rfl, w3, ⟨v2, h1, h2, h3⟩, hw9⟩; obtain ⟨A2, n2, rfl⟩ := Kd.R_slice h2; have g2 := grown_then g1 h3 (fun j e => .inl e.symm); have g3 : W1.grownBy w3.drew (some q) := ⟨g2.os, g2.tape, g2.output, g2.size, g2.block⟩; have g4 := grown_set (grown_set g3 0 (.int .u32 1)) 1 (.int .i32 0); have k2 := R_old_set (R_old_set (Kd.R_drew h2) (show q < (W1.setCell ⟨q, 1, none⟩ (.int .i32 1)).heap.size by have := g1.size; omega) 0 (.int .u32 1)) (show q < (W1.setCell ⟨q, 1, none⟩ (.int .i32 1)).heap.size by have := g1.size; omega) 1 (.int .i32 0); have k1 := blk_put (blk_put (blk_drew h1) 0 (.int .u32 1) rfl) 1 (.int .i32 0) rfl; rw [← hw9] at g4 k1 k2; have HG9 := Aside0.mk g4; have HQ9 := Aside0.mk k1; have HR9 := Aside0.mk k2; have hp9 := cell_grown g4 hp (by simp; omega); have hb9 := cell_grown g4 hb2 (by simpa using hbq); have hq9 := (cells4 k1).2.2.2; clear g2 g3 g4 k1 k2 h1 h2 h3 hw9)
    go_ret
    have hs2 : (W1.setCell ⟨q, 1, none⟩ (.int .i32 1)).heap.size = W1.heap.size := by simp [World.setCell]
    have hG : w.grownBy w9 (some q) := by
      have h0 := grown_of_below hba (some q)
      exact grown_then h0 HG9.out (fun j e => .inl e.symm)
    have hsz := HG9.out.size
    refine ⟨_, fun k => F k ∨ W1.heap.size ≤ k ∧ k < w9.heap.size, rfl, Kd.R_lower (Kd.R_mono (Kd.R_bound HR9.out) (fun k hk => .inr ⟨by have := hk.2.1; omega, hk.2.2.1⟩)) (Nat.zero_le _), ⟨fun k hk => ?_, hsm, .inl hFb, q, _, ps, (blk_kept HG9.out hb' (by simpa using hbq)), .inl hFq, .inr ⟨_, HQ9.out, ?_⟩, ?_, hc, hn⟩, ⟨⟨some q, (fun k hk => by cases hk; exact hFq), hG⟩, fun k hk => ?_⟩⟩
    · rcases hk with hk | hk
      · have := HX.out.lt k hk; omega
      · exact hk.2
    · refine Kd.R_lower (Kd.R_mono (Kd.R_bound HR9.out) (fun k hk => ?_)) (Nat.zero_le _)
      have h1 := hk.2.1
      have h2 := hk.2.2.1
      refine ⟨.inr ⟨by omega, h2⟩, ?_, ?_⟩ <;> omega
    · refine Kd.R_mono (Kd.R_grown HR.out HG9.out (fun k hk e => hk.2.2 (by injection e))) (fun k hk => ⟨.inl hk.1, hk.2⟩)
    · rcases hk with hk | hk
      · exact .inl hk
      · right; omega
  · obtain ⟨A2, n2, rfl⟩ := Kd.R_slice hr2
    have hb1 := (cells3 hb').2.2
    obtain ⟨hq0, _, _, hq3⟩ := cells4 ((hba.block q (blk_lt hi)).trans hi)
    go_enter Tryd.func65, Tryd.ntmps65
    go_wp2_with (go_at_call 84; refine (YtcbimnmpdpkefaaDoorOnce.do_done ⟨q, 0, none⟩ 1 (by decide) _ _ hq0).mono ?_; rintro e w' ⟨rfl, rfl⟩)
    go_ret
    exact ⟨_, F, rfl, Kd.R_mono (Kd.R_below hr2 hba) (fun k hk => hk.1), hTw.below hba, ⟨⟨none, (fun k hk => nomatch hk), grown_of_below hba none⟩, fun k hk => .inl hk⟩⟩
end Go.Proofs.YtcbimnmpdpkefaaDoorTB
