/- text.Buffer: what its blocks hold, and the contracts of its methods. -/
import Derived.Test.YtcbimnmpdpkefaaDoorHead
import Derived.Test.YtcbimnmpdpkefaaDoorOnce
import Derived.Test.YtcbimnmpdpkefaaDoorTextPure
import Derived.BigRegion
import Derived.Deep.RegionHeld3
import Derived.Deep.RegionHeld2
set_option linter.unusedVariables false
set_option linter.unusedSimpArgs false
namespace Go.Proofs.YtcbimnmpdpkefaaDoorTB
open Go.RowKit Go.Proofs.YtcbimnmpdpkefaaDoorW.PrintWords Go.Proofs.YtcbimnmpdpkefaaDoorW.PrintLast Go.Proofs.YtcbimnmpdpkefaaDoorW.PrintMore

theorem infoI : (Tryd.prog.info? 3).map (fun i => (i.zero, i.size, i.bytes)) = some (some (.int .i64 0), 1, 8) := by kernel_rfl
theorem infoS : (Tryd.prog.info? 9).map (fun i => (i.zero, i.size, i.bytes)) = some (some (.string ⟨#[]⟩), 1, 16) := by kernel_rfl

theorem cells_of {w : World} {b t : Nat} {cs : Array Value} (h : w.heap[b]? = some (.cells cs t (0, 0))) (i : Nat) (u : Value) (hu : cs[i]? = some u) : w.cell? ⟨b, i, none⟩ = some u := (blk_cell h i).trans hu
theorem blk_kept {w w1 : World} {row : Option Nat} (hg : w.grownBy w1 row) {b : Nat} {o : Obj} (h : w.heap[b]? = some o) (hne : some b ≠ row) : w1.heap[b]? = some o := by
  rw [hg.block b (Array.getElem?_eq_some_iff.1 h).1 hne]; exact h
theorem blk_lt {w : World} {b : Nat} {o : Obj} (h : w.heap[b]? = some o) : b < w.heap.size := (Array.getElem?_eq_some_iff.1 h).1

theorem at_S {w : World} {A : Option Addr} {n : Nat} {xs : List ByteArray} (h : Kd.C Kd.string w A n xs) (i : Int) (h0 : 0 ≤ i) (h1 : i < n) : ∃ ad, A = some ad ∧ w.cell? (ad.add i.toNat) = some (.string (xs.getD i.toNat ⟨#[]⟩)) := by
  obtain ⟨ad, c, e, _, hK, hc0⟩ := Kd.C_get h ⟨#[]⟩ i h0 h1
  have hK' : c = [.string (xs.getD i.toNat ⟨#[]⟩)] := hK
  subst hK'
  exact ⟨ad, e, by have := hc0 0 _ rfl; rwa [show Kd.string.sz = 1 from rfl, Nat.mul_one, Nat.add_zero] at this⟩
theorem add_block (ad : Addr) (n : Nat) : (ad.add n).block = ad.block := by unfold Addr.add; split <;> rfl
theorem drop_at (ps : List ByteArray) (i : Int) (h0 : 0 ≤ i) (h1 : i < ps.length) : ps.drop i.toNat = ps.getD i.toNat ⟨#[]⟩ :: ps.drop (i + 1).toNat := by
  have : i.toNat < ps.length := by omega
  rw [List.drop_eq_getElem_cons this, show (i + 1).toNat = i.toNat + 1 by omega]
  simp [List.getD_eq_getElem?_getD, List.getElem?_eq_getElem this]

theorem grown_set {w W : World} {q : Nat} (h : w.grownBy W (some q)) (i : Nat) (u : Value) : w.grownBy (W.setCell ⟨q, i, none⟩ u) (some q) :=
  ⟨h.os, h.tape, h.output, by simpa [World.setCell] using h.size, fun k hk hne => (Below.heap_setCell W ⟨q, i, none⟩ u k (fun e => hne (by rw [e]))).trans (h.block k hk hne)⟩
theorem grown_then {w W W1 : World} {row row2 : Option Nat} (h : w.grownBy W row) (k : W.grownBy W1 row2) (hr : ∀ j, row2 = some j → some j = row ∨ w.heap.size ≤ j) : w.grownBy W1 row :=
  ⟨k.os.trans h.os, k.tape.trans h.tape, k.output.trans h.output, Nat.le_trans h.size k.size, fun j hj hne => (k.block j (Nat.lt_of_lt_of_le hj h.size) (fun e => by rcases hr j e.symm with h1 | h1; exact hne h1; omega)).trans (h.block j hj hne)⟩
theorem R_old_set {α : Type} {d : Kd α} {e base : Nat} {W : World} {ok : Nat → Prop} {v : Value} {xs : List α} (h : Kd.R d e W base ok v xs) {q : Nat} (hq : q < base) (i : Nat) (u : Value) : Kd.R d e (W.setCell ⟨q, i, none⟩ u) base ok v xs :=
  Kd.R_mono (Kd.R_far (p := ⟨q, i, none⟩) (Kd.R_bound h) (fun k hk => by have := hk.2.1; show k ≠ q; omega) u) (fun _ hk => hk.1)
theorem R_old_grown {α : Type} {d : Kd α} {e base : Nat} {W W1 : World} {ok : Nat → Prop} {v : Value} {xs : List α} (h : Kd.R d e W base ok v xs) {q : Nat} (hq : q < base) (hg : W.grownBy W1 (some q)) : Kd.R d e W1 base ok v xs :=
  Kd.R_mono (Kd.R_grown (Kd.R_bound h) hg (fun k hk e => by have := hk.2.1; injection e with e; omega)) (fun _ hk => hk.1)
theorem cell_grown {w W : World} {row : Option Nat} (h : w.grownBy W row) {a : Addr} {u : Value} (hc : w.cell? a = some u) (hne : some a.block ≠ row) : W.cell? a = some u := h.cell hc hne
theorem cells3 {w : World} {b t : Nat} {x y z : Value} (h : w.heap[b]? = some (.cells #[x, y, z] t (0, 0))) : w.cell? ⟨b, 0, none⟩ = some x ∧ w.cell? ⟨b, 1, none⟩ = some y ∧ w.cell? ⟨b, 2, none⟩ = some z := ⟨cells_of h 0 _ rfl, cells_of h 1 _ rfl, cells_of h 2 _ rfl⟩
theorem cells4 {w : World} {b t : Nat} {x y z u : Value} (h : w.heap[b]? = some (.cells #[x, y, z, u] t (0, 0))) : w.cell? ⟨b, 0, none⟩ = some x ∧ w.cell? ⟨b, 1, none⟩ = some y ∧ w.cell? ⟨b, 2, none⟩ = some z ∧ w.cell? ⟨b, 3, none⟩ = some u := ⟨cells_of h 0 _ rfl, cells_of h 1 _ rfl, cells_of h 2 _ rfl, cells_of h 3 _ rfl⟩
set_option maxHeartbeats 2000000 in
set_option maxRecDepth 100000 in
/-- What fills the index: starts's closure, under the Once. -/
theorem fill (pl : Addr) (b q : Nat) (A : Option Addr) (c : Nat) (ps : List ByteArray) (sz : Int) (x : Value) (w : World)
    (hp : w.cell? pl = some (.pointer (some ⟨b, 0, none⟩))) (hb : w.heap[b]? = some (.cells #[.slice A ps.length c, .int .i64 sz, .pointer (some ⟨q, 0, none⟩)] 87 (0, 0)))
    (hq : w.heap[q]? = some (.cells #[.int .u32 0, .int .i32 1, .int .u32 0, x] 85 (0, 0))) (hpq : pl.block ≠ q) (hbq : b ≠ q) (hR : Kd.C Kd.string w A ps.length ps) (hAq : ∀ ad, A = some ad → ad.block ≠ q) (hs : (catL ps).length ≤ 16384) :
    Calls Tryd.prog 85 #[.pointer (some pl)] w fun e w' => e = .returned (.tuple #[]) ∧ ∃ v2, w'.heap[q]? = some (.cells #[.int .u32 0, .int .i32 1, .int .u32 0, v2] 85 (0, 0)) ∧ Kd.R (Kd.int .i64) 3 w' w.heap.size (fun _ => True) v2 (st (cat ps)) ∧ w.grownBy w' (some q) := by
  obtain ⟨hpb0, hpb1, hpb2⟩ := cells3 hb
  have hql := blk_lt hq
  have hbl := blk_lt hb
  have hpl := World.block_lt_of_cell? w pl hp
  have HQ := Aside0.mk hq
  have HR := Aside0.mk hR
  have HA := Aside0.mk hAq
  have HS := Aside0.mk hs
  clear hq hR hAq hs
  have HB := Aside0.mk (Below.refl w.heap.size w)
  go_enter Tryd.func85, Tryd.ntmps85
  go_upto_region 1 with (first | ((with_reducible refine gate_dst (N := 9) rfl ?_); refine Kd.R_lit (Kd.int .i64) _ 3 ?hg (N := 9) ?hd (xs := [(0 : Int)]) (inner := [.int .i64 0]) (ok := fun _ => True) (okp := fun _ => True) ?hr ?hp (fun _ hk => hk) trivial (Below.refl _ _) (Nat.le_refl _) (by simp) ?_; (case hd => rfl); (case hg => rfl); (case hr => first | (go_simp; done) | (go_simp; rfl)); (case hp => exact Kd.reps_scalar [(0 : Int)]); intro v4 w4 ho5 hb5 hg_ hnew_; obtain ⟨A4, c4, rfl⟩ := Kd.R_slice ho5; have HO := Aside0.mk ho5; have HG := Aside0.mk (show w.grownBy w4 (some q) from ⟨hb5.os, hb5.tape, hb5.output, hb5.size, fun k hk _ => hb5.block k hk⟩); have HQ4 := Aside0.mk (show w4.heap[q]? = _ from (hb5.block q hql).trans HQ.out); have hpb4 : w4.cell? ⟨b, 2, none⟩ = some _ := (hb5.cell hbl).trans hpb2; have hp4 : w4.cell? pl = some _ := (hb5.cell hpl).trans hp; obtain ⟨_, _, _, hq4⟩ := cells4 HQ4.out; have hf4 := blk_frozen HQ4.out 3; clear ho5 hb5 hg_ hnew_))
  have HG5 := Aside0.mk (grown_set HG.out 3 (.slice A4 [(0 : Int)].length c4))
  have HO5 := Aside0.mk (R_old_set HO.out hql 3 (.slice A4 [(0 : Int)].length c4))
  have HQ5 : Aside0 ((w4.setCell ⟨q, 3, none⟩ (.slice A4 [(0 : Int)].length c4)).heap[q]? = some (.cells #[.int .u32 0, .int .i32 1, .int .u32 0, .slice A4 [(0 : Int)].length c4] 85 (0, 0))) := ⟨blk_put HQ4.out 3 _ rfl⟩
  change Code.wp _ _ _ _ (w4.setCell ⟨q, 3, none⟩ (.slice A4 [(0 : Int)].length c4))
  clear HG HO HQ4 hpb4 hp4 hq4 hf4
  generalize w4.setCell ⟨q, 3, none⟩ (.slice A4 [(0 : Int)].length c4) = w5 at HG5 HO5 HQ5 ⊢
  have hb5 := cell_grown HG5.out hpb0 (by simpa using hbq)
  have hp5 := cell_grown HG5.out hp (by simpa using hpq)
  go_wp2
  go_loopg [1, 17] (ps.length + 1) (fun kq v1 v17 w' => ∃ (i at_ : Int) (u : Value) (out : List Int), v17 = .int .i64 i ∧ v1 = .int .i64 at_ ∧ Aside0 (0 ≤ i ∧ i ≤ (ps.length : Int) ∧ (ps.length : Int) - i < kq) ∧ Aside0 (0 ≤ at_ ∧ at_ + ((catL (ps.drop i.toNat)).length : Int) ≤ 16384 ∧ (out.length : Int) ≤ at_ + 1) ∧ Aside0 (out ++ stf at_ (catL (ps.drop i.toNat)) = st (cat ps)) ∧ Aside0 (Kd.R (Kd.int .i64) 3 w' w.heap.size (fun _ => True) u out) ∧ Aside0 (w'.heap[q]? = some (.cells #[.int .u32 0, .int .i32 1, .int .u32 0, u] 85 (0, 0))) ∧ Aside0 (w.grownBy w' (some q)))
  case atStart => exact ⟨0, 0, _, [0], rfl, rfl, ⟨by omega, by omega, by omega⟩, ⟨by omega, by have := HS.out; simpa using (by omega : (((catL ps).length : Int) ≤ 16384)), by simp⟩, ⟨by simp [st, bys_cat]⟩, HO5, HQ5, HG5⟩
  case round =>
    obtain ⟨i, at_, u, out, rfl, rfl, HI, HAt, HE, HO, HQ, HG⟩ := hrel
    obtain ⟨k1, rfl⟩ : ∃ k1, gk = k1 + 1 := ⟨gk - 1, by have := HI.out; omega⟩
    by_cases c1 : i < (ps.length : Int)
    · have c1b := decide_eq_true c1
      obtain ⟨i0, i1, i2⟩ := HI.out
      obtain ⟨ad, ead, hx⟩ := at_S HR.out i i0 c1
      have hne := HA.out ad ead
      subst ead
      have hx' := cell_grown HG.out hx (by rw [add_block]; simpa using hne)
      have p1 := eq_true i0
      have q1 := eq_true c1
      generalize hpd : ps.getD i.toNat ⟨#[]⟩ = p at hx'
      have hdr : catL (ps.drop i.toNat) = bys p ++ catL (ps.drop (i + 1).toNat) := by rw [drop_at ps i i0 c1, hpd, catL_cons]
      have HAt2 := HAt.out
      have HE2 := HE.out
      rw [hdr] at HAt2 HE2
      rw [List.length_append, bys_length] at HAt2
      have HAt2 := Aside0.mk HAt2
      have HE2 := Aside0.mk HE2
      clear HAt HE hdr hpd hx
      go_wp2
      go_loopg [23] (p.size + 1) (fun kq2 v23 w' => ∃ (j : Int) (u2 : Value) (out2 : List Int), v23 = .int .i64 j ∧ Aside0 (0 ≤ j ∧ j ≤ (p.size : Int) ∧ (p.size : Int) - j < kq2) ∧ Aside0 ((out2.length : Int) ≤ at_ + j + 1) ∧ Aside0 (out2 ++ stf (at_ + j) ((bys p).drop j.toNat ++ catL (ps.drop (i + 1).toNat)) = st (cat ps)) ∧ Aside0 (Kd.R (Kd.int .i64) 3 w' w.heap.size (fun _ => True) u2 out2) ∧ Aside0 (w'.heap[q]? = some (.cells #[.int .u32 0, .int .i32 1, .int .u32 0, u2] 85 (0, 0))) ∧ Aside0 (w.grownBy w' (some q)))
      case atStart => exact ⟨0, u, out, rfl, ⟨by omega, by omega, by omega⟩, ⟨by have := HAt2.out; omega⟩, ⟨by simpa using HE2.out⟩, HO, HQ, HG⟩
      case round =>
        obtain ⟨j, u2, out2, rfl, HJ, HLO, HEJ, HOJ, HQJ, HGJ⟩ := hrel
        obtain ⟨k2, rfl⟩ : ∃ k2, gk = k2 + 1 := ⟨gk - 1, by have := HJ.out; omega⟩
        by_cases c2 : j < (p.size : Int)
        · have c2b := decide_eq_true c2
          obtain ⟨j0, j1, j2⟩ := HJ.out
          obtain ⟨ch, hch, hbt⟩ := bys_drop p j j0 c2
          have hxj := bt_at p j
          have p2 := eq_true j0
          have q2 := eq_true c2
          by_cases c3 : bt p j = 10
          · have c3b0 : (bt p j == 10) = true := beq_iff_eq.mpr c3
            go_wp2
            obtain ⟨A2, n2c, rfl⟩ := Kd.R_slice HOJ.out
            obtain ⟨_, _, _, hq3⟩ := cells4 HQJ.out
            have hf3 := blk_frozen HQJ.out 3
            have hbj := cell_grown HGJ.out hpb2 (by simpa using hbq)
            have hpj := cell_grown HGJ.out hp (by simpa using hpq)
            have hsum1 : IntKind.i64.wrap (at_ + j) = at_ + j := IntWalk.i64_in (at_ + j) ⟨by have := HAt2.out; omega, by have := HAt2.out; omega⟩
            have hsum2 : IntKind.i64.wrap (at_ + j + 1) = at_ + j + 1 := IntWalk.i64_in (at_ + j + 1) ⟨by have := HAt2.out; omega, by have := HAt2.out; omega⟩
            have hql2 : q < wr.heap.size := blk_lt HQJ.out
            have hba_ : Below wr.heap.size wr (wr.alloc (.cells #[.int .i64 (at_ + j + 1)] 3)) := below_alloc (Below.refl _ _) _
            have hq3a := pw_cell_below hba_ hq3
            have hbja := pw_cell_below hba_ hbj
            have hpja := pw_cell_below hba_ hpj
            clear hba_
            have hqo : some q ≠ (Value.slice A2 out2.length n2c).ownBlock := fun e => by
              obtain ⟨inner, ho⟩ := Kd.R_own HOJ.out
              have := own_base ho q e.symm
              omega
            have hbo : some b ≠ (Value.slice A2 out2.length n2c).ownBlock := fun e => by
              obtain ⟨inner, ho⟩ := Kd.R_own HOJ.out
              have := own_base ho b e.symm
              omega
            have hpo : some pl.block ≠ (Value.slice A2 out2.length n2c).ownBlock := fun e => by
              obtain ⟨inner, ho⟩ := Kd.R_own HOJ.out
              have := own_base ho pl.block e.symm
              omega
            refine wp_region_held_drew (S := (fun w' => w'.cell? pl = some (.pointer (some ⟨b, 0, none⟩)) ∧ w'.cell? ⟨b, 2, none⟩ = some (.pointer (some ⟨q, 0, none⟩)))) (by kernel_rfl) ?_ (fun hHeld => ?_)
            · exact ⟨hpj, hbj⟩
            refine wpAnyH_take (i := 0) (v := ?_) rfl (by kernel_rfl) (by kernel_rfl) (by kernel_rfl) (fun _ _ _ h => h) (Or.inl ⟨by rfl, ?_⟩) (by assumption) ?_
            rotate_left
            · intro w hSw; (try dsimp only at hSw); go_simp <;> with_reducible rfl
            try simp only [Act.put, List.setIfInBounds_toArray, List.set_cons_zero, List.set_cons_succ]
            refine wpAnyH_take (i := 1) (v := ?_) rfl (by kernel_rfl) (by kernel_rfl) (by kernel_rfl) (fun _ _ _ h => h) (Or.inl ⟨by rfl, ?_⟩) (by assumption) ?_
            rotate_left
            · intro w hSw; (try dsimp only at hSw); go_simp <;> with_reducible rfl
            try simp only [Act.put, List.setIfInBounds_toArray, List.set_cons_zero, List.set_cons_succ]
            refine wpAnyH_take (i := 2) (v := ?_) rfl (by kernel_rfl) (by kernel_rfl) (by kernel_rfl) (fun _ _ _ h => h) (Or.inl ⟨by rfl, ?_⟩) (by assumption) ?_
            rotate_left
            · intro w hSw; (try dsimp only at hSw); go_simp <;> with_reducible rfl
            try simp only [Act.put, List.setIfInBounds_toArray, List.set_cons_zero, List.set_cons_succ]
            refine wpAnyH_take (i := 3) (v := ?_) rfl (by kernel_rfl) (by kernel_rfl) (by kernel_rfl) (fun _ _ _ h => h) (Or.inl ⟨by rfl, ?_⟩) (by assumption) ?_
            rotate_left
            · intro w hSw; (try dsimp only at hSw); go_simp <;> with_reducible rfl
            try simp only [Act.put, List.setIfInBounds_toArray, List.set_cons_zero, List.set_cons_succ]
            refine wpAnyH_take (i := 4) (v := ?_) rfl (by kernel_rfl) (by kernel_rfl) (by kernel_rfl) (fun _ _ _ h => h) (Or.inl ⟨by rfl, ?_⟩) (by assumption) ?_
            rotate_left
            · intro w hSw; (try dsimp only at hSw); go_simp <;> with_reducible rfl
            try simp only [Act.put, List.setIfInBounds_toArray, List.set_cons_zero, List.set_cons_succ]
            refine wpAnyH_take (i := 5) (v := ?_) rfl (by kernel_rfl) (by kernel_rfl) (by kernel_rfl) (fun _ _ _ h => h) (Or.inl ⟨by rfl, ?_⟩) (by assumption) ?_
            rotate_left
            · intro w hSw; (try dsimp only at hSw); go_simp <;> with_reducible rfl
            try simp only [Act.put, List.setIfInBounds_toArray, List.set_cons_zero, List.set_cons_succ]
            refine wpAnyH_take (i := 6) (v := ?_) rfl (by kernel_rfl) (by kernel_rfl) (by kernel_rfl) (fun _ _ _ h => h) (Or.inl ⟨by rfl, ?_⟩) (by assumption) ?_
            rotate_left
            · intro w hSw; (try dsimp only at hSw); go_simp <;> with_reducible rfl
            try simp only [Act.put, List.setIfInBounds_toArray, List.set_cons_zero, List.set_cons_succ]
            refine wpAnyH_take (i := 7) (v := ?_) rfl (by kernel_rfl) (by kernel_rfl) (by kernel_rfl) (fun _ _ _ h => h) (Or.inl ⟨by rfl, ?_⟩) (by assumption) ?_
            rotate_left
            · intro w hSw; (try dsimp only at hSw); go_simp <;> with_reducible rfl
            try simp only [Act.put, List.setIfInBounds_toArray, List.set_cons_zero, List.set_cons_succ]
            refine wpAnyH_take (i := 8) (v := ?_) rfl (by kernel_rfl) (by kernel_rfl) (by kernel_rfl) (fun _ _ _ h => h) (Or.inl ⟨by rfl, ?_⟩) (by assumption) ?_
            rotate_left
            · intro w hSw; (try dsimp only at hSw); go_simp <;> with_reducible rfl
            try simp only [Act.put, List.setIfInBounds_toArray, List.set_cons_zero, List.set_cons_succ]
            refine wpAnyH_take (i := 9) (v := ?_) rfl (by kernel_rfl) (by kernel_rfl) (by kernel_rfl) (fun _ _ _ h => h) (Or.inl ⟨by rfl, ?_⟩) (by assumption) ?_
            rotate_left
            · intro w hSw; (try dsimp only at hSw); go_simp <;> with_reducible rfl
            try simp only [Act.put, List.setIfInBounds_toArray, List.set_cons_zero, List.set_cons_succ]
            refine wpAnyH_take (i := 11) (v := ?_) rfl (by kernel_rfl) (by kernel_rfl) (by kernel_rfl) (fun _ _ _ h => h) (Or.inl ⟨by rfl, ?_⟩) (by assumption) ?_
            rotate_left
            · intro w hSw; (try dsimp only at hSw); go_simp <;> with_reducible rfl
            try simp only [Act.put, List.setIfInBounds_toArray, List.set_cons_zero, List.set_cons_succ]
            refine wpAnyH_take (i := 12) (v := ?_) rfl (by kernel_rfl) (by kernel_rfl) (by kernel_rfl) (fun _ _ _ h => h) (Or.inl ⟨by rfl, ?_⟩) (by assumption) ?_
            rotate_left
            · intro w hSw; (try dsimp only at hSw); go_simp <;> with_reducible rfl
            try simp only [Act.put, List.setIfInBounds_toArray, List.set_cons_zero, List.set_cons_succ]
            refine wpAnyH_take (i := 13) (v := ?_) rfl (by kernel_rfl) (by kernel_rfl) (by kernel_rfl) (fun _ _ _ h => h) (Or.inl ⟨by rfl, ?_⟩) (by assumption) ?_
            rotate_left
            · intro w hSw; (try dsimp only at hSw); go_simp <;> with_reducible rfl
            try simp only [Act.put, List.setIfInBounds_toArray, List.set_cons_zero, List.set_cons_succ]
            refine wpAnyH_take (i := 14) (v := ?_) rfl (by kernel_rfl) (by kernel_rfl) (by kernel_rfl) (fun _ _ _ h => h) (Or.inl ⟨by rfl, ?_⟩) (by assumption) ?_
            rotate_left
            · intro w hSw; (try dsimp only at hSw); go_simp <;> with_reducible rfl
            try simp only [Act.put, List.setIfInBounds_toArray, List.set_cons_zero, List.set_cons_succ]
            refine wpAnyH_ready (rs := [10, 15]) (by kernel_rfl) (by simp) ?_
            refine AllReadyH.cons rfl (fun K hK => ?_) (AllReadyH.cons rfl (fun K hK => ?_) AllReadyH.nil)
            · go_simp
              refine hK.out _ _ ?_ (fun hHeld => ?_)
              · exact ⟨hpj, hbj⟩
              clear hK K
              refine wpAnyH_ready (rs := [15]) (by kernel_rfl) (by simp) ?_
              refine AllReadyH.cons rfl (fun K hK => ?_) AllReadyH.nil
              go_simp
              refine hK.out _ _ ?_ (fun hHeld => ?_)
              · exact ⟨hpja, hbja⟩
              clear hK K
              refine wpAnyH_ready (rs := [16]) (by kernel_rfl) (by simp) ?_
              refine AllReadyH.cons rfl (fun K hK => ?_) AllReadyH.nil
              refine Kd.R_append_step (Kd.int .i64) (w0 := wr.drew) (W := wr.drew) w.heap.size ?hw (.tmp 40) (.tmp 45) 33 3 (.int .i64 0) 8 rfl Tryd.underlying33 infoI rfl (by decide) (by omega) (.slice A2 out2.length n2c) out2 (at_ + j + 1) [.int .i64 (at_ + j + 1)] (fun _ => True) (fun _ => False) rfl rfl rfl (fun _ hk => hk.elim) (fun _ _ => trivial) ?aO ?aB ?aS ?aL ?_; (case hw => rfl); (case aO => exact Kd.R_drew HOJ.out); (case aB => exact Below.refl _ _); (case aS => exact HGJ.out.size); (case aL => have h1_ := HLO.out; have h2_ := HAt2.out; omega); intro v1 w1 ho_ hb_ hg_ hat_; obtain ⟨A3, n3c, rfl⟩ := Kd.R_slice ho_; have HO3 := Aside0.mk ho_; have HG3 : Aside0 (World.grownBy wr w1 (Value.slice A2 out2.length n2c).ownBlock) := ⟨⟨hg_.os, hg_.tape, hg_.output, hg_.size, hg_.block⟩⟩; have HQ3 := Aside0.mk (blk_kept HG3.out HQJ.out hqo); obtain ⟨_, _, _, hq33⟩ := cells4 HQ3.out; have hf33 := blk_frozen HQ3.out 3; have hb33 := cell_grown HG3.out hbj hbo; have hp33 := cell_grown HG3.out hpj hpo; clear ho_ hb_ hg_ hat_
              refine hK.out _ _ ?_ (fun hHeld => ?_)
              · exact ⟨hp33, hb33⟩
              clear hK K
              refine wpAnyH_take (i := 17) (v := ?_) rfl (by kernel_rfl) (by kernel_rfl) (by kernel_rfl) (fun _ _ _ h => h) (Or.inl ⟨by rfl, ?_⟩) (by assumption) ?_
              rotate_left
              · intro w hSw; (try dsimp only at hSw); go_simp <;> with_reducible rfl
              try simp only [Act.put, List.setIfInBounds_toArray, List.set_cons_zero, List.set_cons_succ]
              refine wpAnyH_take (i := 18) (v := ?_) rfl (by kernel_rfl) (by kernel_rfl) (by kernel_rfl) (fun _ _ _ h => h) (Or.inl ⟨by rfl, ?_⟩) (by assumption) ?_
              rotate_left
              · intro w hSw; (try dsimp only at hSw); go_simp <;> with_reducible rfl
              try simp only [Act.put, List.setIfInBounds_toArray, List.set_cons_zero, List.set_cons_succ]
              refine wpAnyH_ready (rs := [19]) (by kernel_rfl) (by simp) ?_
              refine AllReadyH.cons rfl (fun K hK => ?_) AllReadyH.nil
              go_simp
              refine hK.out _ _ ?_ (fun hHeld => ?_)
              · exact ⟨(World.cell?_setCell_other _ ⟨q, 3, none⟩ pl _ (fun e => hpq (by rw [← e]))).trans hp33, (World.cell?_setCell_other _ ⟨q, 3, none⟩ ⟨b, 2, none⟩ _ (fun e => hbq (congrArg Addr.block e).symm)).trans hb33⟩
              clear hK K
              refine wpAnyH_done (by kernel_rfl) ?_ _
              have HO4 : Aside0 (Kd.R (Kd.int .i64) 3 (w1.setCell ⟨q, 3, none⟩ (.slice A3 (out2.length + 1) n3c)) w.heap.size (fun _ => True) (.slice A3 (out2.length + 1) n3c) (out2 ++ [at_ + j + 1])) := ⟨by
                have h_ := R_old_set HO3.out hql 3 (.slice A3 (out2.length + 1) n3c)
                rw [List.length_append, List.length_singleton] at h_
                exact h_⟩
              have HQ4 := Aside0.mk (blk_put HQ3.out 3 (.slice A3 (out2.length + 1) n3c) rfl)
              have HG4 := Aside0.mk (grown_set (grown_then HGJ.out HG3.out (fun j_ e => .inr (by
                obtain ⟨inner, ho⟩ := Kd.R_own HOJ.out
                exact own_base ho j_ e))) 3 (.slice A3 (out2.length + 1) n3c))
              go_wp2
              go_roundg k2
              case measure => omega
              case rel => exact ⟨j + 1, _, out2 ++ [at_ + j + 1], by first | rfl | (have h_ := HAt2.out; have h1_ := HJ.out; congr 1; unfold wrap64; omega), ⟨by have := HJ.out; omega⟩, ⟨by have := HLO.out; rw [List.length_append, List.length_singleton]; omega⟩, ⟨by have he := HEJ.out; rw [hch, List.cons_append, stf, if_pos (by rw [← hbt]; exact c3)] at he; rw [List.append_assoc, List.singleton_append, show at_ + (j + 1) = at_ + j + 1 by omega]; exact he⟩, HO4, HQ4, HG4⟩
            · go_simp
              refine hK.out _ _ ?_ (fun hHeld => ?_)
              · exact ⟨hpja, hbja⟩
              clear hK K
              refine wpAnyH_ready (rs := [10]) (by kernel_rfl) (by simp) ?_
              refine AllReadyH.cons rfl (fun K hK => ?_) AllReadyH.nil
              go_simp
              refine hK.out _ _ ?_ (fun hHeld => ?_)
              · exact ⟨hpja, hbja⟩
              clear hK K
              refine wpAnyH_ready (rs := [16]) (by kernel_rfl) (by simp) ?_
              refine AllReadyH.cons rfl (fun K hK => ?_) AllReadyH.nil
              refine Kd.R_append_step (Kd.int .i64) (w0 := wr.drew) (W := wr.drew) w.heap.size ?hw (.tmp 40) (.tmp 45) 33 3 (.int .i64 0) 8 rfl Tryd.underlying33 infoI rfl (by decide) (by omega) (.slice A2 out2.length n2c) out2 (at_ + j + 1) [.int .i64 (at_ + j + 1)] (fun _ => True) (fun _ => False) rfl rfl rfl (fun _ hk => hk.elim) (fun _ _ => trivial) ?aO ?aB ?aS ?aL ?_; (case hw => rfl); (case aO => exact Kd.R_drew HOJ.out); (case aB => exact Below.refl _ _); (case aS => exact HGJ.out.size); (case aL => have h1_ := HLO.out; have h2_ := HAt2.out; omega); intro v1 w1 ho_ hb_ hg_ hat_; obtain ⟨A3, n3c, rfl⟩ := Kd.R_slice ho_; have HO3 := Aside0.mk ho_; have HG3 : Aside0 (World.grownBy wr w1 (Value.slice A2 out2.length n2c).ownBlock) := ⟨⟨hg_.os, hg_.tape, hg_.output, hg_.size, hg_.block⟩⟩; have HQ3 := Aside0.mk (blk_kept HG3.out HQJ.out hqo); obtain ⟨_, _, _, hq33⟩ := cells4 HQ3.out; have hf33 := blk_frozen HQ3.out 3; have hb33 := cell_grown HG3.out hbj hbo; have hp33 := cell_grown HG3.out hpj hpo; clear ho_ hb_ hg_ hat_
              refine hK.out _ _ ?_ (fun hHeld => ?_)
              · exact ⟨hp33, hb33⟩
              clear hK K
              refine wpAnyH_take (i := 17) (v := ?_) rfl (by kernel_rfl) (by kernel_rfl) (by kernel_rfl) (fun _ _ _ h => h) (Or.inl ⟨by rfl, ?_⟩) (by assumption) ?_
              rotate_left
              · intro w hSw; (try dsimp only at hSw); go_simp <;> with_reducible rfl
              try simp only [Act.put, List.setIfInBounds_toArray, List.set_cons_zero, List.set_cons_succ]
              refine wpAnyH_take (i := 18) (v := ?_) rfl (by kernel_rfl) (by kernel_rfl) (by kernel_rfl) (fun _ _ _ h => h) (Or.inl ⟨by rfl, ?_⟩) (by assumption) ?_
              rotate_left
              · intro w hSw; (try dsimp only at hSw); go_simp <;> with_reducible rfl
              try simp only [Act.put, List.setIfInBounds_toArray, List.set_cons_zero, List.set_cons_succ]
              refine wpAnyH_ready (rs := [19]) (by kernel_rfl) (by simp) ?_
              refine AllReadyH.cons rfl (fun K hK => ?_) AllReadyH.nil
              go_simp
              refine hK.out _ _ ?_ (fun hHeld => ?_)
              · exact ⟨(World.cell?_setCell_other _ ⟨q, 3, none⟩ pl _ (fun e => hpq (by rw [← e]))).trans hp33, (World.cell?_setCell_other _ ⟨q, 3, none⟩ ⟨b, 2, none⟩ _ (fun e => hbq (congrArg Addr.block e).symm)).trans hb33⟩
              clear hK K
              refine wpAnyH_done (by kernel_rfl) ?_ _
              have HO4 : Aside0 (Kd.R (Kd.int .i64) 3 (w1.setCell ⟨q, 3, none⟩ (.slice A3 (out2.length + 1) n3c)) w.heap.size (fun _ => True) (.slice A3 (out2.length + 1) n3c) (out2 ++ [at_ + j + 1])) := ⟨by
                have h_ := R_old_set HO3.out hql 3 (.slice A3 (out2.length + 1) n3c)
                rw [List.length_append, List.length_singleton] at h_
                exact h_⟩
              have HQ4 := Aside0.mk (blk_put HQ3.out 3 (.slice A3 (out2.length + 1) n3c) rfl)
              have HG4 := Aside0.mk (grown_set (grown_then HGJ.out HG3.out (fun j_ e => .inr (by
                obtain ⟨inner, ho⟩ := Kd.R_own HOJ.out
                exact own_base ho j_ e))) 3 (.slice A3 (out2.length + 1) n3c))
              go_wp2
              go_roundg k2
              case measure => omega
              case rel => exact ⟨j + 1, _, out2 ++ [at_ + j + 1], by first | rfl | (have h_ := HAt2.out; have h1_ := HJ.out; congr 1; unfold wrap64; omega), ⟨by have := HJ.out; omega⟩, ⟨by have := HLO.out; rw [List.length_append, List.length_singleton]; omega⟩, ⟨by have he := HEJ.out; rw [hch, List.cons_append, stf, if_pos (by rw [← hbt]; exact c3)] at he; rw [List.append_assoc, List.singleton_append, show at_ + (j + 1) = at_ + j + 1 by omega]; exact he⟩, HO4, HQ4, HG4⟩
          · have c3b0 : (bt p j == 10) = false := beq_eq_false_iff_ne.mpr c3
            go_wp2
            go_roundg k2
            case measure => omega
            case rel => exact ⟨j + 1, u2, out2, by first | rfl | (have h_ := HAt2.out; have h1_ := HJ.out; congr 1; unfold wrap64; omega), ⟨by have := HJ.out; omega⟩, ⟨by have := HLO.out; omega⟩, ⟨by have he := HEJ.out; rw [hch, List.cons_append, stf, if_neg (by rw [← hbt]; exact c3)] at he; rw [show at_ + (j + 1) = at_ + j + 1 by omega]; exact he⟩, HOJ, HQJ, HGJ⟩
        · have c2b := decide_eq_false c2
          go_wp2
          go_roundg k1
          case measure => omega
          case rel => exact ⟨i + 1, at_ + (p.size : Int), u2, out2, by first | rfl | (have h_ := HR.out.2.1; congr 1; unfold wrap64; omega), by first | rfl | (have h_ := HAt2.out; congr 1; unfold wrap64; omega), ⟨by omega⟩, ⟨by have := HAt2.out; have := HLO.out; have := HJ.out; omega⟩, ⟨by have he := HEJ.out; have hj : j = (p.size : Int) := (by have := HJ.out; omega); rw [hj, show ((bys p).drop ((p.size : Int)).toNat) = [] from List.drop_eq_nil_of_le (by rw [bys_length]; omega), List.nil_append] at he; exact he⟩, HOJ, HQJ, HGJ⟩
    · have c1b := decide_eq_false c1
      go_wp2
      go_end0
      obtain ⟨i0, i1, i2⟩ := HI.out
      obtain rfl : i = ps.length := by omega
      have he := HE.out
      rw [show (ps.drop ((ps.length : Int)).toNat) = [] by simp, catL_nil] at he
      simp only [stf, List.append_nil] at he
      subst he
      exact ⟨rfl, u, HQ.out, HO.out, HG.out⟩
end Go.Proofs.YtcbimnmpdpkefaaDoorTB
