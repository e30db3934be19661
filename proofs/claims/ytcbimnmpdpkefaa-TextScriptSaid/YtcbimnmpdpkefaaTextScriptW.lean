/- TextScript: the walk. -/
import Derived.Test.YtcbimnmpdpkefaaTextScriptP
set_option linter.unusedVariables false
set_option linter.unusedSimpArgs false
namespace Go.Proofs.YtcbimnmpdpkefaaTB
open Go.RowKit Go.Proofs.YtcbimnmpdpkefaaW.PrintWords Go.Proofs.YtcbimnmpdpkefaaW.PrintLast Go.Proofs.YtcbimnmpdpkefaaW.PrintMore Go.Proofs.Ytcbimnmpdpkefaa.A

theorem apply_pair {W W1 W2 : World} {Fp F3 : Nat → Prop} {b g : Nat} {s s1 : ByteArray} (h : PB W Fp b g s) (hT : TB W1 F3 b s1) (hM : Moved W W1 Fp F3) (hg : W2.heap[g]? = some (.cells #[.string s1] 54 (0, 0))) (hgr : W1.grownBy W2 (some g)) :
    PB W2 F3 b g s1 ∧ Mv W W2 (Gp Fp g) (Gp F3 g) := by
  obtain ⟨h1, h2, h3⟩ := h.moved hT hM
  refine ⟨⟨hT.grown hgr (fun k hk e => h1 (by injection e with e; exact e ▸ hk)), h1, hg⟩, h3.trans ⟨hgr.os, hgr.tape, hgr.output, hgr.size, fun k hk hn => hgr.block k hk (fun e => hn (.inr (by injection e))), fun k hk => .inl hk⟩⟩

theorem below_of_row {w : World} {A0 : Option Addr} {l : List Ed} (hl : Kd.C kE w A0 l.length l) (ad : Addr) (e : A0 = some ad) (h0 : 0 < l.length) : ad.block < w.heap.size := by
  obtain ⟨ad', e', hx, _⟩ := at_T34 hl 0 (by omega) (by omega)
  rw [e] at e'
  obtain rfl := Option.some.inj e'
  have := World.block_lt_of_cell? w _ hx
  rwa [add_block] at this
theorem C_kept {w W : World} {A : Option Addr} {l : List Ed} (h : Kd.C kE w A l.length l) (hW : ∀ ad, A = some ad → 0 < l.length → W.heap[ad.block]? = w.heap[ad.block]?) : Kd.C kE W A l.length l := by
  obtain ⟨h1, h2, h3⟩ := h
  refine ⟨h1, h2, fun h0 => ?_⟩
  obtain ⟨ad, e, hc⟩ := h3 h0
  refine ⟨ad, e, fun j x hj => ?_⟩
  obtain ⟨c, c1, c2, c3⟩ := hc j x hj
  refine ⟨c, c1, c2, fun i u hu => ?_⟩
  rw [← c3 i u hu]
  have := hW ad e h0
  simp only [World.cell?, add_block, this]
set_option maxHeartbeats 16000000 in
set_option maxRecDepth 100000 in
theorem textScript_walk (s : ByteArray) (A1 : Option Addr) (c1 : Nat) (l : List Sp) (w : World) (hl : Kd.C kSp w A1 l.length l) (hc : l.length ≤ c1) (hlen : l.length ≤ 4398046511104)
    (hx : ∀ x ∈ l, (-9223372036854775808 ≤ x.f1 ∧ x.f1 ≤ 9223372036854775807) ∧ (-9223372036854775808 ≤ x.f2 ∧ x.f2 ≤ 9223372036854775807) ∧ x.f3.length ≤ 4398046511104 ∧ ∀ y ∈ x.f3, y.f2.size ≤ 140737488351232) :
    Calls Try.prog 5 #[.string s, .slice A1 l.length c1] w fun e w' => e = .returned (.bool true) ∧ Below w.heap.size w w' := by
  obtain ⟨kb, rb, hrb, hrb2⟩ := beyond_some s l hlen (fun x hx' => (hx x hx').2.2.1)
  have hbe := scholiastlaw01_beyond.calls kb s A1 c1 l rb w hl hc hrb
  have HBE := Aside0.mk hbe
  clear hbe hrb
  have HL := Aside0.mk hl
  have HX := Aside0.mk hx
  clear hl hx
  cases rb with
  | true =>
    go_enter Try.func5, Try.ntmps5
    go_wp2_with (go_at_call 15; refine HBE.out.mono ?_; rintro e w1 ⟨rfl, hB1⟩; have HB1 := Aside0.mk hB1; clear hB1)
    go_ret
    exact ⟨rfl, HB1.out⟩
  | false =>
    have HE := Aside0.mk (hrb2 rfl)
    clear hrb2
    by_cases hsm : s.size ≤ 16384
    · go_enter Try.func5, Try.ntmps5
      go_upto_region 3 with (go_at_call 15; refine HBE.out.mono ?_; rintro e w0 ⟨rfl, hB1⟩; have HB0 := Aside0.mk hB1; clear hB1)
      go_upto_region 4 with (go_at_call 7; refine (new_small s w0 hsm).mono ?_; rintro e w1 ⟨ba, Fa, rfl, hT, hF, hB⟩; have HTa := Aside0.mk hT; have HFa := Aside0.mk (fun k hk => Nat.le_trans HB0.out.size (hF k hk)); have HB1 := Aside0.mk (below_then HB0.out HB0.out.size hB); clear hT hF hB)
      go_upto_region 5 with (go_at_call 8; refine (rnew_small s w1 hsm).mono ?_; rintro e w3 ⟨rfl, hg, hB⟩; have HPB := Aside0.mk (PB.mk (HTa.out.below hB) (fun h => by have := HTa.out.lt _ h; omega) hg); have HGE := Aside0.mk HB1.out.size; have HB3 := Aside0.mk (below_then HB1.out HB1.out.size hB); clear hg hB)
      generalize w1.heap.size = gd at HPB HGE ⊢
      clear HTa HB0 HB1 HBE
      go_upto_region 9 with (fail)
      have hb9 : Below w3.heap.size w3 ((w3.alloc (.cells #[.pointer (some ⟨ba, 0, none⟩), .pointer (some ⟨gd, 0, none⟩)] 47)).alloc (.cells #[.pointer (some ⟨ba, 0, none⟩), .pointer (some ⟨gd, 0, none⟩)] 47)) := below_alloc (below_alloc (Below.refl _ _) _) _
      have hs9 : (w3.alloc (.cells #[.pointer (some ⟨ba, 0, none⟩), .pointer (some ⟨gd, 0, none⟩)] 47)).heap.size = w3.heap.size + 1 := by simp
      have hs9b : ((w3.alloc (.cells #[.pointer (some ⟨ba, 0, none⟩), .pointer (some ⟨gd, 0, none⟩)] 47)).alloc (.cells #[.pointer (some ⟨ba, 0, none⟩), .pointer (some ⟨gd, 0, none⟩)] 47)).heap.size = w3.heap.size + 2 := by simp
      have hvp : ((w3.alloc (.cells #[.pointer (some ⟨ba, 0, none⟩), .pointer (some ⟨gd, 0, none⟩)] 47)).alloc (.cells #[.pointer (some ⟨ba, 0, none⟩), .pointer (some ⟨gd, 0, none⟩)] 47)).heap[w3.heap.size]? = some (.cells #[.pointer (some ⟨ba, 0, none⟩), .pointer (some ⟨gd, 0, none⟩)] 47 (0, 0)) := blk_alloc (blk_new w3 _) _
      have hvl : ((w3.alloc (.cells #[.pointer (some ⟨ba, 0, none⟩), .pointer (some ⟨gd, 0, none⟩)] 47)).alloc (.cells #[.pointer (some ⟨ba, 0, none⟩), .pointer (some ⟨gd, 0, none⟩)] 47)).heap[w3.heap.size + 1]? = some (.cells #[.pointer (some ⟨ba, 0, none⟩), .pointer (some ⟨gd, 0, none⟩)] 47 (0, 0)) := by
        have h := blk_new (w3.alloc (.cells #[.pointer (some ⟨ba, 0, none⟩), .pointer (some ⟨gd, 0, none⟩)] 47)) (.cells #[.pointer (some ⟨ba, 0, none⟩), .pointer (some ⟨gd, 0, none⟩)] 47 (0, 0))
        rwa [hs9] at h
      have hvc0 : (w3.alloc (.cells #[.pointer (some ⟨ba, 0, none⟩), .pointer (some ⟨gd, 0, none⟩)] 47)).cell? ⟨w3.heap.size, 0, none⟩ = some (.pointer (some ⟨ba, 0, none⟩)) := cells_of (blk_new w3 _) 0 _ rfl
      have hvc1 : (w3.alloc (.cells #[.pointer (some ⟨ba, 0, none⟩), .pointer (some ⟨gd, 0, none⟩)] 47)).cell? ⟨w3.heap.size, 1, none⟩ = some (.pointer (some ⟨gd, 0, none⟩)) := cells_of (blk_new w3 _) 1 _ rfl
      have HV0 := Aside0.mk (And.intro hvp hvl)
      have HB9 := Aside0.mk (below_then HB3.out HB3.out.size hb9)
      have HP9 := Aside0.mk (HPB.out.below hb9)
      have HVE := Aside0.mk (show w.heap.size ≤ w3.heap.size ∧ (∀ k, Gp Fa gd k → k < w3.heap.size) from ⟨HB3.out.size, HPB.out.lt⟩)
      have HS9 := Aside0.mk hs9b
      clear hb9 hvp hvl HPB hs9b
      go_upto_region 11 with (fail)
      try rw [hs9]
      generalize (w3.alloc (.cells #[.pointer (some ⟨ba, 0, none⟩), .pointer (some ⟨gd, 0, none⟩)] 47)).alloc (.cells #[.pointer (some ⟨ba, 0, none⟩), .pointer (some ⟨gd, 0, none⟩)] 47) = w9 at HV0 HB9 HP9 HS9 ⊢
      obtain ⟨vp, hvpe⟩ : ∃ x, x = w3.heap.size := ⟨_, rfl⟩
      rw [← hvpe] at HV0 HVE HS9 ⊢
      obtain ⟨vl, hvle⟩ : ∃ x, x = vp + 1 := ⟨_, rfl⟩
      rw [← hvle] at HV0 ⊢
      have HVN := Aside0.mk (show vp ≠ vl ∧ w.heap.size ≤ vp ∧ vl = vp + 1 from ⟨by omega, HVE.out.1, hvle⟩)
      have HST := Aside0.mk (show St w9 (fun k => w.heap.size ≤ k ∧ k ≠ vp ∧ k ≠ vl) ba gd ba gd s from ⟨Fa, HP9.out, fun k hk => ⟨by
        rcases hk with hk | rfl
        · exact HFa.out k hk
        · exact HGE.out, by have := HVE.out.2 k hk; omega, by have := HVE.out.2 k hk; omega⟩, .inl ⟨rfl, rfl⟩⟩)
      clear hvc0 hvc1 hs9 hvpe hvle HB3 HVE HP9 HFa HGE HS9
      go_wp2
      go_loopg [11] (l.length + 1) (fun kq v11 w' => ∃ (i : Int) (bp gp bl gl : Nat) (t : ByteArray), v11 = .int .i64 i ∧ Aside0 (0 ≤ i ∧ i ≤ (l.length : Int) ∧ (l.length : Int) - i < kq) ∧ Aside0 (w'.heap[vp]? = some (.cells #[.pointer (some ⟨bp, 0, none⟩), .pointer (some ⟨gp, 0, none⟩)] 47 (0, 0)) ∧ w'.heap[vl]? = some (.cells #[.pointer (some ⟨bl, 0, none⟩), .pointer (some ⟨gl, 0, none⟩)] 47 (0, 0))) ∧ Aside0 (St w' (fun k => w.heap.size ≤ k ∧ k ≠ vp ∧ k ≠ vl) bp gp bl gl t) ∧ Aside0 (Below w.heap.size w w'))
      case atStart => exact ⟨0, ba, gd, ba, gd, s, rfl, ⟨by omega⟩, HV0, HST, HB9⟩
      case round =>
        clear HV0 HST HB9
        obtain ⟨i, bp, gp, bl, gl, t, rfl, HI, HV, HST, HB⟩ := hrel
        obtain ⟨k1, rfl⟩ : ∃ k1, gk = k1 + 1 := ⟨gk - 1, by have := HI.out; omega⟩
        by_cases c1 : i < (l.length : Int)
        · have c1b := decide_eq_true c1
          obtain ⟨i0, i1, i2⟩ := HI.out
          have hd := drop_consS l i i0 c1
          have hmem : rd_T49 l i ∈ l := List.mem_of_mem_drop (i := i.toNat) (by rw [hd]; exact List.mem_cons_self)
          obtain ⟨ad, A3, c3, ead, hx0, hx1, hx2, hx3, hl3, hC3⟩ := at_T49 HL.out i i0 c1
          subst ead
          replace hx0 := (HB.out.cell (World.block_lt_of_cell? w _ hx0)).trans hx0
          replace hx1 := (HB.out.cell (World.block_lt_of_cell? w _ hx1)).trans hx1
          replace hx2 := (HB.out.cell (World.block_lt_of_cell? w _ hx2)).trans hx2
          replace hx3 := (HB.out.cell (World.block_lt_of_cell? w _ hx3)).trans hx3
          have p1 := eq_true i0
          have q1 := eq_true c1
          have hxx := HX.out _ hmem
          have hxe := HE.out _ hmem
          generalize rd_T49 l i = x at *
          obtain ⟨x0, x1, x2, x3⟩ := x
          dsimp only at hx0 hx1 hx2 hx3 hl3 hC3 hxx hxe
          obtain ⟨hr1, hr2, _, hsz3⟩ := hxx
          have HC3 := Aside0.mk hC3
          have HSZ := Aside0.mk hsz3
          clear hd hmem hC3 hsz3
          go_upto_region 15 with (fail)
          have hbo : Below wr.heap.size wr (wr.alloc (.cells #[.int .i64 x0, .int .i64 x1, .int .i64 x2, .slice A3 x3.length c3] 49)) := below_alloc (Below.refl _ _) _
          have hvo := blk_new wr (.cells #[.int .i64 x0, .int .i64 x1, .int .i64 x2, .slice A3 x3.length c3] 49 (0, 0))
          have hvplt := blk_lt HV.out.1
          have hvllt := blk_lt HV.out.2
          have hso : (wr.alloc (.cells #[.int .i64 x0, .int .i64 x1, .int .i64 x2, .slice A3 x3.length c3] 49)).heap.size = wr.heap.size + 1 := by simp
          obtain ⟨vo, hvoe⟩ : ∃ x, x = wr.heap.size := ⟨_, rfl⟩
          have HO4 := Aside0.mk hvo
          have HV4 := Aside0.mk (And.intro ((hbo.block _ hvplt).trans HV.out.1) ((hbo.block _ hvllt).trans HV.out.2))
          have HST4 := Aside0.mk ((HST.out.mono (G' := (fun k => w.heap.size ≤ k ∧ k ≠ vp ∧ k ≠ vl ∧ k ≠ vo)) (fun k hk hg => ⟨hg.1, hg.2.1, hg.2.2, by omega⟩)).below hbo)
          have HB4 := Aside0.mk (below_then HB.out HB.out.size hbo)
          have HNV := Aside0.mk (show ¬ (fun k => w.heap.size ≤ k ∧ k ≠ vp ∧ k ≠ vl ∧ k ≠ vo) vp ∧ ¬ (fun k => w.heap.size ≤ k ∧ k ≠ vp ∧ k ≠ vl ∧ k ≠ vo) vl ∧ ¬ (fun k => w.heap.size ≤ k ∧ k ≠ vp ∧ k ≠ vl ∧ k ≠ vo) vo from ⟨fun h => h.2.1 rfl, fun h => h.2.2.1 rfl, fun h => h.2.2.2 rfl⟩)
          have HNW4 := Aside0.mk (show ∀ k, (wr.alloc (.cells #[.int .i64 x0, .int .i64 x1, .int .i64 x2, .slice A3 x3.length c3] 49)).heap.size ≤ k → (fun k => w.heap.size ≤ k ∧ k ≠ vp ∧ k ≠ vl ∧ k ≠ vo) k from fun k hk => ⟨Nat.le_trans HB.out.size (by omega), by omega, by omega, by omega⟩)
          have HVL := Aside0.mk (show vp < (wr.alloc (.cells #[.int .i64 x0, .int .i64 x1, .int .i64 x2, .slice A3 x3.length c3] 49)).heap.size ∧ vl < (wr.alloc (.cells #[.int .i64 x0, .int .i64 x1, .int .i64 x2, .slice A3 x3.length c3] 49)).heap.size ∧ vo < (wr.alloc (.cells #[.int .i64 x0, .int .i64 x1, .int .i64 x2, .slice A3 x3.length c3] 49)).heap.size from ⟨by omega, by omega, by omega⟩)
          clear hbo hvo hx0 hx1 hx2 hx3 HV HST HB hso
          rw [← hvoe] at HO4 ⊢
          generalize wr.alloc (.cells #[.int .i64 x0, .int .i64 x1, .int .i64 x2, .slice A3 x3.length c3] 49) = w4 at HO4 HV4 HST4 HB4 HNW4 HVL ⊢
          have hc40 : w4.cell? ⟨vp, 0, none⟩ = some (.pointer (some ⟨bp, 0, none⟩)) := cells_of HV4.out.1 0 _ rfl
          have hc41 : w4.cell? ⟨vp, 1, none⟩ = some (.pointer (some ⟨gp, 0, none⟩)) := cells_of HV4.out.1 1 _ rfl
          have ho40 : w4.cell? ⟨vo, 0, none⟩ = some (.int .i64 x0) := cells_of HO4.out 0 _ rfl
          have ho43 : w4.cell? ⟨vo, 3, none⟩ = some (.slice A3 x3.length c3) := cells_of HO4.out 3 _ rfl
          have HOL := Aside0.mk (show vo ≠ vl from by omega)
          have HOL2 := Aside0.mk (show vo ≠ vp from by omega)
          clear hvoe hvplt hvllt
          by_cases k0 : x0 = 0
          · subst k0
            have HLENT := Aside0.mk (scholiastlaw01_lent.calls A3 c3 x3 (x3 ++ [mark1, mark2]) w4 (Kd.C_below HC3.out HB4.out) hl3 (lent_some x3 hxe))
            go_upto_region 18 with (go_at_call 16; refine HLENT.out.mono ?_; rintro e w5 ⟨vx, rfl, hRx, hB5⟩; have HRX := Aside0.mk hRx; have HB45 := Aside0.mk hB5; clear hRx hB5)
            clear HLENT hc40 hc41 ho40 ho43
            obtain ⟨gx, cx, rfl, hgx0, hgx1, _⟩ := Kd.R_form HRX.out (by simp)
            have hcx : (x3 ++ [mark1, mark2]).length ≤ cx := by obtain ⟨_, _, e, h, _⟩ := Kd.R_reads HRX.out; cases e; exact h
            have hCx : Kd.C kE w5 (some ⟨gx, 0, none⟩) x3.length x3 := by obtain ⟨_, _, e, _, h⟩ := Kd.R_reads HRX.out; cases e; exact C_head h
            have hcx2 : x3.length ≤ cx := by rw [List.length_append] at hcx; omega
            have hbd : Below w5.heap.size w5 w5.drew := below_drew (Below.refl _ _)
            have HV5 := Aside0.mk (And.intro ((HB45.out.block _ HVL.out.1).trans HV4.out.1) ((HB45.out.block _ HVL.out.2.1).trans HV4.out.2))
            have HO5 := Aside0.mk ((HB45.out.block _ HVL.out.2.2).trans HO4.out)
            have HB5 := Aside0.mk (below_then HB4.out HB4.out.size HB45.out)
            have HST5 := Aside0.mk (((HST4.out.mono (G' := (fun k => (w.heap.size ≤ k ∧ k ≠ vp ∧ k ≠ vl ∧ k ≠ vo) ∧ ¬ (w4.heap.size ≤ k ∧ k < w5.heap.size))) (fun k hk hg => ⟨hg, fun h => by have := h.1; omega⟩)).below HB45.out).below hbd)
            have HNW5 := Aside0.mk (show ∀ k, w5.drew.heap.size ≤ k → (fun k => (w.heap.size ≤ k ∧ k ≠ vp ∧ k ≠ vl ∧ k ≠ vo) ∧ ¬ (w4.heap.size ≤ k ∧ k < w5.heap.size)) k from fun k hk => ⟨HNW4.out k (Nat.le_trans HB45.out.size hk), fun h => absurd h.2 (Nat.not_lt.2 hk)⟩)
            have HRB := Aside0.mk (Kd.R_drew (Kd.R_mono (Kd.R_bound HRX.out) (ok' := fun k => w4.heap.size ≤ k ∧ k < w5.heap.size) (fun k hk => ⟨hk.2.1, hk.2.2.1⟩)))
            obtain ⟨Fp, hP5, hG5, hstep5⟩ := HST5.out.p HNW5.out
            have HAP := Aside0.mk (apply_ w5.drew Fp bp t (some ⟨gx, 0, none⟩) cx x3 hP5.tb (Kd.C_drew hCx) hcx2 HSZ.out hxe)
            have HP5 := Aside0.mk hP5
            have HG5 := Aside0.mk hG5
            have HSTEP5 := Aside0.mk hstep5
            have HLT5 := Aside0.mk HVL.out
            clear hP5 hG5 hstep5 hCx HRX HST4 HV4 HO4 HNW4 HVL
            have p6 := eq_true hcx2
            have p7 : ((x3.length : Int) ≤ (cx : Int)) = True := eq_true (by omega)
            refine wp_region_held_drew (S := fun W' => W'.heap[vp]? = some (.cells #[.pointer (some ⟨bp, 0, none⟩), .pointer (some ⟨gp, 0, none⟩)] 47 (0, 0)) ∧ W'.heap[vo]? = some (.cells #[.int .i64 0, .int .i64 x1, .int .i64 x2, .slice A3 x3.length c3] 49 (0, 0))) (by kernel_rfl) ?_ (fun hHeld => ?_)
            · exact ⟨HV5.out.1, HO5.out⟩
            refine wpAnyH_take (i := 0) (v := ?_) rfl (by kernel_rfl) (by kernel_rfl) (by kernel_rfl) (fun _ _ _ h => h) (Or.inl ⟨by rfl, ?_⟩) (by assumption) ?_
            rotate_left
            · intro w hSw; obtain ⟨hV_, hO_⟩ := hSw; have hv0 := cells_of hV_ 0 _ rfl; have hv1 := cells_of hV_ 1 _ rfl; have ho3 := cells_of hO_ 3 _ rfl; go_simp <;> with_reducible rfl
            try simp only [Act.put, List.getElem_toArray, List.getElem_cons_succ, List.getElem_cons_zero, List.setIfInBounds_toArray, List.set_cons_zero, List.set_cons_succ]
            refine wpAnyH_take (i := 1) (v := ?_) rfl (by kernel_rfl) (by kernel_rfl) (by kernel_rfl) (fun _ _ _ h => h) (Or.inl ⟨by rfl, ?_⟩) (by assumption) ?_
            rotate_left
            · intro w hSw; obtain ⟨hV_, hO_⟩ := hSw; have hv0 := cells_of hV_ 0 _ rfl; have hv1 := cells_of hV_ 1 _ rfl; have ho3 := cells_of hO_ 3 _ rfl; go_simp <;> with_reducible rfl
            try simp only [Act.put, List.getElem_toArray, List.getElem_cons_succ, List.getElem_cons_zero, List.setIfInBounds_toArray, List.set_cons_zero, List.set_cons_succ]
            refine wpAnyH_take (i := 2) (v := ?_) rfl (by kernel_rfl) (by kernel_rfl) (by kernel_rfl) (fun _ _ _ h => h) (Or.inl ⟨by rfl, ?_⟩) (by assumption) ?_
            rotate_left
            · intro w hSw; obtain ⟨hV_, hO_⟩ := hSw; have hv0 := cells_of hV_ 0 _ rfl; have hv1 := cells_of hV_ 1 _ rfl; have ho3 := cells_of hO_ 3 _ rfl; go_simp <;> with_reducible rfl
            try simp only [Act.put, List.getElem_toArray, List.getElem_cons_succ, List.getElem_cons_zero, List.setIfInBounds_toArray, List.set_cons_zero, List.set_cons_succ]
            refine wpAnyH_take (i := 3) (v := ?_) rfl (by kernel_rfl) (by kernel_rfl) (by kernel_rfl) (fun _ _ _ h => h) (Or.inl ⟨by rfl, ?_⟩) (by assumption) ?_
            rotate_left
            · intro w hSw; obtain ⟨hV_, hO_⟩ := hSw; have hv0 := cells_of hV_ 0 _ rfl; have hv1 := cells_of hV_ 1 _ rfl; have ho3 := cells_of hO_ 3 _ rfl; go_simp <;> with_reducible rfl
            try simp only [Act.put, List.getElem_toArray, List.getElem_cons_succ, List.getElem_cons_zero, List.setIfInBounds_toArray, List.set_cons_zero, List.set_cons_succ]
            refine wpAnyH_take (i := 4) (v := ?_) rfl (by kernel_rfl) (by kernel_rfl) (by kernel_rfl) (fun _ _ _ h => h) (Or.inl ⟨by rfl, ?_⟩) (by assumption) ?_
            rotate_left
            · intro w hSw; obtain ⟨hV_, hO_⟩ := hSw; have hv0 := cells_of hV_ 0 _ rfl; have hv1 := cells_of hV_ 1 _ rfl; have ho3 := cells_of hO_ 3 _ rfl; go_simp <;> with_reducible rfl
            try simp only [Act.put, List.getElem_toArray, List.getElem_cons_succ, List.getElem_cons_zero, List.setIfInBounds_toArray, List.set_cons_zero, List.set_cons_succ]
            refine wpAnyH_take (i := 5) (v := ?_) rfl (by kernel_rfl) (by kernel_rfl) (by kernel_rfl) (fun _ _ _ h => h) (Or.inl ⟨by rfl, ?_⟩) (by assumption) ?_
            rotate_left
            · intro w hSw; obtain ⟨hV_, hO_⟩ := hSw; have hv0 := cells_of hV_ 0 _ rfl; have hv1 := cells_of hV_ 1 _ rfl; have ho3 := cells_of hO_ 3 _ rfl; go_simp <;> with_reducible rfl
            try simp only [Act.put, List.getElem_toArray, List.getElem_cons_succ, List.getElem_cons_zero, List.setIfInBounds_toArray, List.set_cons_zero, List.set_cons_succ]
            refine wpAnyH_take (i := 6) (v := ?_) rfl (by kernel_rfl) (by kernel_rfl) (by kernel_rfl) (fun _ _ _ h => h) (Or.inl ⟨by rfl, ?_⟩) (by assumption) ?_
            rotate_left
            · intro w hSw; obtain ⟨hV_, hO_⟩ := hSw; have hv0 := cells_of hV_ 0 _ rfl; have hv1 := cells_of hV_ 1 _ rfl; have ho3 := cells_of hO_ 3 _ rfl; go_simp <;> with_reducible rfl
            try simp only [Act.put, List.getElem_toArray, List.getElem_cons_succ, List.getElem_cons_zero, List.setIfInBounds_toArray, List.set_cons_zero, List.set_cons_succ]
            refine wpAnyH_take (i := 8) (v := ?_) rfl (by kernel_rfl) (by kernel_rfl) (by kernel_rfl) (fun _ _ _ h => h) (Or.inl ⟨by rfl, ?_⟩) (by assumption) ?_
            rotate_left
            · intro w hSw; obtain ⟨hV_, hO_⟩ := hSw; have hv0 := cells_of hV_ 0 _ rfl; have hv1 := cells_of hV_ 1 _ rfl; have ho3 := cells_of hO_ 3 _ rfl; go_simp <;> with_reducible rfl
            try simp only [Act.put, List.getElem_toArray, List.getElem_cons_succ, List.getElem_cons_zero, List.setIfInBounds_toArray, List.set_cons_zero, List.set_cons_succ]
            refine wpAnyH_take (i := 9) (v := ?_) rfl (by kernel_rfl) (by kernel_rfl) (by kernel_rfl) (fun _ _ _ h => h) (Or.inl ⟨by rfl, ?_⟩) (by assumption) ?_
            rotate_left
            · intro w hSw; obtain ⟨hV_, hO_⟩ := hSw; have hv0 := cells_of hV_ 0 _ rfl; have hv1 := cells_of hV_ 1 _ rfl; have ho3 := cells_of hO_ 3 _ rfl; go_simp <;> with_reducible rfl
            try simp only [Act.put, List.getElem_toArray, List.getElem_cons_succ, List.getElem_cons_zero, List.setIfInBounds_toArray, List.set_cons_zero, List.set_cons_succ]
            refine wpAnyH_take (i := 10) (v := ?_) rfl (by kernel_rfl) (by kernel_rfl) (by kernel_rfl) (fun _ _ _ h => h) (Or.inl ⟨by rfl, ?_⟩) (by assumption) ?_
            rotate_left
            · intro w hSw; obtain ⟨hV_, hO_⟩ := hSw; have hv0 := cells_of hV_ 0 _ rfl; have hv1 := cells_of hV_ 1 _ rfl; have ho3 := cells_of hO_ 3 _ rfl; go_simp <;> with_reducible rfl
            try simp only [Act.put, List.getElem_toArray, List.getElem_cons_succ, List.getElem_cons_zero, List.setIfInBounds_toArray, List.set_cons_zero, List.set_cons_succ]
            refine wpAnyH_take (i := 11) (v := ?_) rfl (by kernel_rfl) (by kernel_rfl) (by kernel_rfl) (fun _ _ _ h => h) (Or.inl ⟨by rfl, ?_⟩) (by assumption) ?_
            rotate_left
            · intro w hSw; obtain ⟨hV_, hO_⟩ := hSw; have hv0 := cells_of hV_ 0 _ rfl; have hv1 := cells_of hV_ 1 _ rfl; have ho3 := cells_of hO_ 3 _ rfl; go_simp <;> with_reducible rfl
            try simp only [Act.put, List.getElem_toArray, List.getElem_cons_succ, List.getElem_cons_zero, List.setIfInBounds_toArray, List.set_cons_zero, List.set_cons_succ]
            refine wpAnyH_ready (rs := [7]) (by kernel_rfl) (by simp) ?_
            refine AllReadyH.cons rfl (fun K hK => ?_) AllReadyH.nil
            go_simp
            refine HAP.out.mono ?_
            rintro e w6 ⟨rfl, F6, hT6, hM6⟩
            obtain ⟨hn6, hg6, hmv6⟩ := HP5.out.moved hT6 hM6
            refine hK.out _ _ ⟨hmv6.kept hHeld.1 (fun h => (HG5.out _ h).1.2.1 rfl), hmv6.kept hHeld.2 (fun h => (HG5.out _ h).1.2.2.2 rfl)⟩ (fun hHeld6 => ?_)
            clear hK K
            try simp only [Act.put, List.getElem_toArray, List.getElem_cons_succ, List.getElem_cons_zero, List.setIfInBounds_toArray, List.set_cons_zero, List.set_cons_succ]
            refine wpAnyH_ready (rs := [12]) (by kernel_rfl) (by simp) ?_
            refine AllReadyH.cons rfl (fun K hK => ?_) AllReadyH.nil
            go_simp
            have hB6 : Below w.heap.size w w6 := hmv6.below (below_drew HB5.out) (fun k hk => (HG5.out k hk).1.1)
            have hgge : w.heap.size ≤ gp := (HG5.out gp (.inr rfl)).1.1
            refine (rapply w6 gp t A3 c3 x3 hg6 HP5.out.tb.small (Kd.C_below HC3.out hB6) (fun ad e h0 => by have := below_of_row HC3.out ad e h0; omega) hl3 HSZ.out hxe).mono ?_
            rintro e w7 ⟨rfl, hg7, hgr7⟩
            obtain ⟨hP7, hM7⟩ := apply_pair HP5.out hT6 hM6 hg7 hgr7
            obtain ⟨hst7, hm7⟩ := HSTEP5.out w7 F6 _ hP7 hM7
            refine hK.out _ _ ⟨hm7.kept hHeld.1 (fun h => h.1.2.1 rfl), hm7.kept hHeld.2 (fun h => h.1.2.2.2 rfl)⟩ (fun hHeld7 => ?_)
            clear hK K
            try simp only [Act.put, List.getElem_toArray, List.getElem_cons_succ, List.getElem_cons_zero, List.setIfInBounds_toArray, List.set_cons_zero, List.set_cons_succ]
            refine wpAnyH_take (i := 13) (v := ?_) rfl (by kernel_rfl) (by kernel_rfl) (by kernel_rfl) (fun _ _ _ h => h) (Or.inl ⟨by rfl, ?_⟩) (by assumption) ?_
            rotate_left
            · intro w hSw; obtain ⟨hV_, hO_⟩ := hSw; have hv0 := cells_of hV_ 0 _ rfl; have hv1 := cells_of hV_ 1 _ rfl; have ho3 := cells_of hO_ 3 _ rfl; go_simp <;> with_reducible rfl
            try simp only [Act.put, List.getElem_toArray, List.getElem_cons_succ, List.getElem_cons_zero, List.setIfInBounds_toArray, List.set_cons_zero, List.set_cons_succ]
            refine wpAnyH_take (i := 14) (v := ?_) rfl (by kernel_rfl) (by kernel_rfl) (by kernel_rfl) (fun _ _ _ h => h) (Or.inl ⟨by rfl, ?_⟩) (by assumption) ?_
            rotate_left
            · intro w hSw; obtain ⟨hV_, hO_⟩ := hSw; have hv0 := cells_of hV_ 0 _ rfl; have hv1 := cells_of hV_ 1 _ rfl; have ho3 := cells_of hO_ 3 _ rfl; go_simp <;> with_reducible rfl
            try simp only [Act.put, List.getElem_toArray, List.getElem_cons_succ, List.getElem_cons_zero, List.setIfInBounds_toArray, List.set_cons_zero, List.set_cons_succ]
            refine wpAnyH_take (i := 15) (v := ?_) rfl (by kernel_rfl) (by kernel_rfl) (by kernel_rfl) (fun _ _ _ h => h) (Or.inl ⟨by rfl, ?_⟩) (by assumption) ?_
            rotate_left
            · intro w hSw; obtain ⟨hV_, hO_⟩ := hSw; have hv0 := cells_of hV_ 0 _ rfl; have hv1 := cells_of hV_ 1 _ rfl; have ho3 := cells_of hO_ 3 _ rfl; go_simp <;> with_reducible rfl
            try simp only [Act.put, List.getElem_toArray, List.getElem_cons_succ, List.getElem_cons_zero, List.setIfInBounds_toArray, List.set_cons_zero, List.set_cons_succ]
            refine wpAnyH_take (i := 16) (v := ?_) rfl (by kernel_rfl) (by kernel_rfl) (by kernel_rfl) (fun _ _ _ h => h) (Or.inl ⟨by rfl, ?_⟩) (by assumption) ?_
            rotate_left
            · intro w hSw; obtain ⟨hV_, hO_⟩ := hSw; have hv0 := cells_of hV_ 0 _ rfl; have hv1 := cells_of hV_ 1 _ rfl; have ho3 := cells_of hO_ 3 _ rfl; go_simp <;> with_reducible rfl
            try simp only [Act.put, List.getElem_toArray, List.getElem_cons_succ, List.getElem_cons_zero, List.setIfInBounds_toArray, List.set_cons_zero, List.set_cons_succ]
            refine wpAnyH_take (i := 17) (v := ?_) rfl (by kernel_rfl) (by kernel_rfl) (by kernel_rfl) (fun _ _ _ h => h) (Or.inl ⟨by rfl, ?_⟩) (by assumption) ?_
            rotate_left
            · intro w hSw; obtain ⟨hV_, hO_⟩ := hSw; have hv0 := cells_of hV_ 0 _ rfl; have hv1 := cells_of hV_ 1 _ rfl; have ho3 := cells_of hO_ 3 _ rfl; go_simp <;> with_reducible rfl
            try simp only [Act.put, List.getElem_toArray, List.getElem_cons_succ, List.getElem_cons_zero, List.setIfInBounds_toArray, List.set_cons_zero, List.set_cons_succ]
            refine wpAnyH_ready (rs := [18]) (by kernel_rfl) (by simp) ?_
            refine AllReadyH.cons rfl (fun K hK => ?_) AllReadyH.nil
            go_simp
            have hB7 : Below w.heap.size w w7 := hm7.below (below_drew HB5.out) (fun k hk => hk.1.1)
            have hR7 : Kd.R kE 34 w7 w.heap.size (fun k => w4.heap.size ≤ k ∧ k < w5.heap.size) (.slice (some ⟨gx, 0, none⟩) (x3 ++ [mark1, mark2]).length cx) (x3 ++ [mark1, mark2]) :=
              Kd.R_lower (Kd.R_move HRB.out (fun k hk => hm7.block k hk.2 (fun h => h.2 hk))) HB4.out.size
            have hlen2 : (x3 ++ [mark1, mark2]).length = x3.length + 2 := by simp
            rw [hlen2] at hR7
            obtain ⟨kst, rst, hst⟩ := still_some x3 (by omega)
            refine (scholiastlaw01_still.calls kst (fun k => w4.heap.size ≤ k ∧ k < w5.heap.size) _ (x3 ++ [mark1, mark2]) A3 c3 x3 true rst w w7 hB7 hR7 (fun W_ hk => C_kept HC3.out (fun ad e h0 => by
              have h1 := below_of_row HC3.out ad e h0
              have h2 := HB4.out.size
              rw [hk.2 ad.block (by have := hB7.size; omega) (fun h => by have := h.1; omega), hB7.block _ h1])) hl3 hst).mono ?_
            rintro e w8 ⟨rfl, _, hB8, hK8⟩
            have hv8 : w8.heap[vp]? = some (.cells #[.pointer (some ⟨bp, 0, none⟩), .pointer (some ⟨gp, 0, none⟩)] 47 (0, 0)) := (hK8.2 vp (blk_lt hHeld7.1) (fun h => by have := HLT5.out.1; have := h.1; omega)).trans hHeld7.1
            have ho8 : w8.heap[vo]? = some (.cells #[.int .i64 0, .int .i64 x1, .int .i64 x2, .slice A3 x3.length c3] 49 (0, 0)) := (hK8.2 vo (blk_lt hHeld7.2) (fun h => by have := HLT5.out.2.2; have := h.1; omega)).trans hHeld7.2
            have hl7 : w7.heap[vl]? = some (.cells #[.pointer (some ⟨bl, 0, none⟩), .pointer (some ⟨gl, 0, none⟩)] 47 (0, 0)) := hm7.kept HV5.out.2 (fun h => h.1.2.2.1 rfl)
            have hl8 : w8.heap[vl]? = some (.cells #[.pointer (some ⟨bl, 0, none⟩), .pointer (some ⟨gl, 0, none⟩)] 47 (0, 0)) := (hK8.2 vl (blk_lt hl7) (fun h => by have := HLT5.out.2.1; have := h.1; omega)).trans hl7
            refine hK.out _ _ ⟨hv8, ho8⟩ (fun hHeld8 => ?_)
            clear hK K
            try simp only [Act.put, List.getElem_toArray, List.getElem_cons_succ, List.getElem_cons_zero, List.setIfInBounds_toArray, List.set_cons_zero, List.set_cons_succ]
            refine wpAnyH_take (i := 19) (v := ?_) rfl (by kernel_rfl) (by kernel_rfl) (by kernel_rfl) (fun _ _ _ h => h) (Or.inl ⟨by rfl, ?_⟩) (by assumption) ?_
            rotate_left
            · intro w hSw; obtain ⟨hV_, hO_⟩ := hSw; have hv0 := cells_of hV_ 0 _ rfl; have hv1 := cells_of hV_ 1 _ rfl; have ho3 := cells_of hO_ 3 _ rfl; go_simp <;> with_reducible rfl
            try simp only [Act.put, List.getElem_toArray, List.getElem_cons_succ, List.getElem_cons_zero, List.setIfInBounds_toArray, List.set_cons_zero, List.set_cons_succ]
            refine wpAnyH_take (i := 20) (v := ?_) rfl (by kernel_rfl) (by kernel_rfl) (by kernel_rfl) (fun _ _ _ h => h) (Or.inl ⟨by rfl, ?_⟩) (by assumption) ?_
            rotate_left
            · intro w hSw; obtain ⟨hV_, hO_⟩ := hSw; have hv0 := cells_of hV_ 0 _ rfl; have hv1 := cells_of hV_ 1 _ rfl; have ho3 := cells_of hO_ 3 _ rfl; go_simp <;> with_reducible rfl
            try simp only [Act.put, List.getElem_toArray, List.getElem_cons_succ, List.getElem_cons_zero, List.setIfInBounds_toArray, List.set_cons_zero, List.set_cons_succ]
            refine wpAnyH_done (by kernel_rfl) ?_ _
            have HSTZ := Aside0.mk ((hst7.put hK8.1 (fun k hk hg => hK8.2 k hk hg.2)).mono (G' := (fun k => w.heap.size ≤ k ∧ k ≠ vp ∧ k ≠ vl ∧ k ≠ vo)) (fun k hk hg => hg.1))
            have HVZ := Aside0.mk (And.intro hv8 hl8)
            have HOZ := Aside0.mk ho8
            have HBZ := Aside0.mk hB8
            have HNWZ := Aside0.mk (show ∀ k, w8.heap.size ≤ k → (fun k => w.heap.size ≤ k ∧ k ≠ vp ∧ k ≠ vl ∧ k ≠ vo) k from fun k hk => (HNW5.out k (Nat.le_trans hm7.size (Nat.le_trans hK8.1 hk))).1)
            clear hHeld hHeld6 hHeld7 hHeld8 hv8 ho8 hl7 hl8 hB8 hK8 hst hR7 hB7 hst7 hm7 hP7 hM7 hg7 hgr7 hB6 hgge hn6 hg6 hmv6 hT6 hM6 HV5 HO5 HB5 HST5 HNW5 HAP HP5 HG5 HSTEP5 HRB HB45 p6 p7 hbd
            have HV5 := HVZ
            have HO5 := HOZ
            have HST5 := HSTZ
            have HB5 := HBZ
            have HNW5 := HNWZ
            clear HVZ HOZ HSTZ HBZ HNWZ
            generalize w8 = wz at HV5 HO5 HST5 HB5 HNW5 ⊢
            go_upto_region 26 with (fail)
            have hc50 : wz.cell? ⟨vp, 0, none⟩ = some (.pointer (some ⟨bp, 0, none⟩)) := cells_of HV5.out.1 0 _ rfl
            have hc51 : wz.cell? ⟨vp, 1, none⟩ = some (.pointer (some ⟨gp, 0, none⟩)) := cells_of HV5.out.1 1 _ rfl
            have ho50 : wz.cell? ⟨vo, 0, none⟩ = some (.int .i64 0) := cells_of HO5.out 0 _ rfl
            have ho51 : wz.cell? ⟨vo, 1, none⟩ = some (.int .i64 x1) := cells_of HO5.out 1 _ rfl
            have ho52 : wz.cell? ⟨vo, 2, none⟩ = some (.int .i64 x2) := cells_of HO5.out 2 _ rfl
            have ho53 : wz.cell? ⟨vo, 3, none⟩ = some (.slice A3 x3.length c3) := cells_of HO5.out 3 _ rfl
            obtain ⟨Fq, hPq, hGq, hstep⟩ := HST5.out.p HNW5.out
            have HASK := Aside0.mk (asks_ w wz Fq bp gp (applied t x3) HB5.out hPq (fun k hk => (hGq k hk).1) 0 x1 x2 A3 x3.length c3 hr1 hr2)
            have HSTEP := Aside0.mk hstep
            clear hPq hGq hstep
            go_wp2_with (first
              | (go_at_call 19; refine HASK.out.mono ?_; rintro e w6 ⟨rfl, F6, hP6, hM6⟩; obtain ⟨hst6, hm6⟩ := HSTEP.out w6 F6 _ hP6 hM6; have HV6 := Aside0.mk (And.intro (hm6.kept HV5.out.1 HNV.out.1) (hm6.kept HV5.out.2 HNV.out.2.1)); have hc60 : w6.cell? ⟨vp, 0, none⟩ = some (.pointer (some ⟨bp, 0, none⟩)) := cells_of HV6.out.1 0 _ rfl; have hc61 : w6.cell? ⟨vp, 1, none⟩ = some (.pointer (some ⟨gp, 0, none⟩)) := cells_of HV6.out.1 1 _ rfl; have HB6 := Aside0.mk (hm6.below HB5.out (fun k hk => hk.1)); have HNW6 := Aside0.mk (fun k hk => HNW5.out k (Nat.le_trans hm6.size hk)); obtain ⟨Fr, hPr, hGr, hstepr⟩ := hst6.p HNW6.out; have HSAME := Aside0.mk (same_ w w6 Fr bp gp (applied t x3) HB6.out hPr (fun k hk => (hGr k hk).1)); have HSTEPR := Aside0.mk hstepr; clear hst6 hm6 hP6 hM6 hPr hGr hstepr)
              | (go_at_call 20; refine HSAML.out.mono ?_; rintro e w8 ⟨rfl, F8, hP8, hM8⟩; obtain ⟨hst8, hm8⟩ := HSTEPS.out w8 F8 hP8 hM8; have HV8 := Aside0.mk (And.intro (hm8.kept HV7.out.1 HNV.out.1) (hm8.kept HV7.out.2 HNV.out.2.1)); have HB8 := Aside0.mk (hm8.below HB7.out (fun k hk => hk.1)); have HST8 := Aside0.mk (hst8.mono (G' := fun k => w.heap.size ≤ k ∧ k ≠ vp ∧ k ≠ vl) (fun k _ hk => ⟨hk.1, hk.2.1, hk.2.2.1⟩)); clear hst8 hm8 hP8 hM8)
              | (go_at_call 20; refine HSAME.out.mono ?_; rintro e w7 ⟨rfl, F7, hP7, hM7⟩; obtain ⟨hst7, hm7⟩ := HSTEPR.out w7 F7 _ hP7 hM7; have HV7 := Aside0.mk (And.intro (hm7.kept HV6.out.1 HNV.out.1) (hm7.kept HV6.out.2 HNV.out.2.1)); have hd70 : w7.cell? ⟨vl, 0, none⟩ = some (.pointer (some ⟨bl, 0, none⟩)) := cells_of HV7.out.2 0 _ rfl; have hd71 : w7.cell? ⟨vl, 1, none⟩ = some (.pointer (some ⟨gl, 0, none⟩)) := cells_of HV7.out.2 1 _ rfl; have HB7 := Aside0.mk (hm7.below HB6.out (fun k hk => hk.1)); have HNW7 := Aside0.mk (fun k hk => HNW6.out k (Nat.le_trans hm7.size hk)); obtain ⟨Fs, ss, hPs, hGs, hsteps⟩ := hst7.l HNW7.out; have HSAML := Aside0.mk (same_ w w7 Fs bl gl ss HB7.out hPs (fun k hk => (hGs k hk).1)); have HSTEPS := Aside0.mk hsteps; clear hst7 hm7 hP7 hM7 hPs hGs hsteps))
            repeat (go_quiet (fail); try go_wp2)
            go_roundg k1
            case measure => omega
            case rel => exact ⟨i + 1, bp, gp, bl, gl, applied t x3, by first | rfl | (congr 1; unfold wrap64; omega), ⟨by omega⟩, HV8, HST8, HB8⟩
          · have k0b := decide_eq_false k0
            by_cases k5 : x0 = 5
            · subst k5
              have hd40 : w4.cell? ⟨vl, 0, none⟩ = some (.pointer (some ⟨bl, 0, none⟩)) := cells_of HV4.out.2 0 _ rfl
              have hd41 : w4.cell? ⟨vl, 1, none⟩ = some (.pointer (some ⟨gl, 0, none⟩)) := cells_of HV4.out.2 1 _ rfl
              have hdf0 := blk_frozen HV4.out.2 0
              have hdf1 := blk_frozen HV4.out.2 1
              go_upto_region 22 with (fail)
              have hgr : w4.grownBy ((w4.setCell ⟨vl, 0, none⟩ (.pointer (some ⟨bp, 0, none⟩))).setCell ⟨vl, 1, none⟩ (.pointer (some ⟨gp, 0, none⟩))) (some vl) := grown_set (grown_set (World.grownBy.refl w4 (some vl)) 0 _) 1 _
              have hvl5 := blk_put (blk_put HV4.out.2 0 (.pointer (some ⟨bp, 0, none⟩)) rfl) 1 (.pointer (some ⟨gp, 0, none⟩)) rfl
              generalize (w4.setCell ⟨vl, 0, none⟩ (.pointer (some ⟨bp, 0, none⟩))).setCell ⟨vl, 1, none⟩ (.pointer (some ⟨gp, 0, none⟩)) = w5 at hgr hvl5 ⊢
              have HV5 := Aside0.mk (And.intro (blk_kept hgr HV4.out.1 (by intro e; injection e with e; exact HVN.out.1 e)) hvl5)
              have HO5 := Aside0.mk (blk_kept hgr HO4.out (by intro e; injection e with e; exact HOL.out e))
              have HB5 := Aside0.mk (HB4.out.grown hgr HB4.out.size (fun k hk => by injection hk with hk; have := HVN.out; omega))
              have HP5 : ∃ Fp, PB w5 Fp bp gp t ∧ ∀ k, Gp Fp gp k → (w.heap.size ≤ k ∧ k ≠ vp ∧ k ≠ vl ∧ k ≠ vo) := by
                obtain ⟨Fp, hP, h1, _⟩ := HST4.out
                exact ⟨Fp, hP.move hgr.size (fun k hk => hgr.block k (hP.lt k hk) (fun e => by injection e with e; exact (h1 k hk).2.2.1 e)), h1⟩
              obtain ⟨Fp, hP5, hG5⟩ := HP5
              have HP5 := Aside0.mk hP5
              have HG5 := Aside0.mk hG5
              have HNW5 := Aside0.mk (fun k hk => HNW4.out k (Nat.le_trans hgr.size hk))
              have hc50 : w5.cell? ⟨vp, 0, none⟩ = some (.pointer (some ⟨bp, 0, none⟩)) := cells_of HV5.out.1 0 _ rfl
              have HVL5 := Aside0.mk (show vp < w5.heap.size ∧ vl < w5.heap.size ∧ vo < w5.heap.size from ⟨blk_lt HV5.out.1, blk_lt HV5.out.2, blk_lt HO5.out⟩)
              clear hP5 hG5 hgr hvl5 hd40 hd41 hdf0 hdf1 hc40 hc41 ho40 ho43 HV4 HO4 HST4 HB4 HNW4 HVL
              go_upto_region 23 with (go_at_call 18; refine (clone_ w5 Fp bp t HP5.out.tb).mono ?_; rintro e w6 ⟨bn, Fn, rfl, hT6, hF6, hB6⟩; have HT6 := Aside0.mk hT6; have HF6 := Aside0.mk hF6; have HP6 := Aside0.mk (HP5.out.below hB6); have HV6 := Aside0.mk (And.intro ((hB6.block _ (blk_lt HV5.out.1)).trans HV5.out.1) ((hB6.block _ (blk_lt HV5.out.2)).trans HV5.out.2)); have HO6 := Aside0.mk ((hB6.block _ (blk_lt HO5.out)).trans HO5.out); have HB6 := Aside0.mk (below_then HB5.out HB5.out.size hB6); have HS6 := Aside0.mk hB6.size; clear hT6 hF6 hB6)
              have hc60 : w6.cell? ⟨vp, 0, none⟩ = some (.pointer (some ⟨bp, 0, none⟩)) := cells_of HV6.out.1 0 _ rfl
              have hc61 : w6.cell? ⟨vp, 1, none⟩ = some (.pointer (some ⟨gp, 0, none⟩)) := cells_of HV6.out.1 1 _ rfl
              have hcg6 : w6.cell? ⟨gp, 0, none⟩ = some (.string t) := cells_of HP6.out.hg 0 _ rfl
              have hba : Below w6.heap.size w6 (w6.alloc (.cells #[.string t] 54)) := below_alloc (Below.refl _ _) _
              have hvp7 := blk_alloc HV6.out.1 (.cells #[.string t] 54 (0, 0))
              have hcf0 := blk_frozen hvp7 0
              have hcf1 := blk_frozen hvp7 1
              have hc70 : (w6.alloc (.cells #[.string t] 54)).cell? ⟨vp, 0, none⟩ = some (.pointer (some ⟨bp, 0, none⟩)) := cells_of hvp7 0 _ rfl
              have hc71 : (w6.alloc (.cells #[.string t] 54)).cell? ⟨vp, 1, none⟩ = some (.pointer (some ⟨gp, 0, none⟩)) := cells_of hvp7 1 _ rfl
              have hg7 := blk_new w6 (.cells #[.string t] 54 (0, 0))
              have hs7 : (w6.alloc (.cells #[.string t] 54)).heap.size = w6.heap.size + 1 := by simp
              go_upto_region 26 with (fail)
              clear hc50 hc60 hc61 hcg6 hcf0 hcf1 hc70 hc71
              have hvpw := blk_lt HV6.out.1
              have HP7 := Aside0.mk (HP6.out.below hba)
              have HT7 := Aside0.mk (HT6.out.below hba)
              have HV7 := Aside0.mk (And.intro hvp7 (blk_alloc HV6.out.2 (.cells #[.string t] 54 (0, 0))))
              have HO7 := Aside0.mk (blk_alloc HO6.out (.cells #[.string t] 54 (0, 0)))
              have HB7 := Aside0.mk (below_then HB6.out HB6.out.size hba)
              have HG7 := Aside0.mk hg7
              generalize hgne : w6.heap.size = gn at HG7 hs7 ⊢
              generalize w6.alloc (.cells #[.string t] 54) = w7 at HP7 HT7 HV7 HO7 HB7 HG7 hs7 ⊢
              have hgr : w7.grownBy ((w7.setCell ⟨vp, 0, none⟩ (.pointer (some ⟨bn, 0, none⟩))).setCell ⟨vp, 1, none⟩ (.pointer (some ⟨gn, 0, none⟩))) (some vp) := grown_set (grown_set (World.grownBy.refl w7 (some vp)) 0 _) 1 _
              have hvp9 := blk_put (blk_put HV7.out.1 0 (.pointer (some ⟨bn, 0, none⟩)) rfl) 1 (.pointer (some ⟨gn, 0, none⟩)) rfl
              generalize (w7.setCell ⟨vp, 0, none⟩ (.pointer (some ⟨bn, 0, none⟩))).setCell ⟨vp, 1, none⟩ (.pointer (some ⟨gn, 0, none⟩)) = w9 at hgr hvp9 ⊢
              have HX9 := Aside0.mk (And.intro (blk_kept hgr HV7.out.2 (by intro e; injection e with e; exact HVN.out.1 e.symm)) (blk_kept hgr HO7.out (by intro e; injection e with e; have := HVL5.out; exact HOL2.out e)))
              have hPn : PB w9 Fn bn gn t := ⟨HT7.out.grown hgr (fun k hk e => by injection e with e; have h1 := HF6.out k hk; have h2 := HVL5.out; omega), (fun h => by have := HT6.out.lt _ h; omega), blk_kept hgr HG7.out (by intro e; injection e with e; omega)⟩
              have hPl : PB w9 Fp bp gp t := HP7.out.move hgr.size (fun k hk => hgr.block k (HP7.out.lt k hk) (fun e => by injection e with e; exact (HG5.out k hk).2.1 e))
              have HST9 := Aside0.mk (show St w9 (fun k => w.heap.size ≤ k ∧ k ≠ vp ∧ k ≠ vl ∧ k ≠ vo) bn gn bp gp t from ⟨Fn, hPn, (fun k hk => by
                rcases hk with hk | rfl
                · exact HNW5.out k (HF6.out k hk)
                · exact HNW5.out k (by rw [← hgne]; exact HS6.out)), .inr ⟨Fp, t, hPl, HG5.out, fun k hk hn => by
                have h1 := HP5.out.lt k hk
                rcases hn with hn | rfl
                · have := HF6.out k hn; omega
                · have := HS6.out; omega⟩⟩)
              have HB9 := Aside0.mk (HB7.out.grown hgr HB7.out.size (fun k hk => by injection hk with hk; have := HVN.out; omega))
              have HNW9 := Aside0.mk (fun k hk => HNW5.out k (Nat.le_trans (Nat.le_trans HS6.out (by omega)) (Nat.le_trans hgr.size hk)))
              have HVP9 := Aside0.mk hvp9
              clear hgr hvp9 hPn hPl hba hvp7 hg7 hvpw HP7 HT7 HV7 HO7 HB7 HG7 HP6 HT6 HV6 HO6 HB6 HF6 HP5 HV5 HO5 HB5 HNW5 HVL5
              have HV5 := Aside0.mk (And.intro HVP9.out HX9.out.1)
              have HO5 := Aside0.mk HX9.out.2
              have HST5 := HST9
              have HB5 := HB9
              have HNW5 := HNW9
              clear HVP9 HX9 HST9 HB9 HNW9
              have hc50 : w9.cell? ⟨vp, 0, none⟩ = some (.pointer (some ⟨bn, 0, none⟩)) := cells_of HV5.out.1 0 _ rfl
              have hc51 : w9.cell? ⟨vp, 1, none⟩ = some (.pointer (some ⟨gn, 0, none⟩)) := cells_of HV5.out.1 1 _ rfl
              have ho50 : w9.cell? ⟨vo, 0, none⟩ = some (.int .i64 5) := cells_of HO5.out 0 _ rfl
              have ho51 : w9.cell? ⟨vo, 1, none⟩ = some (.int .i64 x1) := cells_of HO5.out 1 _ rfl
              have ho52 : w9.cell? ⟨vo, 2, none⟩ = some (.int .i64 x2) := cells_of HO5.out 2 _ rfl
              have ho53 : w9.cell? ⟨vo, 3, none⟩ = some (.slice A3 x3.length c3) := cells_of HO5.out 3 _ rfl
              obtain ⟨Fq, hPq, hGq, hstep⟩ := HST5.out.p HNW5.out
              have HASK := Aside0.mk (asks_ w w9 Fq bn gn t HB5.out hPq (fun k hk => (hGq k hk).1) 5 x1 x2 A3 x3.length c3 hr1 hr2)
              have HSTEP := Aside0.mk hstep
              clear hPq hGq hstep
              go_wp2_with (first
                | (go_at_call 19; refine HASK.out.mono ?_; rintro e w6 ⟨rfl, F6, hP6, hM6⟩; obtain ⟨hst6, hm6⟩ := HSTEP.out w6 F6 _ hP6 hM6; have HV6 := Aside0.mk (And.intro (hm6.kept HV5.out.1 HNV.out.1) (hm6.kept HV5.out.2 HNV.out.2.1)); have hc60 : w6.cell? ⟨vp, 0, none⟩ = some (.pointer (some ⟨bn, 0, none⟩)) := cells_of HV6.out.1 0 _ rfl; have hc61 : w6.cell? ⟨vp, 1, none⟩ = some (.pointer (some ⟨gn, 0, none⟩)) := cells_of HV6.out.1 1 _ rfl; have HB6 := Aside0.mk (hm6.below HB5.out (fun k hk => hk.1)); have HNW6 := Aside0.mk (fun k hk => HNW5.out k (Nat.le_trans hm6.size hk)); obtain ⟨Fr, hPr, hGr, hstepr⟩ := hst6.p HNW6.out; have HSAME := Aside0.mk (same_ w w6 Fr bn gn t HB6.out hPr (fun k hk => (hGr k hk).1)); have HSTEPR := Aside0.mk hstepr; clear hst6 hm6 hP6 hM6 hPr hGr hstepr)
                | (go_at_call 20; refine HSAML.out.mono ?_; rintro e w8 ⟨rfl, F8, hP8, hM8⟩; obtain ⟨hst8, hm8⟩ := HSTEPS.out w8 F8 hP8 hM8; have HV8 := Aside0.mk (And.intro (hm8.kept HV7.out.1 HNV.out.1) (hm8.kept HV7.out.2 HNV.out.2.1)); have HB8 := Aside0.mk (hm8.below HB7.out (fun k hk => hk.1)); have HST8 := Aside0.mk (hst8.mono (G' := fun k => w.heap.size ≤ k ∧ k ≠ vp ∧ k ≠ vl) (fun k _ hk => ⟨hk.1, hk.2.1, hk.2.2.1⟩)); clear hst8 hm8 hP8 hM8)
                | (go_at_call 20; refine HSAME.out.mono ?_; rintro e w7 ⟨rfl, F7, hP7, hM7⟩; obtain ⟨hst7, hm7⟩ := HSTEPR.out w7 F7 _ hP7 hM7; have HV7 := Aside0.mk (And.intro (hm7.kept HV6.out.1 HNV.out.1) (hm7.kept HV6.out.2 HNV.out.2.1)); have hd70 : w7.cell? ⟨vl, 0, none⟩ = some (.pointer (some ⟨bp, 0, none⟩)) := cells_of HV7.out.2 0 _ rfl; have hd71 : w7.cell? ⟨vl, 1, none⟩ = some (.pointer (some ⟨gp, 0, none⟩)) := cells_of HV7.out.2 1 _ rfl; have HB7 := Aside0.mk (hm7.below HB6.out (fun k hk => hk.1)); have HNW7 := Aside0.mk (fun k hk => HNW6.out k (Nat.le_trans hm7.size hk)); obtain ⟨Fs, ss, hPs, hGs, hsteps⟩ := hst7.l HNW7.out; have HSAML := Aside0.mk (same_ w w7 Fs bp gp ss HB7.out hPs (fun k hk => (hGs k hk).1)); have HSTEPS := Aside0.mk hsteps; clear hst7 hm7 hP7 hM7 hPs hGs hsteps))
              repeat (go_quiet (fail); try go_wp2)
              go_roundg k1
              case measure => omega
              case rel => exact ⟨i + 1, bn, gn, bp, gp, t, by first | rfl | (congr 1; unfold wrap64; omega), ⟨by omega⟩, HV8, HST8, HB8⟩
            · have k5b := decide_eq_false k5
              go_upto_region 26 with (fail)
              have HV5 := HV4
              have HO5 := HO4
              have HST5 := HST4
              have HB5 := HB4
              have HNW5 := HNW4
              clear HV4 HO4 HST4 HB4 HNW4 hc40 hc41 ho40 ho43
              have hc50 : w4.cell? ⟨vp, 0, none⟩ = some (.pointer (some ⟨bp, 0, none⟩)) := cells_of HV5.out.1 0 _ rfl
              have hc51 : w4.cell? ⟨vp, 1, none⟩ = some (.pointer (some ⟨gp, 0, none⟩)) := cells_of HV5.out.1 1 _ rfl
              have ho50 : w4.cell? ⟨vo, 0, none⟩ = some (.int .i64 x0) := cells_of HO5.out 0 _ rfl
              have ho51 : w4.cell? ⟨vo, 1, none⟩ = some (.int .i64 x1) := cells_of HO5.out 1 _ rfl
              have ho52 : w4.cell? ⟨vo, 2, none⟩ = some (.int .i64 x2) := cells_of HO5.out 2 _ rfl
              have ho53 : w4.cell? ⟨vo, 3, none⟩ = some (.slice A3 x3.length c3) := cells_of HO5.out 3 _ rfl
              obtain ⟨Fq, hPq, hGq, hstep⟩ := HST5.out.p HNW5.out
              have HASK := Aside0.mk (asks_ w w4 Fq bp gp t HB5.out hPq (fun k hk => (hGq k hk).1) x0 x1 x2 A3 x3.length c3 hr1 hr2)
              have HSTEP := Aside0.mk hstep
              clear hPq hGq hstep
              go_wp2_with (first
                | (go_at_call 19; refine HASK.out.mono ?_; rintro e w6 ⟨rfl, F6, hP6, hM6⟩; obtain ⟨hst6, hm6⟩ := HSTEP.out w6 F6 _ hP6 hM6; have HV6 := Aside0.mk (And.intro (hm6.kept HV5.out.1 HNV.out.1) (hm6.kept HV5.out.2 HNV.out.2.1)); have hc60 : w6.cell? ⟨vp, 0, none⟩ = some (.pointer (some ⟨bp, 0, none⟩)) := cells_of HV6.out.1 0 _ rfl; have hc61 : w6.cell? ⟨vp, 1, none⟩ = some (.pointer (some ⟨gp, 0, none⟩)) := cells_of HV6.out.1 1 _ rfl; have HB6 := Aside0.mk (hm6.below HB5.out (fun k hk => hk.1)); have HNW6 := Aside0.mk (fun k hk => HNW5.out k (Nat.le_trans hm6.size hk)); obtain ⟨Fr, hPr, hGr, hstepr⟩ := hst6.p HNW6.out; have HSAME := Aside0.mk (same_ w w6 Fr bp gp t HB6.out hPr (fun k hk => (hGr k hk).1)); have HSTEPR := Aside0.mk hstepr; clear hst6 hm6 hP6 hM6 hPr hGr hstepr)
                | (go_at_call 20; refine HSAML.out.mono ?_; rintro e w8 ⟨rfl, F8, hP8, hM8⟩; obtain ⟨hst8, hm8⟩ := HSTEPS.out w8 F8 hP8 hM8; have HV8 := Aside0.mk (And.intro (hm8.kept HV7.out.1 HNV.out.1) (hm8.kept HV7.out.2 HNV.out.2.1)); have HB8 := Aside0.mk (hm8.below HB7.out (fun k hk => hk.1)); have HST8 := Aside0.mk (hst8.mono (G' := fun k => w.heap.size ≤ k ∧ k ≠ vp ∧ k ≠ vl) (fun k _ hk => ⟨hk.1, hk.2.1, hk.2.2.1⟩)); clear hst8 hm8 hP8 hM8)
                | (go_at_call 20; refine HSAME.out.mono ?_; rintro e w7 ⟨rfl, F7, hP7, hM7⟩; obtain ⟨hst7, hm7⟩ := HSTEPR.out w7 F7 _ hP7 hM7; have HV7 := Aside0.mk (And.intro (hm7.kept HV6.out.1 HNV.out.1) (hm7.kept HV6.out.2 HNV.out.2.1)); have hd70 : w7.cell? ⟨vl, 0, none⟩ = some (.pointer (some ⟨bl, 0, none⟩)) := cells_of HV7.out.2 0 _ rfl; have hd71 : w7.cell? ⟨vl, 1, none⟩ = some (.pointer (some ⟨gl, 0, none⟩)) := cells_of HV7.out.2 1 _ rfl; have HB7 := Aside0.mk (hm7.below HB6.out (fun k hk => hk.1)); have HNW7 := Aside0.mk (fun k hk => HNW6.out k (Nat.le_trans hm7.size hk)); obtain ⟨Fs, ss, hPs, hGs, hsteps⟩ := hst7.l HNW7.out; have HSAML := Aside0.mk (same_ w w7 Fs bl gl ss HB7.out hPs (fun k hk => (hGs k hk).1)); have HSTEPS := Aside0.mk hsteps; clear hst7 hm7 hP7 hM7 hPs hGs hsteps))
              repeat (go_quiet (fail); try go_wp2)
              go_roundg k1
              case measure => omega
              case rel => exact ⟨i + 1, bp, gp, bl, gl, t, by first | rfl | (congr 1; unfold wrap64; omega), ⟨by omega⟩, HV8, HST8, HB8⟩
        · have c1b := decide_eq_false c1
          have HNWX := Aside0.mk (show ∀ k, wr.heap.size ≤ k → w.heap.size ≤ k ∧ k ≠ vp ∧ k ≠ vl from fun k hk => ⟨Nat.le_trans HB.out.size hk, by have := blk_lt HV.out.1; omega, by have := blk_lt HV.out.2; omega⟩)
          have hc0 : wr.cell? ⟨vp, 0, none⟩ = some (.pointer (some ⟨bp, 0, none⟩)) := cells_of HV.out.1 0 _ rfl
          have hc1 : wr.cell? ⟨vp, 1, none⟩ = some (.pointer (some ⟨gp, 0, none⟩)) := cells_of HV.out.1 1 _ rfl
          obtain ⟨Fr, hPr, hGr, hstepr⟩ := HST.out.p HNWX.out
          have HSAME := Aside0.mk (same_ w wr Fr bp gp t HB.out hPr (fun k hk => (hGr k hk).1))
          have HSTEPR := Aside0.mk hstepr
          clear hPr hGr hstepr
          go_wp2_with (first
            | (go_at_call 20; refine HSAML.out.mono ?_; rintro e w8 ⟨rfl, F8, hP8, hM8⟩; obtain ⟨hst8, hm8⟩ := HSTEPS.out w8 F8 hP8 hM8; have HB8 := Aside0.mk (hm8.below HB7.out (fun k hk => hk.1)); clear hst8 hm8 hP8 hM8)
            | (go_at_call 20; refine HSAME.out.mono ?_; rintro e w7 ⟨rfl, F7, hP7, hM7⟩; obtain ⟨hst7, hm7⟩ := HSTEPR.out w7 F7 _ hP7 hM7; have hvl7 := hm7.kept HV.out.2 (fun h => h.2.2 rfl); have hd70 : w7.cell? ⟨vl, 0, none⟩ = some (.pointer (some ⟨bl, 0, none⟩)) := cells_of hvl7 0 _ rfl; have hd71 : w7.cell? ⟨vl, 1, none⟩ = some (.pointer (some ⟨gl, 0, none⟩)) := cells_of hvl7 1 _ rfl; have HB7 := Aside0.mk (hm7.below HB.out (fun k hk => hk.1)); obtain ⟨Fs, ss, hPs, hGs, hsteps⟩ := hst7.l (fun k hk => HNWX.out k (Nat.le_trans hm7.size hk)); have HSAML := Aside0.mk (same_ w w7 Fs bl gl ss HB7.out hPs (fun k hk => (hGs k hk).1)); have HSTEPS := Aside0.mk hsteps; clear hst7 hm7 hP7 hM7 hPs hGs hsteps hvl7))
          repeat (go_quiet (fail); try go_wp2)
          go_ret
          exact ⟨by first | rfl | simp, HB8.out⟩
    · go_enter Try.func5, Try.ntmps5
      go_wp2_with (first
        | (go_at_call 15; refine HBE.out.mono ?_; rintro e w0 ⟨rfl, hB1⟩; have HB0 := Aside0.mk hB1; clear hB1)
        | (go_at_call 7; refine (new_large s _ hsm).mono ?_; rintro e w1 ⟨rfl, rfl⟩)
        | (go_at_call 8; refine (rnew_large s _ hsm).mono ?_; rintro e w2 ⟨rfl, rfl⟩))
      repeat (go_quiet (fail); try go_wp2)
      go_ret
      exact ⟨rfl, HB0.out⟩
end Go.Proofs.YtcbimnmpdpkefaaTB
