/- text.Buffer: edits put in. -/
import Derived.Test.YtcbimnmpdpkefaaDoorTextBufF
set_option linter.unusedVariables false
set_option linter.unusedSimpArgs false
namespace Go.Proofs.YtcbimnmpdpkefaaDoorTB
open Go.RowKit Go.Proofs.YtcbimnmpdpkefaaDoorW.PrintWords Go.Proofs.YtcbimnmpdpkefaaDoorW.PrintLast Go.Proofs.YtcbimnmpdpkefaaDoorW.PrintMore Go.Proofs.YtcbimnmpdpkefaaDoor.A

/-- What comes behind place 'at' of a text with edits put in. -/
def app (s : List UInt8) : Int → List Ed → List UInt8
  | at_, [] => s.drop at_.toNat
  | at_, x :: l => (s.take x.f0.toNat).drop at_.toNat ++ (bys x.f2 ++ app s x.f1 l)
def appB (s : ByteArray) (l : List Ed) : ByteArray := ⟨(app (bys s) 0 l).toArray⟩
theorem bys_appB (s : ByteArray) (l : List Ed) : bys (appB s l) = app (bys s) 0 l := by simp [bys, appB]
/-- How much edits put in. -/
def puts : List Ed → Int
  | [] => 0
  | x :: l => (x.f2.size : Int) + puts l
theorem app_length (s : List UInt8) : ∀ (l : List Ed) (e : Int), 0 ≤ e → e ≤ s.length → fit1 s.length e l = true → ((app s e l).length : Int) = s.length - e - gone l + puts l
  | [], e, h0, h1, h => by simp only [app, gone, puts, List.length_drop]; omega
  | x :: l, e, h0, h1, h => by
    simp only [fit1] at h
    split at h; · cases h
    split at h; · cases h
    split at h; · cases h
    have ih := app_length s l x.f1 (by omega) (by omega) h
    simp only [app, gone, puts, List.length_append, List.length_drop, List.length_take, bys_length]
    omega
theorem fit2_puts : ∀ (l : List Ed) (z : Int), z ≤ 16384 → fit2 z l = true → z + puts l ≤ 16384
  | [], z, h0, h => by simp only [puts]; omega
  | x :: l, z, h0, h => by
    simp only [fit2] at h
    split at h
    · cases h
    · have := fit2_puts l _ (by omega) h
      simp only [puts]; omega
theorem fitsE_zero {n : Int} {l : List Ed} (h : fitsE n l = 0) : fit1 n 0 l = true ∧ fit2 (n - gone l) l = true := by
  unfold fitsE at h
  split at h
  · rename_i h1
    refine ⟨h1, ?_⟩
    split at h
    · assumption
    · exact absurd h (by decide)
  · exact absurd h (by decide)
theorem appB_size (s : ByteArray) (l : List Ed) (hs : s.size ≤ 16384) (h : fitsE s.size l = 0) : (appB s l).size ≤ 16384 := by
  obtain ⟨h1, h2⟩ := fitsE_zero h
  have hl := app_length (bys s) l 0 (by omega) (by omega) (by rw [bys_length]; exact h1)
  have hg := fit1_gone s.size l 0 (by omega) (by omega) h1
  have hp := fit2_puts l _ (by omega) h2
  rw [bys_length] at hl
  rw [← bys_length, bys_appB]
  omega
/-- What a text is behind edits. -/
def applied (s : ByteArray) (l : List Ed) : ByteArray := if fitsE s.size l = 0 then appB s l else s

/-- Pieces that are not empty are no more than their bytes. -/
theorem few_pieces {oc : List ByteArray} {s : List UInt8} {lo hi : Int} (hc : catL oc = (s.take hi.toNat).drop lo.toNat) (hz : ∀ x ∈ oc, 1 ≤ x.size) : (oc.length : Int) ≤ (hi.toNat : Int) - lo.toNat ∨ oc.length = 0 := by
  have h : oc.length ≤ (catL oc).length := by
    clear hc
    induction oc with
    | nil => simp
    | cons x l ih =>
      have h1 := hz x List.mem_cons_self
      have h2 := ih (fun y hy => hz y (List.mem_cons_of_mem _ hy))
      rw [catL_cons, List.length_append, bys_length, List.length_cons]
      omega
  rw [hc, List.length_drop, List.length_take] at h
  omega
/-- The end of Apply: a new index, and the buffer's block holds pieces that make the text. -/
theorem apply_end {w w8 : World} {F : Nat → Prop} {b : Nat} (sN : ByteArray) (hF : F b) (hbl : b < w.heap.size) (hsm : sN.size ≤ 16384) (v x : Value) (ps : List ByteArray) (hG : w.grownBy w8 (some b))
    (hb : w8.heap[b]? = some (.cells #[v, .int .i64 (sN.size : Int), x] 87 (0, 0))) (hR : Kd.R Kd.string 9 w8 w.heap.size (fun _ => True) v ps) (hc : catL ps = bys sN) (hn : ps.length ≤ 64) :
    ∃ F1, TB ((w8.alloc (.cells #[.int .u32 0, .int .i32 0, .int .u32 0, .slice none 0 0] 85)).setCell ⟨b, 2, none⟩ (.pointer (some ⟨w8.heap.size, 0, none⟩))) F1 b sN ∧ Moved w ((w8.alloc (.cells #[.int .u32 0, .int .i32 0, .int .u32 0, .slice none 0 0] 85)).setCell ⟨b, 2, none⟩ (.pointer (some ⟨w8.heap.size, 0, none⟩))) F F1 := by
  have hb8 := blk_lt hb
  have hs := hG.size
  have hq := blk_new w8 (.cells #[.int .u32 0, .int .i32 0, .int .u32 0, .slice none 0 0] 85 (0, 0))
  have hba := blk_alloc hb (.cells #[.int .u32 0, .int .i32 0, .int .u32 0, .slice none 0 0] 85 (0, 0))
  have hGa : w.grownBy (w8.alloc (.cells #[.int .u32 0, .int .i32 0, .int .u32 0, .slice none 0 0] 85)) (some b) := grown_then hG (World.grownBy_alloc w8 _ none) (fun j e => nomatch e)
  have hRa := Kd.R_alloc (Kd.R_bound hR) (.cells #[.int .u32 0, .int .i32 0, .int .u32 0, .slice none 0 0] 85)
  have hsa : (w8.alloc (.cells #[.int .u32 0, .int .i32 0, .int .u32 0, .slice none 0 0] 85)).heap.size = w8.heap.size + 1 := by simp
  generalize w8.alloc (.cells #[.int .u32 0, .int .i32 0, .int .u32 0, .slice none 0 0] 85) = wa at hq hba hGa hRa hsa ⊢
  have hG9 := grown_set hGa 2 (.pointer (some ⟨w8.heap.size, 0, none⟩))
  have hb9 := blk_put hba 2 (.pointer (some ⟨w8.heap.size, 0, none⟩)) rfl
  have hR9 := R_old_set hRa hbl 2 (.pointer (some ⟨w8.heap.size, 0, none⟩))
  have hq9 := blk_kept (grown_set (World.grownBy.refl wa (some b)) 2 (.pointer (some ⟨w8.heap.size, 0, none⟩))) hq (by intro e; injection e with e; omega)
  have hs9 : (wa.setCell ⟨b, 2, none⟩ (.pointer (some ⟨w8.heap.size, 0, none⟩))).heap.size = w8.heap.size + 1 := by rw [← hsa]; simp [World.setCell]
  generalize wa.setCell ⟨b, 2, none⟩ (.pointer (some ⟨w8.heap.size, 0, none⟩)) = w9 at hG9 hb9 hR9 hq9 hs9 ⊢
  refine ⟨fun k => k = b ∨ (w.heap.size ≤ k ∧ k < w9.heap.size), ⟨fun k hk => ?_, hsm, .inl rfl, w8.heap.size, v, ps, hb9, .inr ⟨hs, by omega⟩, .inl hq9, ?_, bys_inj (by rw [bys_cat, hc]), hn⟩, ⟨some b, (fun k hk => by cases hk; exact hF), hG9⟩, fun k hk => ?_⟩
  · rcases hk with rfl | hk
    · omega
    · exact hk.2
  · refine Kd.R_lower (Kd.R_mono hR9 (fun k hk => ?_)) (Nat.zero_le _)
    have h1 := hk.2.1
    have h2 := hk.2.2.1
    exact ⟨.inr ⟨h1, by omega⟩, by omega, by omega⟩
  · rcases hk with rfl | hk
    · exact .inl hF
    · exact .inr hk.1

set_option maxHeartbeats 8000000 in
set_option maxRecDepth 100000 in
theorem apply_ (w : World) (F : Nat → Prop) (b : Nat) (s : ByteArray) (A0 : Option Addr) (c0 : Nat) (l : List Ed) (hT : TB w F b s) (hl : Kd.C kE w A0 l.length l) (hc : l.length ≤ c0) (hs : ∀ x ∈ l, x.f2.size ≤ 140737488351232) (hL : l.length ≤ 4398046511104) :
    Calls Tryd.prog 34 #[.pointer (some ⟨b, 0, none⟩), .slice A0 l.length c0] w fun e w' => e = .returned (.int .i64 (fitsE s.size l)) ∧ ∃ F1, TB w' F1 b (applied s l) ∧ Moved w w' F F1 := by
  have hfits := fits_ w F b s A0 c0 l hT hl hc hs hL
  by_cases hz : fitsE s.size l = 0
  · obtain ⟨h1, h2⟩ := fitsE_zero hz
    rw [hz] at hfits ⊢
    have hap : applied s l = appB s l := by unfold applied; rw [if_pos hz]
    have hasz := appB_size s l hT.small hz
    have hbya := bys_appB s l
    rw [hap]
    have HAS := Aside0.mk hasz
    have HBY := Aside0.mk hbya
    have HF1 := Aside0.mk h1
    have HT := Aside0.mk hT
    have HR := Aside0.mk hl
    have hbl := blk_lt hT.ex.choose_spec.choose_spec.choose_spec.1
    have HN := Aside0.mk hT.cells
    have hn := hT.cells
    have hsm := hT.small
    have HB := Aside0.mk (Below.refl w.heap.size w)
    have HFITS := Aside0.mk hfits
    clear hl hs hT h1 h2 hz hap hasz hbya hfits
    go_enter Tryd.func34, Tryd.ntmps34
    go_wp2_with (go_at_call 55; refine HFITS.out.mono ?_; rintro e w1 ⟨rfl, hB1⟩; have HB1 := Aside0.mk hB1; clear hB1)
    repeat (go_quiet (fail); try go_wp2)
    go_loopg [6, 7, 20] (l.length + 1) (fun kq v6 v7 v20 w' => ∃ (i at_ : Int) (u : Value) (out : List ByteArray), v20 = .int .i64 i ∧ v7 = .int .i64 at_ ∧ v6 = u ∧ Aside0 (0 ≤ i ∧ i ≤ (l.length : Int) ∧ (l.length : Int) - i < kq) ∧ Aside0 (0 ≤ at_ ∧ at_ ≤ (s.size : Int) ∧ fit1 s.size at_ (l.drop i.toNat) = true ∧ catL out ++ app (bys s) at_ (l.drop i.toNat) = app (bys s) 0 l ∧ (out.length : Int) ≤ i + at_) ∧ Aside0 (Kd.R Kd.string 9 w' w.heap.size (fun _ => True) u out) ∧ Aside0 (Below w.heap.size w w'))
    case atStart => exact ⟨0, 0, _, [], rfl, rfl, rfl, ⟨by omega⟩, ⟨by omega, by omega, by simpa using HF1.out, by simp [catL_nil], by simp⟩, ⟨Kd.R_nil _ _ _ _ _⟩, ⟨(by repeat (first | (with_reducible first | exact HB1.out | apply below_alloc | apply pw_below_drewN | apply below_drew1) | exact HB1.out))⟩⟩
    case round =>
      obtain ⟨i, at_, u, out, rfl, rfl, rfl, HI, HO, HO1, HB⟩ := hrel
      obtain ⟨k1, rfl⟩ : ∃ k1, gk = k1 + 1 := ⟨gk - 1, by have := HI.out; omega⟩
      by_cases c1 : i < (l.length : Int)
      · have c1b := decide_eq_true c1
        obtain ⟨i0, i1, i2⟩ := HI.out
        have hd := drop_cons l i i0 c1
        obtain ⟨ad, ead, hx0, hx1, hx2⟩ := at_T43 HR.out i i0 c1
        subst ead
        replace hx0 := (HB.out.cell (World.block_lt_of_cell? w _ hx0)).trans hx0
        replace hx1 := (HB.out.cell (World.block_lt_of_cell? w _ hx1)).trans hx1
        replace hx2 := (HB.out.cell (World.block_lt_of_cell? w _ hx2)).trans hx2
        have p1 := eq_true i0
        have q1 := eq_true c1
        generalize rd_T43 l i = x at *
        obtain ⟨x0, x1, x2⟩ := x
        dsimp only at hx0 hx1 hx2
        obtain ⟨a0, a1, hf, hca, hol⟩ := HO.out
        rw [hd] at hf hca
        simp only [fit1, app] at hf hca
        split at hf; · cases hf
        split at hf; · cases hf
        split at hf; · cases hf
        rename_i d1 d2 d3
        have hbx : Below w.heap.size w (wr.alloc (.cells #[.int .i64 x0, .int .i64 x1, .string x2] 43)) := below_alloc HB.out _
        have hcut := cut (wr.alloc (.cells #[.int .i64 x0, .int .i64 x1, .string x2] 43)) F b s at_ x0 (HT.out.below hbx) a0 (by omega) (by omega) (by omega)
        have hbk : (wr.alloc (.cells #[.int .i64 x0, .int .i64 x1, .string x2] 43)).heap[wr.heap.size]? = some (.cells #[.int .i64 x0, .int .i64 x1, .string x2] 43 (0, 0)) := blk_new wr _
        have hOg : Kd.R Kd.string 9 (wr.alloc (.cells #[.int .i64 x0, .int .i64 x1, .string x2] 43)) w.heap.size (fun k => k ≠ wr.heap.size) u6 out := Kd.R_alloc (Kd.R_mono (Kd.R_bound HO1.out) (fun k hk => by have := hk.2.2.1; omega)) _
        have HBX := Aside0.mk hbx
        have HCUT := Aside0.mk hcut
        have HBK := Aside0.mk hbk
        have HOG := Aside0.mk hOg
        have HF2 := Aside0.mk hf
        have HCA := Aside0.mk hca
        have HOL := Aside0.mk (And.intro a0 (And.intro a1 (And.intro hol (And.intro d1 (And.intro d2 d3)))))
        clear hf hca hd hbx hcut hbk hOg HO1 a0 a1 hol d1 d2 d3
        go_wp2_with (first
          | (go_at_call 56; refine HCUT.out.mono ?_; rintro e w2 ⟨v2, rfl, oc, hR2, hB2, hc2, hl2_, hz2⟩; have hl2 := few_pieces hc2 hz2; clear hl2_ hz2; have HB2 := Aside0.mk (below_then HBX.out HBX.out.size hB2); have HK2 := Aside0.mk ((hB2.block _ (blk_lt HBK.out)).trans HBK.out); have HO2 := Aside0.mk (Kd.R_below HOG.out hB2); obtain ⟨A2, n2, rfl, _, hC2⟩ := Kd.R_reads hR2; have HC2 := Aside0.mk hC2; have HCL := Aside0.mk (And.intro hc2 hl2); clear hR2 hB2 hc2 hl2 hC2)
          | ((with_reducible refine gate_builtin (b := .append) (xs := #[.tmp 24, .tmp 29]) rfl ?_); at_builtin; refine Kd.R_append_rows Kd.string (w0 := w) w.heap.size rfl (.tmp 24) (.tmp 29) 70 9 (.string ⟨#[]⟩) 16 rfl Tryd.underlying70 infoS rfl (by decide) (by omega) u6 out oc A2 oc.length n2 (fun k => k ≠ wr.heap.size) (fun _ => False) rfl rfl ?aO ?aR (fun _ _ h => h) (fun _ h => h.elim) ?aF ?aB ?aS ?aL ?_; (case aR => exact HC2.out); (case aB => exact HB2.out); (case aF => exact (fun k hk => by have := blk_lt HK2.out; omega)); (case aO => exact HO2.out); (case aS => exact (below_size HB2.out)); (case aL => have h_ := HOL.out; have h2_ := HCL.out.2; have h3_ := HI.out; omega); intro v3 w3 ho hb hg hat; have hne : some wr.heap.size ≠ u6.ownBlock := (fun e => HO2.out.1 _ e.symm rfl); have HK3 := Aside0.mk (blk_kept hg HK2.out hne); have HO3 := Aside0.mk ho; have HB3 := Aside0.mk hb; have hy2 : w3.cell? ⟨wr.heap.size, 2, none⟩ = some (.string x2) := cells_of HK3.out 2 _ rfl; clear hne ho hb hg hat)
          | ((with_reducible refine gate_builtin (b := .append) (xs := #[.tmp 31, .tmp 34]) rfl ?_); at_builtin; refine Kd.R_append Kd.string (w0 := w) w.heap.size rfl (.tmp 31) (.tmp 34) 70 9 (.string ⟨#[]⟩) 16 rfl Tryd.underlying70 infoS rfl (by decide) (by omega) v3 (out ++ oc) x2 [.string x2] (fun k => k ≠ wr.heap.size) (fun _ => False) rfl (by first | (go_simp; done) | (go_simp; rfl)) rfl (fun _ hk => hk.elim) ?aF ?aO ?aB ?aS ?aL ?_; (case aF => exact (fun k hk => by have h_ := blk_lt HK3.out; omega)); (case aB => exact (by repeat (first | (with_reducible first | exact HB3.out | apply below_alloc | apply pw_below_drewN | apply below_drew1) | exact HB3.out))); (case aO => exact (by (with_reducible repeat (first | apply Kd.R_alloc | apply Kd.R_drewN | apply Kd.R_drew)); exact HO3.out)); (case aS => exact (below_size (by repeat (first | (with_reducible first | exact HB3.out | apply below_alloc | apply pw_below_drewN | apply below_drew1) | exact HB3.out)))); (case aL => have h_ := HOL.out; have h2_ := HCL.out.2; have h3_ := HI.out; rw [List.length_append]; omega); intro v4 w4 ho hb hg hat; have HK4 := Aside0.mk (blk_kept hg HK3.out (fun e => HO3.out.1 _ e.symm rfl)); have HO4 := Aside0.mk ho; have HB4 := Aside0.mk hb; have hy1 : w4.cell? ⟨wr.heap.size, 1, none⟩ = some (.int .i64 x1) := cells_of HK4.out 1 _ rfl; clear ho hb hg hat))
        go_roundg k1
        case measure => omega
        case rel => exact ⟨i + 1, x1, _, (out ++ oc) ++ [x2], by first | rfl | (congr 1; unfold wrap64; omega), rfl, rfl, ⟨by omega⟩, ⟨by have := HOL.out; omega, by have := HOL.out; omega, HF2.out, by rw [catL_append, catL_append, HCL.out.1, catL_cons, catL_nil, List.append_nil, List.append_assoc, List.append_assoc]; exact HCA.out, by have h_ := HOL.out; have h2_ := HCL.out.2; simp only [List.length_append, List.length_singleton]; omega⟩, ⟨Kd.R_mono HO4.out (fun _ _ => trivial)⟩, HB4⟩
      · have c1b := decide_eq_false c1
        have hi : i = l.length := by have := HI.out; omega
        obtain ⟨a0, a1, hf, hca, hol⟩ := HO.out
        rw [hi, Int.toNat_natCast, List.drop_length] at hca
        simp only [app] at hca
        obtain ⟨q, v, ps, hb, hFq, hix, hr, hcat, hps⟩ := HT.out.ex
        have hsz := (HB.out.cell (World.block_lt_of_cell? w _ HN.out)).trans HN.out
        have hcut := cut wr F b s at_ s.size (HT.out.below HB.out) a0 (by omega) (by omega) (by omega)
        have HCUT := Aside0.mk hcut
        have HCA := Aside0.mk hca
        have HBB := Aside0.mk hb
        have HOL := Aside0.mk (show (out.length : Int) ≤ 4398046527488 by omega)
        clear hcut hca hb hf hol hi hix hr hcat hps hFq
        go_upto_region 14 with (first
          | (go_at_call 56; refine HCUT.out.mono ?_; rintro e w2 ⟨v2, rfl, oc, hR2, hB2, hc2, hl2, _⟩; have HB2 := Aside0.mk (below_then HB.out HB.out.size hB2); have HO2 := Aside0.mk (Kd.R_below HO1.out hB2); obtain ⟨A2, n2, rfl, _, hC2⟩ := Kd.R_reads hR2; have HC2 := Aside0.mk hC2; have HCL := Aside0.mk (And.intro hc2 hl2); clear hR2 hB2 hc2 hl2 hC2)
          | ((with_reducible refine gate_builtin (b := .append) (xs := #[.tmp 39, .tmp 46]) rfl ?_); at_builtin; refine Kd.R_append_rows Kd.string (w0 := w) w.heap.size rfl (.tmp 39) (.tmp 46) 70 9 (.string ⟨#[]⟩) 16 rfl Tryd.underlying70 infoS rfl (by decide) (by omega) u6 out oc A2 oc.length n2 (fun _ => True) (fun _ => False) rfl rfl ?aO ?aR (fun _ _ h => h) (fun _ h => h.elim) ?aF ?aB ?aS ?aL ?_; (case aR => exact HC2.out); (case aB => exact HB2.out); (case aF => exact (fun _ _ => trivial)); (case aO => exact HO2.out); (case aS => exact (below_size HB2.out)); (case aL => have h_ := HOL.out; have h2_ := HCL.out.2; omega); intro v3 w3 ho hb hg hat; have HO3 := Aside0.mk ho; have HB3 := Aside0.mk hb; clear ho hb hg hat))
        have hcat3 : catL (out ++ oc) = bys (appB s l) := by
          rw [HBY.out, catL_append, HCL.out.1, Int.toNat_natCast, ← bys_length, List.take_length]; exact HCA.out
        have hlen3 : (out ++ oc).length ≤ 4398046527488 + 64 := by have := HOL.out; have := HCL.out.2; rw [List.length_append]; omega
        generalize out ++ oc = out3 at HO3 hcat3 hlen3
        have HC3 := Aside0.mk hcat3
        have HL3 := Aside0.mk hlen3
        have hb3 := (HB3.out.block b hbl).trans HBB.out
        have HG3 := Aside0.mk (grown_of_below HB3.out (some b))
        clear hcat3 hlen3 hn
        obtain ⟨k0, k1c, k2⟩ := cells3 hb3
        have f1 := blk_frozen hb3 1
        obtain ⟨A3, n3, rfl⟩ := Kd.R_slice HO3.out
        go_upto_region 15 with (fail)
        have HB5 := Aside0.mk (blk_put hb3 1 (.int .i64 0) rfl)
        have HG5 := Aside0.mk (grown_set HG3.out 1 (.int .i64 0))
        have HO5 := Aside0.mk (R_old_set HO3.out hbl 1 (.int .i64 0))
        generalize w3.setCell ⟨b, 1, none⟩ (.int .i64 0) = w5 at HB5 HG5 HO5 ⊢
        have HSZ := Aside0.mk (show ∀ n : Nat, (catL (out3.take n)).length ≤ 16384 from fun n => by
          have h1 := HC3.out
          have h2 : catL out3 = catL (out3.take n) ++ catL (out3.drop n) := by rw [← catL_append, List.take_append_drop]
          have h3 := HAS.out
          rw [h1] at h2
          rw [← bys_length, h2, List.length_append] at h3
          omega)
        clear hb3 k0 k1c k2 f1 HO3 HB3 HG3
        go_wp2
        go_loopg [53] (out3.length + 1) (fun kq v53 w' => ∃ (j : Int), v53 = .int .i64 j ∧ Aside0 (0 ≤ j ∧ j ≤ (out3.length : Int) ∧ (out3.length : Int) - j < kq) ∧ Aside0 (w'.heap[b]? = some (.cells #[v, .int .i64 ((catL (out3.take j.toNat)).length : Int), .pointer (some ⟨q, 0, none⟩)] 87 (0, 0))) ∧ Aside0 (w.grownBy w' (some b)) ∧ Aside0 (Kd.R Kd.string 9 w' w.heap.size (fun _ => True) (.slice A3 out3.length n3) out3))
        case atStart => exact ⟨0, rfl, ⟨by omega⟩, HB5, HG5, HO5⟩
        case round =>
          obtain ⟨j, rfl, HJ, HB6, HG6, HO6⟩ := hrel
          obtain ⟨k2, rfl⟩ : ∃ k2, gk = k2 + 1 := ⟨gk - 1, by have := HJ.out; omega⟩
          by_cases c2 : j < (out3.length : Int)
          · have c2b := decide_eq_true c2
            obtain ⟨j0, j1, j2⟩ := HJ.out
            have hC : Kd.C Kd.string wr A3 out3.length out3 := by obtain ⟨_, _, e, _, h⟩ := Kd.R_reads HO6.out; cases e; exact h
            obtain ⟨ad, ead, hx⟩ := at_S hC j j0 c2
            subst ead
            have p1 := eq_true j0
            have q1 := eq_true c2
            obtain ⟨_, g1, _⟩ := cells3 HB6.out
            have gf1 := blk_frozen HB6.out 1
            have htk : catL (out3.take (j + 1).toNat) = catL (out3.take j.toNat) ++ bys (out3.getD j.toNat ⟨#[]⟩) := by
              rw [show (j + 1).toNat = j.toNat + 1 by omega, List.take_add_one, catL_append, List.getD_eq_getElem?_getD, List.getElem?_eq_getElem (by omega)]
              simp [catL]
            have hz1 := HSZ.out (j + 1).toNat
            generalize out3.getD j.toNat ⟨#[]⟩ = p at hx htk
            have hlen : (catL (out3.take (j + 1).toNat)).length = (catL (out3.take j.toNat)).length + p.size := by rw [htk, List.length_append, bys_length]
            have hw : wrap64 (((catL (out3.take j.toNat)).length : Int) + (p.size : Int)) = ((catL (out3.take (j + 1).toNat)).length : Int) := by unfold wrap64; omega
            have HWZ := Aside0.mk hw
            have hlj : j + 1 ≤ 9223372036854775807 := by have := HL3.out; omega
            clear htk hlen hw hz1 hC
            go_wp2
            go_roundg k2
            case measure => omega
            case rel => exact ⟨j + 1, by first | rfl | (congr 1; unfold wrap64; omega), ⟨by omega⟩, ⟨blk_put HB6.out 1 _ (by first | rfl | (rw [HWZ.out]; rfl))⟩, ⟨grown_set HG6.out 1 _⟩, ⟨R_old_set HO6.out hbl 1 _⟩⟩
          · have c2b := decide_eq_false c2
            have hj : j = out3.length := by have := HJ.out; omega
            have hb6 := HB6.out
            rw [hj, Int.toNat_natCast, List.take_length, HC3.out, bys_length] at hb6
            have HB7 := Aside0.mk hb6
            obtain ⟨g0, g1, g2⟩ := cells3 hb6
            have gf0 := blk_frozen hb6 0
            clear HB6 hj hb6
            go_upto_region 21 with (fail)
            have HB8 := Aside0.mk (blk_put HB7.out 0 (.slice A3 out3.length n3) rfl)
            have HG8 := Aside0.mk (grown_set HG6.out 0 (.slice A3 out3.length n3))
            have HO8 := Aside0.mk (R_old_set HO6.out hbl 0 (.slice A3 out3.length n3))
            generalize wr.setCell ⟨b, 0, none⟩ (.slice A3 out3.length n3) = w8 at HB8 HG8 HO8 ⊢
            clear HB7 HG6 HO6 g0 g1 g2 gf0
            by_cases c3 : (out3.length : Int) > 64
            · have c3b := decide_eq_true c3
              have hjoin := join out3 (.slice A3 out3.length n3) _ _ w8 HO8.out (by have := HL3.out; omega) (by rw [HC3.out, bys_length]; have := HAS.out; omega)
              have hcj : cat out3 = appB s l := bys_inj (by rw [bys_cat, HC3.out])
              rw [hcj] at hjoin
              have HJ8 := Aside0.mk hjoin
              clear hjoin hcj
              have hb8 := blk_lt HB8.out
              go_upto_region 23 with (go_at_call 57; refine HJ8.out.mono ?_; rintro e wj ⟨rfl, hBj⟩; have HBj := Aside0.mk ((hBj.block b hb8).trans HB8.out); have HGj := Aside0.mk (grown_then HG8.out (grown_of_below hBj none) (fun _ e => nomatch e)); have hbja := blk_alloc HBj.out (.cells #[.string (appB s l)] 9 (0, 0)); have hja0 := (cells3 hbja).1; have hjaf := blk_frozen hbja 0; have HBJA := Aside0.mk hbja; clear hBj hbja)
              have hrow := World.ownsRow_lit (base := w.heap.size) (e := 9) (size := 1) wj #[.string (appB s l)] 1 HGj.out.size (by simp [maxLen]) (by simp)
              have hR : Kd.R Kd.string 9 (wj.alloc (.cells #[.string (appB s l)] 9)) w.heap.size (fun _ => True) (.slice (some ⟨wj.heap.size, 0, none⟩) 1 1) [appB s l] := Kd.R_of_own (h1 := fun _ => rfl) hrow (fun k hk => trivial)
              have hGa : w.grownBy (wj.alloc (.cells #[.string (appB s l)] 9)) (some b) := grown_then HGj.out (World.grownBy_alloc wj _ none) (fun j e => nomatch e)
              have HB9 := Aside0.mk (blk_put HBJA.out 0 (.slice (some ⟨wj.heap.size, 0, none⟩) 1 1) rfl)
              have HG9 := Aside0.mk (grown_set hGa 0 (.slice (some ⟨wj.heap.size, 0, none⟩) 1 1))
              have HO9 := Aside0.mk (R_old_set hR hbl 0 (.slice (some ⟨wj.heap.size, 0, none⟩) 1 1))
              generalize (wj.alloc (.cells #[.string (appB s l)] 9)).setCell ⟨b, 0, none⟩ (.slice (some ⟨wj.heap.size, 0, none⟩) 1 1) = w9 at HB9 HG9 HO9 ⊢
              have hend := apply_end (appB s l) HT.out.self hbl HAS.out _ _ [appB s l] HG9.out HB9.out HO9.out (by simp [catL]) (by simp)
              have HE := Aside0.mk hend
              have hba := blk_alloc HB9.out (.cells #[.int .u32 0, .int .i32 0, .int .u32 0, .slice none 0 0] 85 (0, 0))
              obtain ⟨_, _, g2⟩ := cells3 hba
              have gf2 := blk_frozen hba 2
              clear hend hba hrow hR hGa hja0 hjaf
              go_wp2
              go_ret
              obtain ⟨F1, h1, h2⟩ := HE.out
              exact ⟨rfl, F1, h1, h2⟩
            · have c3b := decide_eq_false c3
              have hend := apply_end (appB s l) HT.out.self hbl HAS.out _ _ out3 HG8.out HB8.out HO8.out HC3.out (by omega)
              have HE := Aside0.mk hend
              have hba := blk_alloc HB8.out (.cells #[.int .u32 0, .int .i32 0, .int .u32 0, .slice none 0 0] 85 (0, 0))
              obtain ⟨_, _, g2⟩ := cells3 hba
              have gf2 := blk_frozen hba 2
              clear hend hba
              go_wp2
              go_ret
              obtain ⟨F1, h1, h2⟩ := HE.out
              exact ⟨rfl, F1, h1, h2⟩
  · have hap : applied s l = s := by unfold applied; rw [if_neg hz]
    rw [hap]
    have c1b : decide (fitsE s.size l = 0) = false := decide_eq_false hz
    have HT := Aside0.mk hT
    have HFITS := Aside0.mk hfits
    generalize fitsE s.size l = z at *
    clear hT hfits hap
    go_enter Tryd.func34, Tryd.ntmps34
    go_wp2_with (go_at_call 55; refine HFITS.out.mono ?_; rintro e w1 ⟨rfl, hB1⟩; have HB1 := Aside0.mk hB1; clear hB1)
    repeat (go_quiet (fail); try go_wp2)
    go_ret
    exact ⟨rfl, F, HT.out.below HB1.out, ⟨⟨none, (fun _ hk => nomatch hk), grown_of_below HB1.out none⟩, fun _ hk => .inl hk⟩⟩
end Go.Proofs.YtcbimnmpdpkefaaDoorTB
