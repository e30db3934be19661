/- TextSingly: the walk. -/
import Derived.Test.YtcbimnmpdpkefaaTextSingly
set_option linter.unusedVariables false
set_option linter.unusedSimpArgs false
namespace Go.Proofs.YtcbimnmpdpkefaaTB
open Go.RowKit Go.Proofs.YtcbimnmpdpkefaaW.PrintWords Go.Proofs.YtcbimnmpdpkefaaW.PrintLast Go.Proofs.YtcbimnmpdpkefaaW.PrintMore Go.Proofs.Ytcbimnmpdpkefaa.A

theorem below_of_c {w : World} {A0 : Option Addr} {l : List Ed} (hl : Kd.C kE w A0 l.length l) (ad : Addr) (e : A0 = some ad) (h0 : 0 < l.length) : ad.block < w.heap.size := by
  obtain ⟨ad', e', hx, _⟩ := at_T34 hl 0 (by omega) (by omega)
  rw [e] at e'
  obtain rfl := Option.some.inj e'
  have := World.block_lt_of_cell? w _ hx
  rwa [add_block] at this

set_option maxHeartbeats 8000000 in
set_option maxRecDepth 100000 in
theorem textSingly_walk (s : ByteArray) (A0 : Option Addr) (c0 : Nat) (l : List Ed) (w : World) (hl : Kd.C kE w A0 l.length l) (hc : l.length ≤ c0) (hs : ∀ x ∈ l, x.f2.size ≤ 140737488351232) (hlen : l.length ≤ 4398046511104) :
    Calls Try.prog 3 #[.string s, .slice A0 l.length c0] w fun e w' => e = .returned (.bool true) ∧ Below w.heap.size w w' := by
  by_cases hsm : s.size ≤ 16384
  · have c1b : decide ((s.size : Int) > 16384) = false := decide_eq_false (by omega)
    obtain ⟨r, hr, hrl⟩ := edits_some l hlen
    have hed := scholiastlaw01_edits.calls (l.length + 1) A0 c0 l r w hl hc hr
    have HED := Aside0.mk hed
    clear hed hr
    by_cases hr2 : r > 16777216
    · have c2b := decide_eq_true hr2
      clear hl hs
      go_enter Try.func3, Try.ntmps3
      go_wp2_with (go_at_call 6; refine HED.out.mono ?_; rintro e w1 ⟨rfl, hB1⟩; have HB1 := Aside0.mk hB1; clear hB1)
      go_ret
      exact ⟨rfl, HB1.out⟩
    · have c2b := decide_eq_false hr2
      have hL : l.length ≤ 16777216 := by omega
      have HL := Aside0.mk hl
      have HS := Aside0.mk hs
      have HNE := Aside0.mk (fun ad e h0 => below_of_c hl ad e h0)
      have HAP : Aside0 (∀ (W : World) (F : Nat → Prop) (bb : Nat), Below w.heap.size w W → TB W F bb s → Calls Try.prog 9 #[.pointer (some ⟨bb, 0, none⟩), .slice A0 l.length c0] W fun e w' => e = .returned (.int .i64 (fitsE s.size l)) ∧ ∃ F1, TB w' F1 bb (applied s l) ∧ Moved W w' F F1) := ⟨fun W F bb hB hT => apply_ W F bb s A0 c0 l hT (Kd.C_below hl hB) hc hs hL⟩
      have HRA : Aside0 (∀ (W : World) (g : Nat), Below w.heap.size w W → w.heap.size ≤ g → W.heap[g]? = some (.cells #[.string s] 54 (0, 0)) → Calls Try.prog 10 #[.pointer (some ⟨g, 0, none⟩), .slice A0 l.length c0] W fun e w' => e = .returned (.int .i64 (fitsE s.size l)) ∧ w'.heap[g]? = some (.cells #[.string (applied s l)] 54 (0, 0)) ∧ W.grownBy w' (some g)) := ⟨fun W g hB hge hg => rapply W g s A0 c0 l hg hsm (Kd.C_below hl hB) (fun ad e h0 => by have := HNE.out ad e h0; omega) hc hs hL⟩
      clear hl hs
      go_enter Try.func3, Try.ntmps3
      go_upto_region 3 with (go_at_call 6; refine HED.out.mono ?_; rintro e w0 ⟨rfl, hB1⟩; have HB0 := Aside0.mk hB1; clear hB1)
      go_upto_region 4 with (go_at_call 7; refine (new_small s w0 hsm).mono ?_; rintro e w1 ⟨ba, Fa, rfl, hT, hF, hB⟩; have HTa := Aside0.mk hT; have HFa := Aside0.mk (fun k hk => Nat.le_trans HB0.out.size (hF k hk)); have HB1 := Aside0.mk (below_then HB0.out HB0.out.size hB); clear hT hF hB)
      go_upto_region 5 with (go_at_call 7; refine (new_small s w1 hsm).mono ?_; rintro e w2 ⟨bb, Fb, rfl, hT, hF, hB⟩; have HTa2 := Aside0.mk (HTa.out.below hB); have HTb := Aside0.mk hT; have HFb := Aside0.mk (fun k hk => Nat.le_trans HB1.out.size (hF k hk)); have HD := Aside0.mk (show ∀ k, Fb k → ¬ Fa k from fun k hk ha => by have h1 := hF k hk; have h2 := HTa.out.lt k ha; omega); have HB2 := Aside0.mk (below_then HB1.out HB1.out.size hB); clear hT hF hB)
      go_upto_region 6 with (go_at_call 8; refine (rnew_small s w2 hsm).mono ?_; rintro e w3 ⟨rfl, hg, hB⟩; have HTa3 := Aside0.mk (HTa2.out.below hB); have HTb3 := Aside0.mk (HTb.out.below hB); have HG := Aside0.mk hg; have HGa := Aside0.mk (show ¬ Fa w2.heap.size from fun h => by have := HTa2.out.lt _ h; omega); have HGb := Aside0.mk (show ¬ Fb w2.heap.size from fun h => by have := HTb.out.lt _ h; omega); have HGE := Aside0.mk HB2.out.size; have HB3 := Aside0.mk (below_then HB2.out HB2.out.size hB); clear hg hB)
      generalize w2.heap.size = gd at HG HGa HGb HGE
      clear HTa HTa2 HTb HB0 HB1 HB2 HED
      go_upto_region 8 with (fail)
      go_upto_region 9 with (go_at_call 9; refine (HAP.out w3 Fa ba HB3.out HTa3.out).mono ?_; rintro e w4 ⟨rfl, F1, hT1, hM1⟩; have HTa4 := Aside0.mk hT1; have HTb4 := Aside0.mk (hM1.other HTb3.out HD.out); have HD4 := Aside0.mk (hM1.apart HTb3.out HD.out); have HG4 := Aside0.mk (mv_kept hM1 HTa3.out.lt HG.out HGa.out); have HGa4 := Aside0.mk (show ¬ F1 gd from fun h => (by rcases hM1.foot gd h with h1 | h1; exact HGa.out h1; have := blk_lt HG.out; omega)); have HB4 := Aside0.mk (hM1.below HB3.out HFa.out); have HFa4 := Aside0.mk (hM1.from_ HB3.out.size HFa.out); clear hT1 hM1)
      by_cases hz : fitsE s.size l = 0
      · obtain ⟨hf1, _⟩ := fitsE_zero hz
        have HF1 := Aside0.mk hf1
        have hap : applied s l = appB s l := by unfold applied; rw [if_pos hz]
        have HAPP := Aside0.mk (show bys (applied s l) = app (bys s) 0 l by rw [hap, bys_appB])
        rw [hz] at HRA ⊢
        clear hf1 hap hz
        go_upto_region 10 with (go_at_call 10; refine (HRA.out w4 gd HB4.out HGE.out HG4.out).mono ?_; rintro e w5 ⟨rfl, hg, hgr⟩; have HTa5 := Aside0.mk (HTa4.out.grown hgr (fun k hk e => HGa4.out (by injection e with e; exact e ▸ hk))); have HTb5 := Aside0.mk (HTb4.out.grown hgr (fun k hk e => HGb.out (by injection e with e; exact e ▸ hk))); have HB5 := Aside0.mk (HB4.out.grown hgr HB4.out.size (fun k hk => by injection hk with hk; have := HGE.out; omega)); clear hg hgr)
        go_wp2
        repeat (go_quiet (fail); try go_wp2)
        go_loopg [12, 13] (l.length + 1) (fun kq v12 v13 w' => ∃ (gr : Bool) (j : Int) (Fb' : Nat → Prop) (t : ByteArray) (L : List Ed), v12 = .bool gr ∧ v13 = .int .i64 j ∧ Aside0 (-1 ≤ j ∧ j < (l.length : Int) ∧ j + 1 < kq) ∧ Aside0 (TB w' F1 ba (applied s l)) ∧ Aside0 (TB w' Fb' bb t) ∧ Aside0 (∀ k, Fb' k → ¬ F1 k) ∧ Aside0 (∀ k, Fb' k → w.heap.size ≤ k) ∧ Aside0 (L.Sublist (l.drop (j + 1).toNat) ∧ bys t = app (bys s) 0 L ∧ (gr = false → L = l.drop (j + 1).toNat)) ∧ Aside0 (Below w.heap.size w w'))
        case atStart => exact ⟨false, (l.length : Int) - 1, Fb, s, [], rfl, by first | rfl | (congr 1; unfold wrap64; omega), ⟨by omega⟩, HTa5, HTb5, HD4, HFb, ⟨by simp, by simp [app], fun _ => by rw [show ((l.length : Int) - 1 + 1).toNat = l.length by omega, List.drop_length]⟩, HB5⟩
        case round =>
          obtain ⟨gr, j, Fb', t, L, rfl, rfl, HJ, HTa6, HTb6, HD6, HFb6, HLL, HB6⟩ := hrel
          obtain ⟨k1, rfl⟩ : ∃ k1, gk = k1 + 1 := ⟨gk - 1, by have := HJ.out; omega⟩
          by_cases c2 : j ≥ 0
          · have c2x := decide_eq_true c2
            obtain ⟨j0, j1, j2⟩ := HJ.out
            have hd := drop_cons l j c2 j1
            obtain ⟨ad, ead, hx0, hx1, hx2⟩ := at_T34 (Kd.C_below HL.out HB6.out) j c2 j1
            subst ead
            have p1 := eq_true c2
            have q1 := eq_true j1
            have hmem : rd_T34 l j ∈ l := by
              have : rd_T34 l j ∈ l.drop j.toNat := by rw [hd]; exact List.mem_cons_self
              exact List.mem_of_mem_drop this
            have hxs := HS.out _ hmem
            generalize rd_T34 l j = x at *
            obtain ⟨L1, L2, L3⟩ := HLL.out
            have hom := one_more s t l L x j.toNat HF1.out (by rw [hd, show (j + 1).toNat = j.toNat + 1 by omega]) (by rwa [show j.toNat + 1 = (j + 1).toNat by omega]) L2 HTb6.out.small
            have HOM := Aside0.mk hom
            have HX := Aside0.mk (show ∀ y ∈ [x], y.f2.size ≤ 140737488351232 from fun y hy => by rw [List.mem_singleton.1 hy]; exact hxs)
            have HDR := Aside0.mk hd
            have HLI := Aside0.mk (And.intro L1 L3)
            have HLT0 := L2
            obtain ⟨x0, x1, x2⟩ := x
            dsimp only at hx0 hx1 hx2
            clear hom hmem hxs hd L1 L2 L3 HLL
            rcases HOM.out with ⟨o1, o2⟩ | ⟨o1, o2⟩
            · clear HOM
              have HO2 := Aside0.mk o2
              have hd1 : l.drop (j - 1 + 1).toNat = ⟨x0, x1, x2⟩ :: l.drop (j + 1).toNat := by rw [show (j - 1 + 1).toNat = j.toNat by omega]; exact HDR.out
              have HD1 := Aside0.mk hd1
              clear o2 hd1
              rcases gr with _ | _
              all_goals
                go_wp2_with (first | ((with_reducible refine gate_dst (N := 78) rfl ?_); refine Kd.R_lit kE _ 34 ?hg (N := 78) ?hd (xs := ([⟨x0, x1, x2⟩] : List Ed)) (inner := [.int .i64 x0, .int .i64 x1, .string x2]) (ok := fun _ => True) (okp := fun _ => True) ?hr ?hp (fun _ hk => hk) trivial (Below.refl _ _) (Nat.le_refl _) (by simp) ?_; (case hd => rfl); (case hg => rfl); (case hr => first | (go_simp; done) | (go_simp; rfl)); (case hp => exact (Reps.c3 (show Kd.M kE _ _ _ (⟨x0, x1, x2⟩ : Ed) [.int .i64 x0, .int .i64 x1, .string x2] from (k34_mkM _ _ _ (⟨x0, x1, x2⟩ : Ed))) (Reps.none _ _))); intro v7 w7 ho7 hb7 hg7 hn7; have HT7a := Aside0.mk (HTa6.out.below hb7); have HT7b := Aside0.mk (HTb6.out.below hb7); have HB7 := Aside0.mk (below_then HB6.out HB6.out.size hb7); obtain ⟨A7, n7, rfl, hl7, hC7⟩ := Kd.R_reads ho7; have HC7 := Aside0.mk (And.intro hl7 hC7); clear ho7 hb7 hg7 hn7 hl7 hC7) | (go_at_call 9; refine (apply_ w7 Fb' bb t A7 n7 [⟨x0, x1, x2⟩] HT7b.out HC7.out.2 HC7.out.1 HX.out (by simp)).mono ?_; rintro e w8 ⟨rfl, F8, hT8, hM8⟩; rw [o1]; have HT8b := Aside0.mk hT8; have HT8a := Aside0.mk (hM8.other HT7a.out (fun k ha hb => HD6.out k hb ha)); have HD8 := Aside0.mk (show ∀ k, F8 k → ¬ F1 k from fun k h8 h1 => hM8.apart HT7a.out (fun k ha hb => HD6.out k hb ha) k h1 h8); have HB8 := Aside0.mk (hM8.below HB7.out HFb6.out); have HFb8 := Aside0.mk (hM8.from_ HB7.out.size HFb6.out); clear hT8 hM8))
                repeat (go_quiet (fail); try go_wp2)
                go_roundg k1
                case measure => omega
                case rel => exact ⟨_, j - 1, F8, _, ⟨x0, x1, x2⟩ :: L, rfl, by first | rfl | (congr 1; unfold wrap64; omega), ⟨by omega⟩, HT8a, HT8b, HD8, HFb8, ⟨by rw [HD1.out]; exact HLI.out.1.cons_cons _, HO2.out, fun h => by first | (cases h; done) | (rw [HD1.out, ← HLI.out.2 (by simp)])⟩, HB8⟩
            · clear HOM
              have hd1 : l.drop (j - 1 + 1).toNat = ⟨x0, x1, x2⟩ :: l.drop (j + 1).toNat := by rw [show (j - 1 + 1).toNat = j.toNat by omega]; exact HDR.out
              have HD1 := Aside0.mk hd1
              have HLT := Aside0.mk HLT0
              clear hd1
              rcases gr with _ | _
              all_goals
                go_wp2_with (first | ((with_reducible refine gate_dst (N := 78) rfl ?_); refine Kd.R_lit kE _ 34 ?hg (N := 78) ?hd (xs := ([⟨x0, x1, x2⟩] : List Ed)) (inner := [.int .i64 x0, .int .i64 x1, .string x2]) (ok := fun _ => True) (okp := fun _ => True) ?hr ?hp (fun _ hk => hk) trivial (Below.refl _ _) (Nat.le_refl _) (by simp) ?_; (case hd => rfl); (case hg => rfl); (case hr => first | (go_simp; done) | (go_simp; rfl)); (case hp => exact (Reps.c3 (show Kd.M kE _ _ _ (⟨x0, x1, x2⟩ : Ed) [.int .i64 x0, .int .i64 x1, .string x2] from (k34_mkM _ _ _ (⟨x0, x1, x2⟩ : Ed))) (Reps.none _ _))); intro v7 w7 ho7 hb7 hg7 hn7; have HT7a := Aside0.mk (HTa6.out.below hb7); have HT7b := Aside0.mk (HTb6.out.below hb7); have HB7 := Aside0.mk (below_then HB6.out HB6.out.size hb7); obtain ⟨A7, n7, rfl, hl7, hC7⟩ := Kd.R_reads ho7; have HC7 := Aside0.mk (And.intro hl7 hC7); clear ho7 hb7 hg7 hn7 hl7 hC7) | (go_at_call 9; refine (apply_ w7 Fb' bb t A7 n7 [⟨x0, x1, x2⟩] HT7b.out HC7.out.2 HC7.out.1 HX.out (by simp)).mono ?_; rintro e w8 ⟨rfl, F8, hT8, hM8⟩; rw [o1]; rw [o2] at hT8; have HT8b := Aside0.mk hT8; have HT8a := Aside0.mk (hM8.other HT7a.out (fun k ha hb => HD6.out k hb ha)); have HD8 := Aside0.mk (show ∀ k, F8 k → ¬ F1 k from fun k h8 h1 => hM8.apart HT7a.out (fun k ha hb => HD6.out k hb ha) k h1 h8); have HB8 := Aside0.mk (hM8.below HB7.out HFb6.out); have HFb8 := Aside0.mk (hM8.from_ HB7.out.size HFb6.out); clear hT8 hM8))
                repeat (go_quiet (fail); try go_wp2)
                go_roundg k1
                case measure => omega
                case rel => exact ⟨true, j - 1, F8, t, L, rfl, by first | rfl | (congr 1; unfold wrap64; omega), ⟨by omega⟩, HT8a, HT8b, HD8, HFb8, ⟨by rw [HD1.out]; exact HLI.out.1.cons _, HLT.out, fun h => by cases h⟩, HB8⟩
          · have c2x := decide_eq_false c2
            have hj : j = -1 := by have := HJ.out; omega
            obtain ⟨L1, L2, L3⟩ := HLL.out
            rcases gr with _ | _
            · have hLl : L = l := by rw [L3 (by simp), hj]; rfl
              have ht : t = applied s l := bys_inj (by rw [L2, hLl, HAPP.out])
              have HTT := Aside0.mk ht
              clear hLl ht hj L1 L2 L3 HLL
              go_wp2_with (first
                | (go_at_call 11; refine (text_ _ F1 ba _ HTa6.out).mono ?_; rintro e w7 ⟨rfl, hB⟩; have HB7 := Aside0.mk (below_then HB6.out HB6.out.size hB); have HTb7 := Aside0.mk (HTb6.out.below hB); clear HTa6 hB)
                | (go_at_call 11; refine (text_ _ Fb' bb _ HTb7.out).mono ?_; rintro e w8 ⟨rfl, hB⟩; rw [HTT.out]; have HB8 := Aside0.mk (below_then HB7.out HB7.out.size hB); clear hB))
              repeat (go_quiet (fail); try go_wp2)
              go_ret
              exact ⟨by first | rfl | simp, HB8.out⟩
            · clear hj L1 L2 L3 HLL
              go_wp2
              repeat (go_quiet (fail); try go_wp2)
              go_ret
              exact ⟨rfl, HB6.out⟩
      · have hap : applied s l = s := by unfold applied; rw [if_neg hz]
        rw [hap] at HTa4
        have zb : decide (fitsE s.size l = 0) = false := decide_eq_false hz
        have zc := eq_false hz
        clear hap
        generalize fitsE s.size l = z at *
        go_upto_region 10 with (go_at_call 10; refine (HRA.out w4 gd HB4.out HGE.out HG4.out).mono ?_; rintro e w5 ⟨rfl, hg, hgr⟩; have HTa5 := Aside0.mk (HTa4.out.grown hgr (fun k hk e => HGa4.out (by injection e with e; exact e ▸ hk))); have HTb5 := Aside0.mk (HTb4.out.grown hgr (fun k hk e => HGb.out (by injection e with e; exact e ▸ hk))); have HB5 := Aside0.mk (HB4.out.grown hgr HB4.out.size (fun k hk => by injection hk with hk; have := HGE.out; omega)); clear hg hgr)
        go_wp2_with (go_at_call 11; refine (text_ _ F1 ba s HTa5.out).mono ?_; rintro e w6 ⟨rfl, hB⟩; have HB6 := Aside0.mk (below_then HB5.out HB5.out.size hB); clear hB)
        repeat (go_quiet (fail); try go_wp2)
        go_ret
        exact ⟨rfl, HB6.out⟩
  · have c1b : decide ((s.size : Int) > 16384) = true := decide_eq_true (by omega)
    clear hl hs
    go_enter Try.func3, Try.ntmps3
    go_wp2
    go_ret
    exact ⟨rfl, Below.refl _ _⟩
end Go.Proofs.YtcbimnmpdpkefaaTB
