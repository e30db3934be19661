/- TextPieces: the walk. -/
import Derived.Test.YtcbimnmpdpkefaaTextPiecesP
set_option linter.unusedVariables false
set_option linter.unusedSimpArgs false
namespace Go.Proofs.YtcbimnmpdpkefaaTB
open Go.RowKit Go.Proofs.YtcbimnmpdpkefaaW.PrintWords Go.Proofs.YtcbimnmpdpkefaaW.PrintLast Go.Proofs.YtcbimnmpdpkefaaW.PrintMore
attribute [local go_sem] max2_int min2_int max_two min_two max_three min_three max_four min_four

theorem pcs_ok (s : ByteArray) (f t : Int) (h0 : 0 ≤ f) (h1 : f ≤ t) (h2 : t ≤ (s.size : Int)) : pcs s f t = (sub s f t, 0) := by
  unfold pcs; rw [if_neg (by omega)]
theorem lin_ok (s : ByteArray) (n : Int) (h0 : 0 ≤ n) (h1 : n < ((st s).length : Int)) : lin s n = (rd (st s) n, lend s n, 0) := by
  unfold lin lend; rw [if_neg (by omega)]
set_option maxHeartbeats 4000000 in
set_option maxRecDepth 100000 in
theorem textPieces_walk (s : ByteArray) (a b c : Int) (w : World) :
    Calls Try.prog 4 #[.string s, .int .i64 a, .int .i64 b, .int .i64 c] w fun e w' => e = .returned (.bool true) ∧ Below w.heap.size w w' := by
  by_cases hs : s.size ≤ 16384
  · have c1b : decide ((s.size : Int) > 16384) = false := decide_eq_false (by omega)
    obtain ⟨m1, hm1⟩ : ∃ x : Int, x = if a < 0 then 0 else a := ⟨_, rfl⟩
    obtain ⟨f, hf⟩ : ∃ x : Int, x = if (s.size : Int) < m1 then (s.size : Int) else m1 := ⟨_, rfl⟩
    obtain ⟨m2, hm2⟩ : ∃ x : Int, x = if b < f then f else b := ⟨_, rfl⟩
    obtain ⟨t, ht⟩ : ∃ x : Int, x = if (s.size : Int) < m2 then (s.size : Int) else m2 := ⟨_, rfl⟩
    obtain ⟨m3, hm3⟩ : ∃ x : Int, x = if c < f then f else c := ⟨_, rfl⟩
    obtain ⟨m, hm⟩ : ∃ x : Int, x = if t < m3 then t else m3 := ⟨_, rfl⟩
    have hr : 0 ≤ f ∧ f ≤ m ∧ m ≤ t ∧ t ≤ (s.size : Int) := by
      have e1 : 0 ≤ m1 := by rw [hm1]; split <;> omega
      have e2 : 0 ≤ f ∧ f ≤ s.size := by rw [hf]; split <;> omega
      have e3 : f ≤ m2 := by rw [hm2]; split <;> omega
      have e4 : f ≤ t ∧ t ≤ s.size := by rw [ht]; split <;> omega
      have e5 : f ≤ m3 := by rw [hm3]; split <;> omega
      have e6 : f ≤ m ∧ m ≤ t := by rw [hm]; split <;> omega
      omega
    have hm1' := hm1.symm
    have hf' := hf.symm
    have hm2' := hm2.symm
    have ht' := ht.symm
    have hm3' := hm3.symm
    have hm' := hm.symm
    clear hm1 hf hm2 ht hm3 hm
    obtain ⟨r0, r1, r2, r3⟩ := hr
    have hxyz := sub_parts s f m t r0 r1 r2
    have hex := sub_extract s f t
    have z1 := sub_size s f m
    have z2 := sub_size s m t
    have q1 := pcs_ok s f m r0 r1 (by omega)
    have q2 := pcs_ok s m t (by omega) r2 r3
    have q3 := pcs_ok s f t r0 (by omega) r3
    have hnew := new_small s w hs
    have hP : ∀ (lo hi : Int) (W : World) (F : Nat → Prop) (bb : Nat) (r : ByteArray × Int), TB W F bb s → pcs s lo hi = r → Calls Try.prog 12 #[.pointer (some ⟨bb, 0, none⟩), .int .i64 lo, .int .i64 hi] W fun e w' => e = .returned (.tuple #[.string r.1, .int .i64 r.2]) ∧ Below W.heap.size W w' := fun lo hi W F bb r hT e => by rw [← e]; exact piece W F bb s lo hi hT
    have HP := Aside0.mk hP
    have HNEW := Aside0.mk hnew
    have Q1 := Aside0.mk q1
    have Q2 := Aside0.mk q2
    have Q3 := Aside0.mk q3
    have hs1 : (9223372036854775807 < (sub s f m).size + (sub s m t).size) = False := eq_false (by omega)
    clear hP hnew q1 q2 q3
    have e0 : f ≤ t := by omega
    go_enter Try.func4, Try.ntmps4
    go_upto_region 6 with (first | (go_at_call 7; refine HNEW.out.mono ?_; rintro e w1 ⟨bb, F, rfl, hT, hF, hB⟩; have HT := Aside0.mk hT; have HF := Aside0.mk hF; have HB := Aside0.mk hB; clear hT hF hB))
    go_upto_region 9 with (fail)
    go_upto_region 10 with (first | (go_at_call 12; refine (HP.out f m _ F bb _ HT.out Q1.out).mono ?_; rintro e w2 ⟨rfl, hB2⟩; have HT2 := Aside0.mk (HT.out.below hB2); have HB2 := Aside0.mk (below_then HB.out HB.out.size hB2); clear hB2))
    go_upto_region 11 with (first | (go_at_call 12; refine (HP.out m t _ F bb _ HT2.out Q2.out).mono ?_; rintro e w3 ⟨rfl, hB3⟩; have HT3 := Aside0.mk (HT2.out.below hB3); have HB3 := Aside0.mk (below_then HB2.out HB2.out.size hB3); clear hB3))
    go_upto_region 12 with (first | (go_at_call 12; refine (HP.out f t _ F bb _ HT3.out Q3.out).mono ?_; rintro e w4 ⟨rfl, hB4⟩; have HT4 := Aside0.mk (HT3.out.below hB4); have HB4 := Aside0.mk (below_then HB3.out HB3.out.size hB4); clear hB4))
    go_wp2
    have hlen := st_length s
    have HL0 := Aside0.mk (show (st s).length ≤ 16385 from by omega)
    go_loopg [20, 21] ((st s).length + 1) (fun kq v20 v21 w' => ∃ (n : Int) (F' : Nat → Prop), v20 = .string (lns s n) ∧ v21 = .int .i64 n ∧ Aside0 (0 ≤ n ∧ n ≤ ((st s).length : Int) ∧ ((st s).length : Int) - n < kq) ∧ Aside0 (TB w' F' bb s) ∧ Aside0 (∀ k, F' k → w.heap.size ≤ k) ∧ Aside0 (Below w.heap.size w w'))
    case atStart => exact ⟨0, F, rfl, rfl, ⟨by omega⟩, HT4, HF, HB4⟩
    case round =>
      obtain ⟨n, F', rfl, rfl, HI, HT', HF', HB'⟩ := hrel
      obtain ⟨k1, rfl⟩ : ∃ k1, gk = k1 + 1 := ⟨gk - 1, by have := HI.out; omega⟩
      by_cases c2 : n < ((st s).length : Int)
      · have c2b := decide_eq_true c2
        obtain ⟨n0, n1, n2⟩ := HI.out
        have hlr := lend_range s n n0 c2
        have hlin : ∀ (W : World) (FF : Nat → Prop), TB W FF bb s → Calls Try.prog 14 #[.pointer (some ⟨bb, 0, none⟩), .int .i64 n] W fun e w' => e = .returned (.tuple #[.agg #[.int .i64 (rd (st s) n), .int .i64 (lend s n)], .int .i64 0]) ∧ ∃ F1, TB w' F1 bb s ∧ Moved W w' FF F1 := fun W FF hT => by
          have h := line_ W FF bb s n hT (by omega)
          rw [lin_ok s n n0 c2] at h
          exact h
        have hq := pcs_ok s (rd (st s) n) (lend s n) hlr.1 hlr.2.1 hlr.2.2
        have hz := lns_size s n
        have hz2 := sub_size s (rd (st s) n) (lend s n)
        have hfirst : n = 0 → lns s n ++ sub s (rd (st s) n) (lend s n) = lns s (n + 1) := fun e => by subst e; exact lns_first s
        have hnext : 1 ≤ n → (lns s n ++ (⟨#[10]⟩ : ByteArray)) ++ sub s (rd (st s) n) (lend s n) = lns s (n + 1) := fun e => lns_next s n e c2
        generalize hg0 : rd (st s) n = g0 at hlr hlin hq hz2 hfirst hnext
        generalize hg1 : lend s n = g1 at hlr hlin hq hz2 hfirst hnext
        have HLIN := Aside0.mk hlin
        have HQ := Aside0.mk hq
        have HFI := Aside0.mk hfirst
        have HNX := Aside0.mk hnext
        have h10 : (⟨#[10]⟩ : ByteArray).size = 1 := rfl
        have y1 : (9223372036854775807 < (lns s n).size + 1) = False := eq_false (by omega)
        have y2 : (9223372036854775807 < (lns s n).size + (sub s g0 g1).size) = False := eq_false (by omega)
        have y3 : (9223372036854775807 < (lns s n).size + 1 + (sub s g0 g1).size) = False := eq_false (by omega)
        clear hlin hq hfirst hnext hg0 hg1 hz hz2
        go_upto_region 18 with (first | (go_at_call 13; refine (lines_ _ F' bb s HT'.out).mono ?_; rintro e wa ⟨rfl, Fa, hTa, hMa⟩; have HTa := Aside0.mk hTa; have HFa := Aside0.mk (hMa.from_ HB'.out.size HF'.out); have HBa := Aside0.mk (hMa.below HB'.out HF'.out); clear hTa hMa))
        go_upto_region 19 with (first | (go_at_call 14; refine (HLIN.out wa Fa HTa.out).mono ?_; rintro e wl ⟨rfl, Fl, hTl, hMl⟩; have HTl := Aside0.mk hTl; have HFl := Aside0.mk (hMl.from_ HBa.out.size HFa.out); have HBl := Aside0.mk (hMl.below HBa.out HFa.out); clear hTl hMl) | ((with_reducible refine gate_dst (N := 22) rfl ?_); refine box_event ?hg (N := 22) ?hd (cs := #[.int .i64 0, .int .i64 0]) (t := 40) ?hr ?_; (case hd => rfl); (case hg => rfl); (case hr => first | (go_simp; done) | (go_simp; rfl)); intro gb hg w7 hbox hb; have HT7 := Aside0.mk (HTl.out.below hb); have HB7 := Aside0.mk (below_then HBl.out HBl.out.size hb); have HG7 := Aside0.mk (show ∀ k, Fl k → k ≠ gb from fun k hk => by have := HTl.out.lt k hk; omega); have HGE := Aside0.mk (show w.heap.size ≤ gb from by have := HBl.out.size; omega); have hcz0 : w7.cell? ⟨gb, 0, none⟩ = some (.int .i64 0) := cells_of hbox 0 _ rfl; have hcz1 : w7.cell? ⟨gb, 1, none⟩ = some (.int .i64 0) := cells_of hbox 1 _ rfl; have hfz0 := blk_frozen hbox 0; have hfz1 := blk_frozen hbox 1; clear hb hg hbox))
        go_upto_region 20 with (first | (go_at_call 12; refine (HP.out _ _ _ Fl bb _ (HT7.out.grown (grown_set (grown_set (World.grownBy.refl w7 (some gb)) 0 (.int .i64 g0)) 1 (.int .i64 g1)) (fun k hk e => HG7.out k hk (by injection e))) HQ.out).mono ?_; rintro e w8 ⟨rfl, hB8⟩; have HT8 := Aside0.mk ((HT7.out.grown (grown_set (grown_set (World.grownBy.refl w7 (some gb)) 0 (.int .i64 g0)) 1 (.int .i64 g1)) (fun k hk e => HG7.out k hk (by injection e))).below hB8); have HB8 := Aside0.mk (below_then (below_set (below_set HB7.out HGE.out) HGE.out) (below_set (below_set HB7.out HGE.out) HGE.out).size hB8); clear hB8))
        by_cases c3 : n > 0
        · have c3b := decide_eq_true c3
          go_wp2
          go_roundg k1
          case measure => omega
          case rel => exact ⟨n + 1, Fl, by rw [← HNX.out (by have := HI.out; omega)], by first | rfl | (have h_ := HL0.out; congr 1; unfold wrap64; omega), ⟨by omega⟩, HT8, HFl, HB8⟩
        · have c3b := decide_eq_false c3
          have hfi := Aside0.mk (HFI.out (by omega))
          go_wp2
          go_roundg k1
          case measure => omega
          case rel => exact ⟨n + 1, Fl, by rw [← hfi.out], by first | rfl | (have h_ := HL0.out; congr 1; unfold wrap64; omega), ⟨by omega⟩, HT8, HFl, HB8⟩
      · have c2b := decide_eq_false c2
        have hn : n = ((st s).length : Int) := by have := HI.out; omega
        have hall : lns s n = s := by rw [hn]; exact lns_all s
        rw [hall]
        go_wp2_with (first | (go_at_call 13; refine (lines_ _ F' bb s HT'.out).mono ?_; rintro e wa ⟨rfl, Fa, hTa, hMa⟩; have HTa := Aside0.mk hTa; have HFa := Aside0.mk (hMa.from_ HB'.out.size HF'.out); have HBa := Aside0.mk (hMa.below HB'.out HF'.out); clear hTa hMa))
        go_ret
        exact ⟨rfl, HBa.out⟩
  · have c1b : decide ((s.size : Int) > 16384) = true := decide_eq_true (by omega)
    clear hs
    go_enter Try.func4, Try.ntmps4
    go_wp2
    go_ret
    exact ⟨rfl, Below.refl _ _⟩
end Go.Proofs.YtcbimnmpdpkefaaTB
