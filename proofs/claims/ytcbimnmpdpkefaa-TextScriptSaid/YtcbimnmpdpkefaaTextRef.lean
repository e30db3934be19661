/- The document's buffer: edits put in. -/
import Derived.Test.YtcbimnmpdpkefaaTextBufG
import Derived.StillTailTactics
set_option linter.unusedVariables false
set_option linter.unusedSimpArgs false
namespace Go.Proofs.YtcbimnmpdpkefaaTB
open Go.RowKit Go.Proofs.YtcbimnmpdpkefaaW.PrintWords Go.Proofs.YtcbimnmpdpkefaaW.PrintLast Go.Proofs.YtcbimnmpdpkefaaW.PrintMore Go.Proofs.Ytcbimnmpdpkefaa.A

theorem bys_append2 (a b : ByteArray) : bys (a ++ b) = bys a ++ bys b := by simp [bys]
theorem fit1_at (n : Int) : ∀ (i : Nat) (l : List Ed) (e : Int), 0 ≤ e → e ≤ n → fit1 n e l = true → ∃ e', 0 ≤ e' ∧ e' ≤ n ∧ fit1 n e' (l.drop i) = true
  | 0, l, e, h0, h1, h => ⟨e, h0, h1, by simpa using h⟩
  | i + 1, [], e, h0, h1, h => ⟨e, h0, h1, by simpa using h⟩
  | i + 1, x :: l, e, h0, h1, h => by
    simp only [fit1] at h
    split at h; · cases h
    split at h; · cases h
    split at h; · cases h
    simpa using fit1_at n i l x.f1 (by omega) (by omega) h
theorem app_split (s : List UInt8) (l : List Ed) (c : Int) (h0 : 0 ≤ c) (h1 : c ≤ s.length) (h : fit1 s.length c l = true) : app s 0 l = s.take c.toNat ++ app s c l := by
  cases l with
  | nil => simp [app]
  | cons x l =>
    simp only [fit1] at h
    split at h; · cases h
    split at h; · cases h
    split at h; · cases h
    simp only [app, Int.toNat_zero, List.drop_zero, ← List.append_assoc]
    congr 2
    have e : s.take c.toNat = (s.take x.f0.toNat).take c.toNat := by rw [List.take_take, Nat.min_eq_left (by omega)]
    rw [e, List.take_append_drop]
theorem app_step (s S : List UInt8) (x : Ed) (l : List Ed) (hS : S = app s 0 l) (e : Int) (h0 : 0 ≤ e) (h1 : e ≤ s.length) (h : fit1 s.length e (x :: l) = true) : 0 ≤ x.f0 ∧ x.f0 ≤ x.f1 ∧ x.f1 ≤ S.length ∧ S.take x.f0.toNat ++ bys x.f2 ++ S.drop x.f1.toNat = app s 0 (x :: l) := by
  simp only [fit1] at h
  split at h; · cases h
  split at h; · cases h
  split at h; · cases h
  have hs := app_split s l x.f1 (by omega) (by omega) h
  rw [← hS] at hs
  have hl : (s.take x.f1.toNat).length = x.f1.toNat := by rw [List.length_take]; omega
  refine ⟨by omega, by omega, ?_, ?_⟩
  · rw [hs, List.length_append, hl]; omega
  · simp only [app, Int.toNat_zero, List.drop_zero]
    rw [hs, List.take_append_of_le_length (by omega), List.take_take, Nat.min_eq_left (by omega), List.append_assoc]
    congr 2
    rw [List.drop_append_of_le_length (by omega), List.drop_eq_nil_of_le (by omega), List.nil_append]
theorem fit1_weak (n : Int) (l : List Ed) (e e' : Int) (h : fit1 n e l = true) (he : e' ≤ e) : fit1 n e' l = true := by
  cases l with
  | nil => rfl
  | cons x l =>
    simp only [fit1] at h ⊢
    split at h; · cases h
    rw [if_neg (by omega)]; exact h
theorem puts_drop : ∀ (i : Nat) (l : List Ed), puts (l.drop i) ≤ puts l
  | 0, l => by simp
  | i + 1, [] => by simp
  | i + 1, x :: l => by
    have := puts_drop i l
    simp only [List.drop_succ_cons, puts]; omega

set_option maxHeartbeats 8000000 in
set_option maxRecDepth 100000 in
theorem rapply (w : World) (g : Nat) (s : ByteArray) (A0 : Option Addr) (c0 : Nat) (l : List Ed) (hg : w.heap[g]? = some (.cells #[.string s] 54 (0, 0))) (hsm : s.size ≤ 16384) (hl : Kd.C kE w A0 l.length l) (hne : ∀ ad, A0 = some ad → 0 < l.length → ad.block ≠ g) (hc : l.length ≤ c0) (hs : ∀ x ∈ l, x.f2.size ≤ 140737488351232) (hL : l.length ≤ 16777216) :
    Calls Try.prog 10 #[.pointer (some ⟨g, 0, none⟩), .slice A0 l.length c0] w fun e w' => e = .returned (.int .i64 (fitsE s.size l)) ∧ w'.heap[g]? = some (.cells #[.string (applied s l)] 54 (0, 0)) ∧ w.grownBy w' (some g) := by
  have HR := Aside0.mk hl
  have HS := Aside0.mk hs
  have HB := Aside0.mk (Below.refl w.heap.size w)
  have HG := Aside0.mk hg
  have hcell : w.cell? ⟨g, 0, none⟩ = some (.string s) := cells_of hg 0 _ rfl
  have HN := Aside0.mk hcell
  have hgl := blk_lt hg
  clear hl hs hg
  obtain ⟨n, hnn⟩ : ∃ n : Int, (s.size : Int) = n := ⟨_, rfl⟩
  have hn0 : 0 ≤ n ∧ n ≤ 16384 := by omega
  rw [hnn]
  go_enter Try.func10, Try.ntmps10
  go_wp2
  repeat (go_quiet (fail); try go_wp2)
  go_loopg [5, 7] (l.length + 1) (fun kq v5 v7 w' => ∃ (i en : Int), v7 = .int .i64 i ∧ v5 = .int .i64 en ∧ Aside0 (0 ≤ i ∧ i ≤ (l.length : Int) ∧ (l.length : Int) - i < kq) ∧ Aside0 (0 ≤ en ∧ en ≤ n ∧ fit1 n 0 l = fit1 n en (l.drop i.toNat)) ∧ Aside0 (Below w.heap.size w w'))
  case atStart => exact ⟨0, 0, rfl, rfl, ⟨by omega⟩, ⟨by omega, by omega, by simp⟩, ⟨(by repeat (first | (with_reducible first | exact HB.out | apply below_alloc | apply pw_below_drewN | apply below_drew1) | exact HB.out))⟩⟩
  case round =>
    obtain ⟨i, en, rfl, rfl, HI, HO, HB⟩ := hrel
    obtain ⟨k1, rfl⟩ : ∃ k1, gk = k1 + 1 := ⟨gk - 1, by have := HI.out; omega⟩
    by_cases c1 : i < (l.length : Int)
    · have c1b := decide_eq_true c1
      obtain ⟨i0, i1, i2⟩ := HI.out
      have hd := drop_cons l i i0 c1
      obtain ⟨ad, ead, hx0, hx1, hx2⟩ := at_T34 HR.out i i0 c1
      subst ead
      replace hx0 := (HB.out.cell (World.block_lt_of_cell? w _ hx0)).trans hx0
      replace hx1 := (HB.out.cell (World.block_lt_of_cell? w _ hx1)).trans hx1
      replace hx2 := (HB.out.cell (World.block_lt_of_cell? w _ hx2)).trans hx2
      have hsz := (HB.out.cell (World.block_lt_of_cell? w _ HN.out)).trans HN.out
      have p1 := eq_true i0
      have q1 := eq_true c1
      have hmem : rd_T34 l i ∈ l := by
        have : rd_T34 l i ∈ l.drop i.toNat := by rw [hd]; exact List.mem_cons_self
        exact List.mem_of_mem_drop this
      have hxs := HS.out _ hmem
      generalize rd_T34 l i = x at *
      obtain ⟨x0, x1, x2⟩ := x
      dsimp only at hx0 hx1 hx2 hxs
      have HO2 := HO.out
      rw [hd] at HO2
      simp only [fit1] at HO2
      have HD := Aside0.mk hd
      clear hd hmem hxs
      by_cases d1 : x0 < en
      · have d1b := decide_eq_true d1
        rw [if_pos d1] at HO2
        have e : fitsE n l = 10 := by unfold fitsE; rw [HO2.2.2]; rfl
        have ea : applied s l = s := by unfold applied; rw [hnn, e]; rfl
        have E := Aside0.mk e
        have EA := Aside0.mk ea
        clear e ea HO2
        go_wp2
        repeat (go_quiet (fail); try go_wp2)
        go_ret
        refine ⟨by rw [E.out]; rfl, ?_, ?_⟩
        · rw [EA.out]; exact (Below.block (by repeat (first | (with_reducible first | exact HB.out | apply below_alloc | apply pw_below_drewN | apply below_drew1) | exact HB.out)) _ hgl).trans HG.out
        · exact grown_of_below (by repeat (first | (with_reducible first | exact HB.out | apply below_alloc | apply pw_below_drewN | apply below_drew1) | exact HB.out)) _
      · have d1b := decide_eq_false d1
        rw [if_neg d1] at HO2
        by_cases d2 : x1 < x0
        · have d2b := decide_eq_true d2
          rw [if_pos d2] at HO2
          have e : fitsE n l = 10 := by unfold fitsE; rw [HO2.2.2]; rfl
          have ea : applied s l = s := by unfold applied; rw [hnn, e]; rfl
          have E := Aside0.mk e
          have EA := Aside0.mk ea
          clear e ea HO2
          go_wp2
          repeat (go_quiet (fail); try go_wp2)
          go_ret
          refine ⟨by rw [E.out]; rfl, ?_, ?_⟩
          · rw [EA.out]; exact (Below.block (by repeat (first | (with_reducible first | exact HB.out | apply below_alloc | apply pw_below_drewN | apply below_drew1) | exact HB.out)) _ hgl).trans HG.out
          · exact grown_of_below (by repeat (first | (with_reducible first | exact HB.out | apply below_alloc | apply pw_below_drewN | apply below_drew1) | exact HB.out)) _
        · have d2b := decide_eq_false d2
          rw [if_neg d2] at HO2
          by_cases d3 : x1 > n
          · have d3b := decide_eq_true d3
            rw [if_pos d3] at HO2
            have e : fitsE n l = 10 := by unfold fitsE; rw [HO2.2.2]; rfl
            have ea : applied s l = s := by unfold applied; rw [hnn, e]; rfl
            have E := Aside0.mk e
            have EA := Aside0.mk ea
            clear e ea HO2
            go_wp2
            repeat (go_quiet (fail); try go_wp2)
            go_ret
            refine ⟨by rw [E.out]; rfl, ?_, ?_⟩
            · rw [EA.out]; exact (Below.block (by repeat (first | (with_reducible first | exact HB.out | apply below_alloc | apply pw_below_drewN | apply below_drew1) | exact HB.out)) _ hgl).trans HG.out
            · exact grown_of_below (by repeat (first | (with_reducible first | exact HB.out | apply below_alloc | apply pw_below_drewN | apply below_drew1) | exact HB.out)) _
          · have d3b := decide_eq_false d3
            rw [if_neg d3] at HO2
            go_wp2
            repeat (go_quiet (fail); try go_wp2)
            go_roundg k1
            case measure => omega
            case rel => exact ⟨i + 1, x1, by first | rfl | (congr 1; unfold wrap64; omega), rfl, ⟨by omega⟩, ⟨⟨by omega, by omega, HO2.2.2⟩⟩, ⟨(by repeat (first | (with_reducible first | exact HB.out | apply below_alloc | apply pw_below_drewN | apply below_drew1) | exact HB.out))⟩⟩
    · have c1b := decide_eq_false c1
      have HO2 := HO.out
      have hi : i = l.length := by have := HI.out; omega
      rw [hi, Int.toNat_natCast, List.drop_length] at HO2
      have hf1 : fit1 n 0 l = true := HO2.2.2
      have HF := Aside0.mk hf1
      clear HO2 hf1 hi HO HI c1
      go_wp2
      go_loopg [6, 8] (l.length + 1) (fun kq v6 v8 w' => ∃ (i sz : Int), v8 = .int .i64 i ∧ v6 = .int .i64 sz ∧ Aside0 (0 ≤ i ∧ i ≤ (l.length : Int) ∧ (l.length : Int) - i < kq) ∧ Aside0 (∃ e, 0 ≤ e ∧ e ≤ n ∧ fit1 n e (l.drop i.toNat) = true ∧ n - gone l = sz - gone (l.drop i.toNat) ∧ n - e ≤ sz ∧ sz ≤ n) ∧ Aside0 (Below w.heap.size w w'))
      case atStart => exact ⟨0, n, rfl, rfl, ⟨by omega⟩, ⟨0, by omega, by omega, by simpa using HF.out, by simp, by omega, by omega⟩, ⟨(by repeat (first | (with_reducible first | exact HB.out | apply below_alloc | apply pw_below_drewN | apply below_drew1) | exact HB.out))⟩⟩
      case round =>
        obtain ⟨i, sz, rfl, rfl, HI, HO, HB⟩ := hrel
        obtain ⟨k1, rfl⟩ : ∃ k1, gk = k1 + 1 := ⟨gk - 1, by have := HI.out; omega⟩
        by_cases c1 : i < (l.length : Int)
        · have c1b := decide_eq_true c1
          obtain ⟨i0, i1, i2⟩ := HI.out
          have hd := drop_cons l i i0 c1
          obtain ⟨ad, ead, hx0, hx1, hx2⟩ := at_T34 HR.out i i0 c1
          subst ead
          replace hx0 := (HB.out.cell (World.block_lt_of_cell? w _ hx0)).trans hx0
          replace hx1 := (HB.out.cell (World.block_lt_of_cell? w _ hx1)).trans hx1
          replace hx2 := (HB.out.cell (World.block_lt_of_cell? w _ hx2)).trans hx2
          have hsz := (HB.out.cell (World.block_lt_of_cell? w _ HN.out)).trans HN.out
          have p1 := eq_true i0
          have q1 := eq_true c1
          have hmem : rd_T34 l i ∈ l := by
            have : rd_T34 l i ∈ l.drop i.toNat := by rw [hd]; exact List.mem_cons_self
            exact List.mem_of_mem_drop this
          have hxs := HS.out _ hmem
          generalize rd_T34 l i = x at *
          obtain ⟨x0, x1, x2⟩ := x
          dsimp only at hx0 hx1 hx2 hxs
          obtain ⟨e, e0, e1, hf, hgn, z0, z1⟩ := HO.out
          rw [hd] at hf hgn
          simp only [fit1, gone] at hf hgn
          split at hf; · cases hf
          split at hf; · cases hf
          split at hf; · cases hf
          rename_i d1 d2 d3
          have HF2 := Aside0.mk hf
          clear hd hmem hxs hf
          go_wp2
          repeat (go_quiet (fail); try go_wp2)
          go_roundg k1
          case measure => omega
          case rel => exact ⟨i + 1, sz - (x1 - x0), by first | rfl | (congr 1; unfold wrap64; omega), by first | rfl | (congr 1; unfold wrap64; omega), ⟨by omega⟩, ⟨⟨x1, by omega, by omega, HF2.out, by omega, by omega, by omega⟩⟩, ⟨(by repeat (first | (with_reducible first | exact HB.out | apply below_alloc | apply pw_below_drewN | apply below_drew1) | exact HB.out))⟩⟩
        · have c1b := decide_eq_false c1
          obtain ⟨e, e0, e1, hf, hgn, z0, z1⟩ := HO.out
          have hi : i = l.length := by have := HI.out; omega
          rw [hi, Int.toNat_natCast, List.drop_length] at hgn
          simp only [gone] at hgn
          have hz : sz = n - gone l := by omega
          have HZ := Aside0.mk hz
          have HZ0 := Aside0.mk (show 0 ≤ sz ∧ sz ≤ 16384 by omega)
          clear hf hi HO HI c1 hgn hz z0 z1 e0 e1
          go_wp2
          go_loopg [6, 9] (l.length + 1) (fun kq v6 v9 w' => ∃ (i z : Int), v9 = .int .i64 i ∧ v6 = .int .i64 z ∧ Aside0 (0 ≤ i ∧ i ≤ (l.length : Int) ∧ (l.length : Int) - i < kq) ∧ Aside0 (0 ≤ z ∧ z ≤ 16384 ∧ fit2 sz l = fit2 z (l.drop i.toNat)) ∧ Aside0 (Below w.heap.size w w'))
          case atStart => exact ⟨0, sz, rfl, rfl, ⟨by omega⟩, ⟨HZ0.out.1, HZ0.out.2, by simp⟩, ⟨(by repeat (first | (with_reducible first | exact HB.out | apply below_alloc | apply pw_below_drewN | apply below_drew1) | exact HB.out))⟩⟩
          case round =>
            obtain ⟨i, z, rfl, rfl, HI, HO, HB⟩ := hrel
            obtain ⟨k1, rfl⟩ : ∃ k1, gk = k1 + 1 := ⟨gk - 1, by have := HI.out; omega⟩
            by_cases c1 : i < (l.length : Int)
            · have c1b := decide_eq_true c1
              obtain ⟨i0, i1, i2⟩ := HI.out
              have hd := drop_cons l i i0 c1
              obtain ⟨ad, ead, hx0, hx1, hx2⟩ := at_T34 HR.out i i0 c1
              subst ead
              replace hx0 := (HB.out.cell (World.block_lt_of_cell? w _ hx0)).trans hx0
              replace hx1 := (HB.out.cell (World.block_lt_of_cell? w _ hx1)).trans hx1
              replace hx2 := (HB.out.cell (World.block_lt_of_cell? w _ hx2)).trans hx2
              have hsz := (HB.out.cell (World.block_lt_of_cell? w _ HN.out)).trans HN.out
              have p1 := eq_true i0
              have q1 := eq_true c1
              have hmem : rd_T34 l i ∈ l := by
                have : rd_T34 l i ∈ l.drop i.toNat := by rw [hd]; exact List.mem_cons_self
                exact List.mem_of_mem_drop this
              have hxs := HS.out _ hmem
              generalize rd_T34 l i = x at *
              obtain ⟨x0, x1, x2⟩ := x
              dsimp only at hx0 hx1 hx2 hxs
              have HO2 := HO.out
              rw [hd] at HO2
              simp only [fit2] at HO2
              have HD := Aside0.mk hd
              have HO3 := Aside0.mk (And.intro HO2.1 HO2.2.1)
              have hw1 : wrap64 (z + (x2.size : Int)) = z + (x2.size : Int) := by unfold wrap64; omega
              have hw2 : wrap64 (16384 - z) = 16384 - z := by unfold wrap64; omega
              have HW1 := Aside0.mk hw1
              have HW2 := Aside0.mk hw2
              clear hd hw1 hw2 hmem
              by_cases d1 : z + (x2.size : Int) > 16384
              · have d1b : decide ((x2.size : Int) > wrap64 (16384 - z)) = true := by rw [HW2.out]; exact decide_eq_true (by omega)
                rw [if_pos d1] at HO2
                have e : fitsE n l = 11 := by unfold fitsE; rw [HF.out, if_pos rfl, ← HZ.out, HO2.2.2]; rfl
                have ea : applied s l = s := by unfold applied; rw [hnn, e]; rfl
                have E := Aside0.mk e
                have EA := Aside0.mk ea
                clear e ea HO2
                go_wp2
                repeat (go_quiet (fail); try go_wp2)
                go_ret
                refine ⟨by rw [E.out]; rfl, ?_, ?_⟩
                · rw [EA.out]; exact (Below.block (by repeat (first | (with_reducible first | exact HB.out | apply below_alloc | apply pw_below_drewN | apply below_drew1) | exact HB.out)) _ hgl).trans HG.out
                · exact grown_of_below (by repeat (first | (with_reducible first | exact HB.out | apply below_alloc | apply pw_below_drewN | apply below_drew1) | exact HB.out)) _
              · have d1b : decide ((x2.size : Int) > wrap64 (16384 - z)) = false := by rw [HW2.out]; exact decide_eq_false (by omega)
                rw [if_neg d1] at HO2
                go_wp2
                repeat (go_quiet (fail); try go_wp2)
                go_roundg k1
                case measure => omega
                case rel => exact ⟨i + 1, z + (x2.size : Int), by first | rfl | (congr 1; unfold wrap64; omega), by first | rfl | (congr 1; exact HW1.out), ⟨by omega⟩, ⟨⟨by omega, by omega, HO2.2.2⟩⟩, ⟨(by repeat (first | (with_reducible first | exact HB.out | apply below_alloc | apply pw_below_drewN | apply below_drew1) | exact HB.out))⟩⟩
            · have c1b := decide_eq_false c1
              have HO2 := HO.out
              have hi : i = l.length := by have := HI.out; omega
              rw [hi, Int.toNat_natCast, List.drop_length] at HO2
              have e : fitsE n l = 0 := by unfold fitsE; rw [HF.out, if_pos rfl, ← HZ.out, HO2.2.2]; rfl
              have E := Aside0.mk e
              have hpu : puts l ≤ 32768 := by
                have hh := fitsE_zero e
                have h1 := fit2_puts l _ (by have := HZ0.out; have := HZ.out; omega) hh.2
                have h2 := fit1_gone n l 0 (by omega) (by omega) hh.1
                omega
              have HPU := Aside0.mk hpu
              have hap : applied s l = appB s l := by unfold applied; rw [hnn, e]; rfl
              have HAP := Aside0.mk hap
              clear e HO2 hi HO HI c1 hpu hap HZ0
              go_wp2
              repeat (go_quiet (fail); try go_wp2)
              go_loopg [10] (l.length + 1) (fun kq v10 w' => ∃ (j : Int) (S : ByteArray), v10 = .int .i64 j ∧ Aside0 (-1 ≤ j ∧ j < (l.length : Int) ∧ j + 1 < kq) ∧ Aside0 (bys S = app (bys s) 0 (l.drop (j + 1).toNat)) ∧ Aside0 (w'.heap[g]? = some (.cells #[.string S] 54 (0, 0))) ∧ Aside0 (w.grownBy w' (some g)))
              case atStart => exact ⟨(l.length : Int) - 1, s, by first | rfl | (congr 1; unfold wrap64; omega), ⟨by omega⟩, ⟨by rw [show ((l.length : Int) - 1 + 1).toNat = l.length by omega, List.drop_length]; simp [app]⟩, ⟨(HB.out.block g hgl).trans HG.out⟩, ⟨grown_of_below HB.out _⟩⟩
              case round =>
                clear HB
                obtain ⟨j, S, rfl, HJ, HS4, HB4, HG4⟩ := hrel
                obtain ⟨k1, rfl⟩ : ∃ k1, gk = k1 + 1 := ⟨gk - 1, by have := HJ.out; omega⟩
                by_cases c2 : j ≥ 0
                · have c2b := decide_eq_true c2
                  obtain ⟨j0, j1, j2⟩ := HJ.out
                  have hd := drop_cons l j c2 j1
                  obtain ⟨ad, ead, hx0, hx1, hx2⟩ := at_T34 HR.out j c2 j1
                  have hadg := hne ad ead (by omega)
                  subst ead
                  replace hx0 := cell_grown HG4.out hx0 (by rw [add_block]; simpa using hadg)
                  replace hx1 := cell_grown HG4.out hx1 (by show some (ad.add _).block ≠ _; rw [add_block]; simpa using hadg)
                  replace hx2 := cell_grown HG4.out hx2 (by show some (ad.add _).block ≠ _; rw [add_block]; simpa using hadg)
                  have hSc : wr.cell? ⟨g, 0, none⟩ = some (.string S) := cells_of HB4.out 0 _ rfl
                  have hSf := blk_frozen HB4.out 0
                  have p1 := eq_true c2
                  have q1 := eq_true j1
                  obtain ⟨e, e0, e1, hf⟩ := fit1_at n j.toNat l 0 (by omega) (by omega) HF.out
                  generalize rd_T34 l j = x at *
                  obtain ⟨x0, x1, x2⟩ := x
                  dsimp only at hx0 hx1 hx2
                  rw [hd] at hf
                  have hbl := bys_length s
                  have hst := app_step (bys s) (bys S) ⟨x0, x1, x2⟩ (l.drop (j + 1).toNat) HS4.out e e0 (by omega) (by rw [hbl, hnn]; exact hf)
                  rw [bys_length] at hst
                  dsimp only at hst
                  obtain ⟨t0, t1, t2, t3⟩ := hst
                  have hf0 : fit1 n 0 (l.drop (j + 1).toNat) = true := by
                    simp only [fit1] at hf
                    split at hf; · cases hf
                    split at hf; · cases hf
                    split at hf; · cases hf
                    exact fit1_weak n _ _ _ hf (by omega)
                  have hSl := app_length (bys s) (l.drop (j + 1).toNat) 0 (by omega) (by omega) (by rw [hbl, hnn]; exact hf0)
                  have hgn := fit1_gone n (l.drop (j + 1).toNat) 0 (by omega) (by omega) hf0
                  have hpd := puts_drop (j + 1).toNat l
                  have hpd2 := puts_drop j.toNat l
                  have hpu := HPU.out
                  rw [← HS4.out, bys_length, hbl, hnn] at hSl
                  rw [hd] at hpd2
                  simp only [puts] at hpd2
                  have hSz : S.size ≤ 49152 ∧ x2.size ≤ 49152 := by
                    have : 0 ≤ puts (l.drop (j + 1).toNat) := by
                      generalize l.drop (j + 1).toNat = m
                      induction m with
                      | nil => simp [puts]
                      | cons y m ih => simp only [puts]; omega
                    omega
                  obtain ⟨z1, z2⟩ := hSz
                  have T3 := Aside0.mk t3
                  have HD := Aside0.mk hd
                  clear hSl hgn hpd hpd2 hpu hf0 hf t3 hd hbl
                  have a1 := eq_true t0
                  have a2 := eq_true (show x0 ≤ (S.size : Int) by omega)
                  have a3 := eq_true (show 0 ≤ x1 by omega)
                  have a4 := eq_true t2
                  have b1 : (9223372036854775807 < x0.toNat + x2.size) = False := eq_false (by omega)
                  have b2 : (9223372036854775807 < x0.toNat + x2.size + (S.size - x1.toNat)) = False := eq_false (by omega)
                  have hD0 : wr.drew.cell? (ad.add (j.toNat * 3)) = some (.int .i64 x0) := hx0
                  have hD1 : wr.drew.cell? ⟨(ad.add (j.toNat * 3)).block, (ad.add (j.toNat * 3)).off + 1, none⟩ = some (.int .i64 x1) := hx1
                  have hD2 : wr.drew.cell? ⟨(ad.add (j.toNat * 3)).block, (ad.add (j.toNat * 3)).off + 2, none⟩ = some (.string x2) := hx2
                  have hDS : wr.drew.cell? ⟨g, 0, none⟩ = some (.string S) := hSc
                  have hDF : wr.drew.frozen? ⟨g, 0, none⟩ = false := hSf
                  clear hx0 hx1 hx2 hSc hSf
                  go_wp2
                  refine wp_region_still_tail 30 (by kernel_rfl) (by kernel_rfl) ?_
                  simp only [List.take_succ_cons, List.take_zero, List.drop_succ_cons, List.drop_zero]
                  change wpStill _ _ wr.drew _ _ _
                  iterate 30 still_step
                  refine wpStill_nil ?_
                  have HGD := Aside0.mk (show w.grownBy wr.drew (some g) from ⟨HG4.out.os, HG4.out.tape, HG4.out.output, HG4.out.size, HG4.out.block⟩)
                  have HBD := Aside0.mk (blk_drew HB4.out)
                  change wpList _ _ _ _ _ wr.drew
                  go_wp2
                  go_roundg k1
                  case measure => omega
                  case rel => exact ⟨j - 1, _, by first | rfl | (congr 1; unfold wrap64; omega), ⟨by omega⟩, ⟨by
                    rw [show (j - 1 + 1).toNat = j.toNat by omega, HD.out, ← T3.out, bys_append2, bys_append2, bys_extract, bys_extract, List.drop_zero, ← bys_length S, List.take_length]⟩, ⟨blk_put HBD.out 0 _ rfl⟩, ⟨grown_set HGD.out 0 _⟩⟩
                · have c2b := decide_eq_false c2
                  have hj : j = -1 := by have := HJ.out; omega
                  have hS : S = appB s l := bys_inj (by rw [bys_appB, HS4.out, hj]; rfl)
                  have hb4 := HB4.out
                  rw [hS, ← HAP.out] at hb4
                  have HB5 := Aside0.mk hb4
                  clear hb4 hS hj HS4
                  go_wp2
                  go_ret
                  exact ⟨by rw [E.out]; rfl, HB5.out, HG4.out⟩

set_option maxHeartbeats 1000000 in
set_option maxRecDepth 100000 in
/-- The document's New, of a text that is small enough. -/
theorem rnew_small (s : ByteArray) (w : World) (hs : s.size ≤ 16384) :
    Calls Try.prog 8 #[.string s] w fun e w' => e = .returned (.tuple #[.pointer (some ⟨w.heap.size, 0, none⟩), .int .i64 0]) ∧ w'.heap[w.heap.size]? = some (.cells #[.string s] 54 (0, 0)) ∧ Below w.heap.size w w' := by
  have c1 : decide ((s.size : Int) > 16384) = false := decide_eq_false (by omega)
  clear hs
  go_enter Try.func8, Try.ntmps8
  go_wp2
  repeat (go_quiet (fail); try go_wp2)
  go_ret2
  exact ⟨rfl, blk_new w (.cells #[.string s] 54 (0, 0)), below_alloc (Below.refl _ _) _⟩
set_option maxHeartbeats 1000000 in
set_option maxRecDepth 100000 in
theorem rnew_large (s : ByteArray) (w : World) (hs : ¬ s.size ≤ 16384) :
    Calls Try.prog 8 #[.string s] w fun e w' => e = .returned (.tuple #[.pointer none, .int .i64 11]) ∧ w' = w := by
  have c1 : decide ((s.size : Int) > 16384) = true := decide_eq_true (by omega)
  clear hs
  go_enter Try.func8, Try.ntmps8
  go_wp2
  repeat (go_quiet (fail); try go_wp2)
  go_ret2
  exact ⟨rfl, rfl⟩
end Go.Proofs.YtcbimnmpdpkefaaTB
