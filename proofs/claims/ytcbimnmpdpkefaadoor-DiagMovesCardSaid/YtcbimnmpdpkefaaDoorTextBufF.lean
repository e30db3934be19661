/- text.Buffer: which edits may be. -/
import Derived.Test.YtcbimnmpdpkefaaDoorTextBufD
import Derived.Deep.LoopGhost
import Derived.Test.YtcbimnmpdpkefaaDoorAx0
set_option linter.unusedVariables false
set_option linter.unusedSimpArgs false
namespace Go.Proofs.YtcbimnmpdpkefaaDoorTB
open Go.RowKit Go.Proofs.YtcbimnmpdpkefaaDoorW.PrintWords Go.Proofs.YtcbimnmpdpkefaaDoorW.PrintLast Go.Proofs.YtcbimnmpdpkefaaDoorW.PrintMore Go.Proofs.YtcbimnmpdpkefaaDoor.A

/-- An edit. -/
abbrev Ed := S43
abbrev kE := k43
/-- All edits lie in the text, one behind the other. -/
def fit1 (n : Int) : Int → List Ed → Bool
  | _, [] => true
  | e, x :: l => if x.f0 < e then false else if x.f1 < x.f0 then false else if x.f1 > n then false else fit1 n x.f1 l
/-- How much they take away. -/
def gone : List Ed → Int
  | [] => 0
  | x :: l => (x.f1 - x.f0) + gone l
/-- What is put in keeps within the bound. -/
def fit2 : Int → List Ed → Bool
  | _, [] => true
  | z, x :: l => if z + x.f2.size > 16384 then false else fit2 (z + x.f2.size) l
def fitsE (n : Int) (l : List Ed) : Int := if fit1 n 0 l then (if fit2 (n - gone l) l then 0 else 11) else 10
theorem drop_cons (l : List Ed) (i : Int) (h0 : 0 ≤ i) (h1 : i < (l.length : Int)) : l.drop i.toNat = rd_T43 l i :: l.drop (i + 1).toNat := by
  have hl : i.toNat < l.length := by omega
  rw [List.drop_eq_getElem_cons hl, show (i + 1).toNat = i.toNat + 1 by omega]
  unfold rd_T43
  rw [List.getD_eq_getElem?_getD, List.getElem?_eq_getElem hl]
  rfl
theorem fit1_gone (n : Int) : ∀ (l : List Ed) (e : Int), 0 ≤ e → e ≤ n → fit1 n e l = true → 0 ≤ gone l ∧ gone l ≤ n - e
  | [], e, h0, h1, h => by simp only [gone]; omega
  | x :: l, e, h0, h1, h => by
    simp only [fit1] at h
    split at h; · cases h
    split at h; · cases h
    split at h; · cases h
    have := fit1_gone n l x.f1 (by omega) (by omega) h
    simp only [gone]; omega

set_option maxHeartbeats 4000000 in
set_option maxRecDepth 100000 in
theorem fits_ (w : World) (F : Nat → Prop) (b : Nat) (s : ByteArray) (A0 : Option Addr) (c0 : Nat) (l : List Ed) (hT : TB w F b s) (hl : Kd.C kE w A0 l.length l) (hc : l.length ≤ c0) (hs : ∀ x ∈ l, x.f2.size ≤ 140737488351232) (hL : l.length ≤ 4398046511104) :
    Calls Tryd.prog 55 #[.pointer (some ⟨b, 0, none⟩), .slice A0 l.length c0] w fun e w' => e = .returned (.int .i64 (fitsE s.size l)) ∧ Below w.heap.size w w' := by
  have HN := Aside0.mk hT.cells
  have hsm := hT.small
  have HR := Aside0.mk hl
  have HS := Aside0.mk hs
  have HB := Aside0.mk (Below.refl w.heap.size w)
  have hn := hT.cells
  have hbl := World.block_lt_of_cell? w _ hn
  clear hl hs
  generalize hnn : (s.size : Int) = n at *
  have hn0 : 0 ≤ n := by omega
  go_enter Tryd.func55, Tryd.ntmps55
  go_wp2
  repeat (go_quiet (fail); try go_wp2)
  go_loopg [5, 6, 17] (l.length + 1) (fun kq v5 v6 v17 w' => ∃ (i end_ size : Int), v17 = .int .i64 i ∧ v5 = .int .i64 end_ ∧ v6 = .int .i64 size ∧ Aside0 (0 ≤ i ∧ i ≤ (l.length : Int) ∧ (l.length : Int) - i < kq) ∧ Aside0 (0 ≤ end_ ∧ end_ ≤ n ∧ fit1 n 0 l = fit1 n end_ (l.drop i.toNat) ∧ n - gone l = size - gone (l.drop i.toNat) ∧ size ≤ n ∧ n - end_ ≤ size) ∧ Aside0 (Below w.heap.size w w'))
  case atStart => exact ⟨0, 0, _, rfl, rfl, rfl, ⟨by omega⟩, ⟨by simp; omega⟩, ⟨(by repeat (first | (with_reducible first | exact HB.out | apply below_alloc | apply pw_below_drewN | apply below_drew1) | exact HB.out))⟩⟩
  case round =>
    obtain ⟨i, en, sz, rfl, rfl, rfl, HI, HO, HB⟩ := hrel
    obtain ⟨k1, rfl⟩ : ∃ k1, gk = k1 + 1 := ⟨gk - 1, by have := HI.out; omega⟩
    by_cases c1 : i < (l.length : Int)
    · have c1b := decide_eq_true c1
      obtain ⟨i0, i1, i2⟩ := HI.out
      have hd := drop_cons l i i0 c1
      obtain ⟨ad, ead, hx0, hx1, hx2⟩ := at_T43 HR.out i i0 c1
      subst ead
      replace hx0 := (HB.out.cell (World.block_lt_of_cell? w _ hx0)).trans hx0
      replace hx1 := (HB.out.cell (World.block_lt_of_cell? w _ hx1)).trans hx1
      replace hx2 := (HB.out.cell (World.block_lt_of_cell? w _ hx2)).trans hx2
      have hsz := (HB.out.cell (World.block_lt_of_cell? w _ HN.out)).trans HN.out
      have p1 := eq_true i0
      have q1 := eq_true c1
      generalize rd_T43 l i = x at *
      obtain ⟨x0, x1, x2⟩ := x
      dsimp only at hx0 hx1 hx2
      have hsz2 : (wr.alloc (.cells #[.int .i64 x0, .int .i64 x1, .string x2] 43)).cell? ⟨b, 1, none⟩ = some (.int .i64 n) := pw_cell_below (below_alloc (Below.refl wr.heap.size wr) _) hsz
      have HO2 := HO.out
      rw [hd] at HO2
      simp only [fit1, gone] at HO2
      have HD := Aside0.mk hd
      clear hd
      by_cases d1 : x0 < en
      · have d1b := decide_eq_true d1
        rw [if_pos d1] at HO2
        have e : fitsE n l = 10 := by unfold fitsE; rw [HO2.2.2.1]; rfl
        have E := Aside0.mk e
        clear e HO2
        go_wp2
        repeat (go_quiet (fail); try go_wp2)
        go_ret
        exact ⟨by rw [E.out]; rfl, (by repeat (first | (with_reducible first | exact HB.out | apply below_alloc | apply pw_below_drewN | apply below_drew1) | exact HB.out))⟩
      · have d1b := decide_eq_false d1
        rw [if_neg d1] at HO2
        by_cases d2 : x1 < x0
        · have d2b := decide_eq_true d2
          rw [if_pos d2] at HO2
          have e : fitsE n l = 10 := by unfold fitsE; rw [HO2.2.2.1]; rfl
          have E := Aside0.mk e
          clear e HO2
          go_wp2
          repeat (go_quiet (fail); try go_wp2)
          go_ret
          exact ⟨by rw [E.out]; rfl, (by repeat (first | (with_reducible first | exact HB.out | apply below_alloc | apply pw_below_drewN | apply below_drew1) | exact HB.out))⟩
        · have d2b := decide_eq_false d2
          rw [if_neg d2] at HO2
          by_cases d3 : x1 > n
          · have d3b := decide_eq_true d3
            rw [if_pos d3] at HO2
            have e : fitsE n l = 10 := by unfold fitsE; rw [HO2.2.2.1]; rfl
            have E := Aside0.mk e
            clear e HO2
            go_wp2
            repeat (go_quiet (fail); try go_wp2)
            go_ret
            exact ⟨by rw [E.out]; rfl, (by repeat (first | (with_reducible first | exact HB.out | apply below_alloc | apply pw_below_drewN | apply below_drew1) | exact HB.out))⟩
          · have d3b := decide_eq_false d3
            rw [if_neg d3] at HO2
            go_wp2
            repeat (go_quiet (fail); try go_wp2)
            go_roundg k1
            case measure => omega
            case rel => exact ⟨i + 1, x1, sz - (x1 - x0), by first | rfl | (congr 1; unfold wrap64; omega), rfl, by first | rfl | (congr 1; unfold wrap64; omega), ⟨by omega⟩, ⟨⟨by omega, by omega, HO2.2.2.1, by omega, by omega, by omega⟩⟩, ⟨(by repeat (first | (with_reducible first | exact HB.out | apply below_alloc | apply pw_below_drewN | apply below_drew1) | exact HB.out))⟩⟩
    · have c1b := decide_eq_false c1
      have HO2 := HO.out
      have hi : i = l.length := by have := HI.out; omega
      rw [hi, Int.toNat_natCast, List.drop_length] at HO2
      simp only [fit1, gone] at HO2
      have hf1 : fitsE n l = if fit2 (n - gone l) l then 0 else 11 := by unfold fitsE; rw [HO2.2.2.1, if_pos rfl]
      have hg : n - gone l = sz := by omega
      rw [hg] at hf1
      have HF1 := Aside0.mk hf1
      have HZ := Aside0.mk (show 0 ≤ sz ∧ sz ≤ 16384 by omega)
      clear HO2 hf1 hg hi HO HI c1
      go_wp2
      go_loopg [6, 53] (l.length + 1) (fun kq v6 v53 w' => ∃ (i size : Int), v53 = .int .i64 i ∧ v6 = .int .i64 size ∧ Aside0 (0 ≤ i ∧ i ≤ (l.length : Int) ∧ (l.length : Int) - i < kq) ∧ Aside0 (0 ≤ size ∧ size ≤ 16384 ∧ fit2 sz l = fit2 size (l.drop i.toNat)) ∧ Aside0 (Below w.heap.size w w'))
      case atStart => exact ⟨0, sz, rfl, rfl, ⟨by omega⟩, ⟨HZ.out.1, HZ.out.2, by simp⟩, ⟨(by repeat (first | (with_reducible first | exact HB.out | apply below_alloc | apply pw_below_drewN | apply below_drew1) | exact HB.out))⟩⟩
      case round =>
        obtain ⟨i, z, rfl, rfl, HI, HO, HB⟩ := hrel
        obtain ⟨k1, rfl⟩ : ∃ k1, gk = k1 + 1 := ⟨gk - 1, by have := HI.out; omega⟩
        by_cases c1 : i < (l.length : Int)
        · have c1b := decide_eq_true c1
          obtain ⟨i0, i1, i2⟩ := HI.out
          have hd := drop_cons l i i0 c1
          obtain ⟨ad, ead, hx0, hx1, hx2⟩ := at_T43 HR.out i i0 c1
          subst ead
          replace hx0 := (HB.out.cell (World.block_lt_of_cell? w _ hx0)).trans hx0
          replace hx1 := (HB.out.cell (World.block_lt_of_cell? w _ hx1)).trans hx1
          replace hx2 := (HB.out.cell (World.block_lt_of_cell? w _ hx2)).trans hx2
          have p1 := eq_true i0
          have q1 := eq_true c1
          have hmem : rd_T43 l i ∈ l := by
            have : rd_T43 l i ∈ l.drop i.toNat := by rw [hd]; exact List.mem_cons_self
            exact List.mem_of_mem_drop this
          have hxs := HS.out _ hmem
          generalize rd_T43 l i = x at *
          obtain ⟨x0, x1, x2⟩ := x
          dsimp only at hx0 hx1 hx2 hxs
          have HO2 := HO.out
          rw [hd] at HO2
          simp only [fit2] at HO2
          have HD := Aside0.mk hd
          have hw1 : wrap64 (z + (x2.size : Int)) = z + (x2.size : Int) := by unfold wrap64; omega
          have HW1 := Aside0.mk hw1
          clear hd hw1 hmem
          by_cases d1 : z + (x2.size : Int) > 16384
          · have d1b : decide (wrap64 (z + (x2.size : Int)) > 16384) = true := by rw [HW1.out]; exact decide_eq_true d1
            rw [if_pos d1] at HO2
            have e : fitsE n l = 11 := by rw [HF1.out, HO2.2.2]; rfl
            have E := Aside0.mk e
            clear e HO2
            go_wp2
            repeat (go_quiet (fail); try go_wp2)
            go_ret
            exact ⟨by rw [E.out]; rfl, (by repeat (first | (with_reducible first | exact HB.out | apply below_alloc | apply pw_below_drewN | apply below_drew1) | exact HB.out))⟩
          · have d1b : decide (wrap64 (z + (x2.size : Int)) > 16384) = false := by rw [HW1.out]; exact decide_eq_false d1
            rw [if_neg d1] at HO2
            go_wp2
            repeat (go_quiet (fail); try go_wp2)
            go_roundg k1
            case measure => omega
            case rel => exact ⟨i + 1, z + (x2.size : Int), by first | rfl | (congr 1; unfold wrap64; omega), by first | rfl | (congr 1; exact HW1.out), ⟨by omega⟩, ⟨⟨by omega, by omega, HO2.2.2⟩⟩, ⟨(by repeat (first | (with_reducible first | exact HB.out | apply below_alloc | apply pw_below_drewN | apply below_drew1) | exact HB.out))⟩⟩
        · have c1b := decide_eq_false c1
          have HO2 := HO.out
          have hi : i = l.length := by have := HI.out; omega
          rw [hi, Int.toNat_natCast, List.drop_length] at HO2
          have e : fitsE n l = 0 := by rw [HF1.out, HO2.2.2]; rfl
          have E := Aside0.mk e
          clear e HO2 hi
          go_wp2
          repeat (go_quiet (fail); try go_wp2)
          go_ret
          exact ⟨by rw [E.out]; rfl, (by repeat (first | (with_reducible first | exact HB.out | apply below_alloc | apply pw_below_drewN | apply below_drew1) | exact HB.out))⟩
end Go.Proofs.YtcbimnmpdpkefaaDoorTB
