/- text.Buffer: its text, and the pieces of a part. -/
import Derived.Test.YtcbimnmpdpkefaaDoorTextBufC
set_option linter.unusedVariables false
set_option linter.unusedSimpArgs false
namespace Go.Proofs.YtcbimnmpdpkefaaDoorTB
open Go.RowKit Go.Proofs.YtcbimnmpdpkefaaDoorW.PrintWords Go.Proofs.YtcbimnmpdpkefaaDoorW.PrintLast Go.Proofs.YtcbimnmpdpkefaaDoorW.PrintMore
attribute [local go_sem] max2_int min2_int max_two min_two max_three min_three max_four min_four

theorem join_nosep (xs : List (List UInt8)) : Lib.join xs [] = xs.flatten := by
  unfold Lib.join
  induction xs with
  | nil => rfl
  | cons x xs ih =>
    cases xs with
    | nil => simp [List.intercalate]
    | cons y ys => simp [List.intercalate, List.intersperse] at ih ⊢; rw [ih]
/-- strings.Join with nothing between. -/
theorem join (ps : List ByteArray) (v : Value) (base : Nat) (ok : Nat → Prop) (w : World) (hR : Kd.R Kd.string 9 w base ok v ps) (hN : ps.length ≤ 140737488355328) (hlen : (catL ps).length ≤ 140737488355328) :
    Calls Tryd.prog 57 #[v, .string ⟨#[]⟩] w fun e w' => e = .returned (.string (cat ps)) ∧ Below w.heap.size w w' := by
  have ho := Kd.own_of_R hR
  have hj : Lib.join (ps.map (·.data.toList)) (⟨#[]⟩ : ByteArray).data.toList = catL ps := by
    rw [show (⟨#[]⟩ : ByteArray).data.toList = [] from rfl, join_nosep]; rfl
  rcases Nat.eq_zero_or_pos ps.length with h0 | h0
  · obtain rfl := List.eq_nil_of_length_eq_zero h0
    obtain ⟨A, c, rfl⟩ := Kd.R_slice hR
    exact (Tryd.strings_Join_none A c ⟨#[]⟩ w).mono fun e w' ⟨he, hw⟩ => ⟨he, hw ▸ Below.refl _ _⟩
  · obtain ⟨g, cap, rfl, _, hc⟩ := ho.form h0
    have hcap : ps.length ≤ cap := by
      obtain ⟨_, _, e, h, _⟩ := Kd.R_reads hR
      cases e; exact h
    have h := Tryd.strings_Join g 0 cap ps ⟨#[]⟩ w (fun j x hx => by
      have hc := ho.cells (g := g) rfl j (.string x) (by simp [encs, hx])
      rwa [add_plain, ← Nat.zero_add j] at hc) (own_lt ho g rfl) hN hcap (by rw [hj]; exact hlen)
    rw [hj] at h
    exact h

set_option maxHeartbeats 1000000 in
theorem text_ (w : World) (F : Nat → Prop) (b : Nat) (s : ByteArray) (hT : TB w F b s) :
    Calls Tryd.prog 35 #[.pointer (some ⟨b, 0, none⟩)] w fun e w' => e = .returned (.string s) ∧ Below w.heap.size w w' := by
  obtain ⟨hlt, hsm, hFb, q, v, ps, hb, hFq, hi, hr, hc, hn⟩ := hT
  obtain ⟨h0, _, _⟩ := cells3 hb
  have hl : (catL ps).length ≤ 140737488355328 := by rw [← cat_size, hc]; omega
  have hj := join ps v 0 _ w hr (by omega) hl
  rw [hc] at hj
  obtain ⟨A, c, rfl⟩ := Kd.R_slice hr
  go_enter Tryd.func35, Tryd.ntmps35
  go_wp2_with (go_at_call 57; refine hj.mono ?_; rintro e w' ⟨rfl, hB⟩)
  go_ret
  exact ⟨rfl, hB⟩

theorem cut_step (pre p : List UInt8) (lo hi : Nat) : ((pre ++ p).take hi).drop lo = (pre.take hi).drop lo ++ (p.take (hi - pre.length)).drop (lo - pre.length) := by
  rw [List.take_append, List.drop_append, List.length_take]
  congr 1
  by_cases h : pre.length ≤ hi
  · rw [Nat.min_eq_right h]
  · rw [show hi - pre.length = 0 by omega]; simp
theorem bys_extract (p : ByteArray) (lo hi : Nat) : bys (p.extract lo hi) = ((bys p).take hi).drop lo := by
  simp only [bys, ByteArray.data_extract, Array.toList_extract, List.extract_eq_take_drop, List.drop_take]

theorem take_clip (l : List UInt8) (a b : Nat) (h : a = min b l.length) : l.take a = l.take b := by
  subst h
  rcases Nat.le_total b l.length with h | h
  · rw [Nat.min_eq_left h]
  · rw [Nat.min_eq_right h, List.take_length, List.take_of_length_le h]
set_option maxHeartbeats 2000000 in
set_option maxRecDepth 100000 in
/-- The pieces of a part. -/
theorem cut (w : World) (F : Nat → Prop) (b : Nat) (s : ByteArray) (lo hi : Int) (hT : TB w F b s) (l0 : 0 ≤ lo) (l1 : lo ≤ 16384) (g0 : 0 ≤ hi) (g1 : hi ≤ 16384) :
    Calls Tryd.prog 56 #[.pointer (some ⟨b, 0, none⟩), .int .i64 lo, .int .i64 hi] w fun e w' => ∃ v, e = .returned v ∧ ∃ out, Kd.R Kd.string 9 w' w.heap.size (fun _ => True) v out ∧ Below w.heap.size w w' ∧ catL out = ((bys s).take hi.toNat).drop lo.toNat ∧ out.length ≤ 64 ∧ ∀ x ∈ out, 1 ≤ x.size := by
  obtain ⟨hlt, hsm, hFb, q, v, ps, hb, hFq, hix, hr, hc, hn⟩ := hT
  obtain ⟨hp0, _, _⟩ := cells3 hb
  obtain ⟨A, c, rfl⟩ := Kd.R_slice hr
  have hC : Kd.C Kd.string w A ps.length ps := by obtain ⟨_, _, e, _, h⟩ := Kd.R_reads hr; cases e; exact h
  have hcl : (catL ps).length ≤ 16384 := by rw [← cat_size, hc]; omega
  have HC := Aside0.mk hC
  have HCL := Aside0.mk hcl
  have HS := Aside0.mk (show catL ps = bys s by rw [← bys_cat, hc])
  have HB := Aside0.mk (Below.refl w.heap.size w)
  clear hC hcl hr hix hc hb
  go_enter Tryd.func56, Tryd.ntmps56
  go_wp2
  go_loopg [7, 8, 18] (ps.length + 1) (fun kq v7 v8 v18 w' => ∃ (i : Int) (u : Value) (out : List ByteArray), v18 = .int .i64 i ∧ v7 = u ∧ v8 = .int .i64 ((catL (ps.take i.toNat)).length : Int) ∧ Aside0 (0 ≤ i ∧ i ≤ (ps.length : Int) ∧ (ps.length : Int) - i < kq) ∧ Aside0 (catL out = ((catL (ps.take i.toNat)).take hi.toNat).drop lo.toNat ∧ (out.length : Int) ≤ i ∧ ∀ x ∈ out, 1 ≤ x.size) ∧ Aside0 (Kd.R Kd.string 9 w' w.heap.size (fun _ => True) u out) ∧ Aside0 (Below w.heap.size w w'))
  case atStart => exact ⟨0, _, [], rfl, rfl, by simp [catL], ⟨by omega⟩, ⟨by simp [catL]⟩, ⟨Kd.R_nil _ _ _ _ _⟩, HB⟩
  case round =>
    obtain ⟨i, u, out, rfl, rfl, rfl, HI, HO, HR, HB⟩ := hrel
    obtain ⟨k1, rfl⟩ : ∃ k1, gk = k1 + 1 := ⟨gk - 1, by have := HI.out; omega⟩
    by_cases c1 : i < (ps.length : Int)
    · have c1b := decide_eq_true c1
      obtain ⟨i0, i1, i2⟩ := HI.out
      obtain ⟨ad, ead, hx⟩ := at_S HC.out i i0 c1
      subst ead
      replace hx := (HB.out.cell (World.block_lt_of_cell? w _ hx)).trans hx
      have p1 := eq_true i0
      have q1 := eq_true c1
      have htk : catL (ps.take (i + 1).toNat) = catL (ps.take i.toNat) ++ bys (ps.getD i.toNat ⟨#[]⟩) := by
        rw [show (i + 1).toNat = i.toNat + 1 by omega, List.take_add_one, catL_append, List.getD_eq_getElem?_getD, List.getElem?_eq_getElem (by omega)]
        simp [catL]
      have hle : (catL (ps.take (i + 1).toNat)).length ≤ 16384 := by
        have := HCL.out
        have h3 : catL ps = catL (ps.take (i + 1).toNat) ++ catL (ps.drop (i + 1).toNat) := by rw [← catL_append, List.take_append_drop]
        rw [h3, List.length_append] at this; omega
      generalize hpd : ps.getD i.toNat ⟨#[]⟩ = p at hx htk
      have hlen : (catL (ps.take (i + 1).toNat)).length = (catL (ps.take i.toNat)).length + p.size := by rw [htk, List.length_append, bys_length]
      have hcat : ((catL (ps.take (i + 1).toNat)).take hi.toNat).drop lo.toNat = ((catL (ps.take i.toNat)).take hi.toNat).drop lo.toNat ++ ((bys p).take (hi.toNat - (catL (ps.take i.toNat)).length)).drop (lo.toNat - (catL (ps.take i.toNat)).length) := by rw [htk]; exact cut_step _ _ _ _
      obtain ⟨at_, hAt⟩ : ∃ a : Int, a = ((catL (ps.take i.toNat)).length : Int) := ⟨_, rfl⟩
      have hpb : p.size ≤ 16384 ∧ 0 ≤ at_ ∧ at_ + p.size ≤ 16384 := by omega
      obtain ⟨L, hL⟩ : ∃ L : Int, L = if lo - at_ < 0 then 0 else lo - at_ := ⟨_, rfl⟩
      obtain ⟨H, hH⟩ : ∃ H : Int, H = if (p.size : Int) < hi - at_ then (p.size : Int) else hi - at_ := ⟨_, rfl⟩
      have hL' : L = max (lo - at_) 0 := by rw [hL]; split <;> omega
      have hH' : H = min (hi - at_) (p.size : Int) := by rw [hH]; split <;> omega
      have hL2 : (if lo < at_ then 0 else lo - at_) = L := by rw [hL']; split <;> omega
      have hL3 : (if lo - at_ < 0 then 0 else lo - at_) = L := hL.symm
      have hH3 : (if (p.size : Int) < hi - at_ then (p.size : Int) else hi - at_) = H := hH.symm
      have hcat2 : ((catL (ps.take (i + 1).toNat)).take hi.toNat).drop lo.toNat = ((catL (ps.take i.toNat)).take hi.toNat).drop lo.toNat ++ ((bys p).take (hi - at_).toNat).drop (lo - at_).toNat := by
        rw [hcat, hAt]
        congr 2
        · omega
        · congr 1; omega
      have HCat := Aside0.mk hcat2
      have HTk := Aside0.mk hlen
      rw [← hAt]
      have HAt := Aside0.mk hAt
      have HLH := Aside0.mk (And.intro hL' hH')
      have HO2 := HO.out
      clear htk hcat hcat2 hlen hle hpd hAt hL hH hL' hH'
      by_cases c2 : L < H
      · have c2b := decide_eq_true c2
        have hlo : 0 ≤ L ∧ L ≤ H ∧ H ≤ (p.size : Int) := by have := HLH.out; omega
        obtain ⟨s0, s1, s2⟩ := hlo
        go_wp2_with (first | ((with_reducible refine gate_builtin (b := .append) (xs := #[.tmp 35, .tmp 40]) rfl ?_); at_builtin; refine Kd.R_append Kd.string (w0 := w) w.heap.size rfl (.tmp 35) (.tmp 40) 70 9 (.string ⟨#[]⟩) 16 rfl Tryd.underlying70 infoS rfl (by decide) (by omega) u7 out (p.extract L.toNat H.toNat) [.string (p.extract L.toNat H.toNat)] (fun _ => True) (fun _ => False) rfl (by first | (go_simp; done) | (go_simp; rfl)) rfl (fun _ hk => hk.elim) (fun _ _ => trivial) ?aO ?aB ?aS ?aL ?_; (case aB => exact (by repeat (first | (with_reducible first | exact HB.out | apply below_alloc | apply pw_below_drewN | apply below_drew1) | exact HB.out))); (case aO => exact HR.out); (case aS => exact (below_size (by repeat (first | (with_reducible first | exact HB.out | apply below_alloc | apply pw_below_drewN | apply below_drew1) | exact HB.out)))); (case aL => have h_ := HO2.2.1; have h2_ := HC.out.2.1; omega); intro v1 w1 ho hb hg hat; have n0_ := Aside0.mk hb; have n1_ := Aside0.mk ho; clear HR; clear HB; have HB := n0_; have HR := n1_; clear n0_ n1_; clear ho hb hg hat))
        go_roundg k1
        case measure => omega
        case rel => exact ⟨i + 1, _, out ++ [(p.extract L.toNat H.toNat)], by first | rfl | (congr 1; unfold wrap64; omega), rfl, by have h_ := HTk.out; have h2_ := HAt.out; first | (congr 1; omega) | (congr 1; unfold wrap64; omega), ⟨by omega⟩, ⟨by rw [catL_append, HO2.1, HCat.out]; congr 1; rw [catL_cons, catL_nil, List.append_nil, bys_extract]; have hlh := HLH.out; rw [show L.toNat = (lo - at_).toNat by omega]; congr 1; exact take_clip (bys p) H.toNat (hi - at_).toNat (by rw [bys_length]; omega), by rw [List.length_append, List.length_singleton]; have := HO2.2.1; omega, fun x hx => by rcases List.mem_append.1 hx with hx | hx; exact HO2.2.2 x hx; rw [List.mem_singleton.1 hx, ByteArray.size_extract]; omega⟩, HR, HB⟩
      · have c2b := decide_eq_false c2
        go_wp2
        go_roundg k1
        case measure => omega
        case rel => exact ⟨i + 1, _, out, by first | rfl | (congr 1; unfold wrap64; omega), rfl, by have h_ := HTk.out; have h2_ := HAt.out; first | (congr 1; omega) | (congr 1; unfold wrap64; omega), ⟨by omega⟩, ⟨by rw [HO2.1, HCat.out]; have hlh := HLH.out; rw [show ((bys p).take (hi - at_).toNat).drop (lo - at_).toNat = [] from List.drop_eq_nil_of_le (by rw [List.length_take, bys_length]; omega), List.append_nil], by have := HO2.2.1; omega, HO2.2.2⟩, HR, HB⟩
    · have c1b := decide_eq_false c1
      obtain ⟨i0, i1, i2⟩ := HI.out
      obtain rfl : i = ps.length := by omega
      go_wp2
      go_ret
      have ho := HO.out
      rw [Int.toNat_natCast, List.take_length, HS.out] at ho
      exact ⟨_, rfl, out, HR.out, HB.out, ho.1, by have := ho.2.1; omega, ho.2.2⟩
end Go.Proofs.YtcbimnmpdpkefaaDoorTB
