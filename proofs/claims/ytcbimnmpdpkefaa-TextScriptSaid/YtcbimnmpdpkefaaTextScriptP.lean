/- TextScript, in plain words; two pairs at once. -/
import Derived.Test.YtcbimnmpdpkefaaTextAsks
import Derived.Test.YtcbimnmpdpkefaaTextSingly
import Derived.Test.YtcbimnmpdpkefaaAx4
import Derived.Test.YtcbimnmpdpkefaaAx5
import Derived.Test.YtcbimnmpdpkefaaAx6
set_option linter.unusedVariables false
set_option linter.unusedSimpArgs false
namespace Go.Proofs.YtcbimnmpdpkefaaTB
open Go.RowKit Go.Proofs.YtcbimnmpdpkefaaW.PrintWords Go.Proofs.YtcbimnmpdpkefaaW.PrintLast Go.Proofs.YtcbimnmpdpkefaaW.PrintMore Go.Proofs.Ytcbimnmpdpkefaa.A

abbrev Sp := S49
abbrev kSp := k49
def mark1 : Ed := ⟨0, 0, ⟨#[109, 97, 114, 107]⟩⟩
def mark2 : Ed := ⟨0, 0, ⟨#[98, 101, 104, 105, 110, 100]⟩⟩
theorem edits_u (l : List Ed) (hl : l.length ≤ 4398046511104) : ∀ (d k : Nat) (z i : Int), 0 ≤ i → i + d = l.length → d < k → (l.length : Int) ≤ z → z ≤ 8796093022208 → ∃ r, scholiastlaw01_edits.l0 k l z i = some r ∧ (l.length : Int) ≤ r ∧ r ≤ 8796093022208
  | 0, k, z, i, h0, h1, h2, h3, h4 => by
    obtain ⟨k, rfl⟩ : ∃ m, k = m + 1 := ⟨k - 1, by omega⟩
    exact ⟨z, by simp only [scholiastlaw01_edits.l0]; rw [if_neg (by omega)], h3, h4⟩
  | d + 1, k, z, i, h0, h1, h2, h3, h4 => by
    obtain ⟨k, rfl⟩ : ∃ m, k = m + 1 := ⟨k - 1, by omega⟩
    simp only [scholiastlaw01_edits.l0]
    rw [if_pos (by omega)]
    by_cases c : z ≤ 1073741824
    · rw [if_pos c, if_pos h0]
      have hm : 0 ≤ mn (((rd_T34 l i).f2).size : Int) 1073741824 ∧ mn (((rd_T34 l i).f2).size : Int) 1073741824 ≤ 1073741824 := by unfold mn; omega
      rw [show wrap64 (z + mn (((rd_T34 l i).f2).size : Int) 1073741824) = z + mn (((rd_T34 l i).f2).size : Int) 1073741824 by unfold wrap64; omega, show wrap64 (i + 1) = i + 1 by unfold wrap64; omega]
      exact edits_u l hl d k _ (i + 1) (by omega) (by omega) (by omega) (by omega) (by omega)
    · rw [if_neg c]
      exact ⟨z, rfl, h3, h4⟩
theorem drop_consS (l : List Sp) (i : Int) (h0 : 0 ≤ i) (h1 : i < (l.length : Int)) : l.drop i.toNat = rd_T49 l i :: l.drop (i + 1).toNat := by
  have hl : i.toNat < l.length := by omega
  rw [List.drop_eq_getElem_cons hl, show (i + 1).toNat = i.toNat + 1 by omega]
  unfold rd_T49
  rw [List.getD_eq_getElem?_getD, List.getElem?_eq_getElem hl]
  rfl
theorem beyond_l (l : List Sp) (K : Nat) (hK : ∀ x ∈ l, x.f3.length < K ∧ x.f3.length ≤ 4398046511104) (hlen : l.length ≤ 4398046511104) : ∀ (d k : Nat) (z i : Int), 0 ≤ i → i + d = l.length → d + K < k → 0 ≤ z → z ≤ 17592186044416 →
    ∃ r, scholiastlaw01_beyond.l0 k l z i = some r ∧ (r = false → ∀ x ∈ l.drop i.toNat, x.f3.length ≤ 16777216)
  | 0, k, z, i, h0, h1, h2, h3, h4 => by
    obtain ⟨k, rfl⟩ : ∃ m, k = m + 1 := ⟨k - 1, by omega⟩
    refine ⟨_, by simp only [scholiastlaw01_beyond.l0]; rw [if_neg (by omega)], fun _ x hx => ?_⟩
    rw [List.drop_eq_nil_of_le (by omega)] at hx
    cases hx
  | d + 1, k, z, i, h0, h1, h2, h3, h4 => by
    obtain ⟨k, rfl⟩ : ∃ m, k = m + 1 := ⟨k - 1, by omega⟩
    have hd := drop_consS l i h0 (by omega)
    have hmem : rd_T49 l i ∈ l := List.mem_of_mem_drop (i := i.toNat) (by rw [hd]; exact List.mem_cons_self)
    simp only [scholiastlaw01_beyond.l0]
    rw [if_pos (by omega)]
    by_cases c : z ≤ 16777216
    · rw [if_pos c, if_pos h0]
      obtain ⟨k1, k2⟩ := hK _ hmem
      obtain ⟨r, hr, hr1, hr2⟩ := edits_u (rd_T49 l i).f3 k2 (rd_T49 l i).f3.length k _ 0 (by omega) (by omega) (by omega) (Int.le_refl _) (by omega)
      have he : scholiastlaw01_edits.f k (rd_T49 l i).f3 = some r := hr
      rw [he]
      simp only [Option.bind_some]
      rw [show wrap64 (z + r) = z + r by unfold wrap64; omega, show wrap64 (i + 1) = i + 1 by unfold wrap64; omega]
      obtain ⟨q, hq, hq2⟩ := beyond_l l K hK hlen d k (z + r) (i + 1) (by omega) (by omega) (by omega) (by omega) (by omega)
      refine ⟨q, hq, fun e x hx => ?_⟩
      rw [hd] at hx
      rcases List.mem_cons.1 hx with rfl | hx
      · -- what is counted here is within the bound: else the next round stops with 'true'
        rcases Nat.lt_or_ge 16777216 (rd_T49 l i).f3.length with hbig | hsm
        · exfalso
          obtain ⟨k', rfl⟩ : ∃ m, k = m + 1 := ⟨k - 1, by omega⟩
          simp only [scholiastlaw01_beyond.l0] at hq
          have : decide (z + r > 16777216) = true := decide_eq_true (by omega)
          rw [this, e] at hq
          split at hq
          · rw [if_neg (by omega)] at hq
            cases hq
          · cases hq
        · exact hsm
      · exact hq2 e x hx
    · rw [if_neg c]
      refine ⟨true, by rw [decide_eq_true (by omega : z > 16777216)], fun e => by cases e⟩
theorem le_sum (K : Nat) : ∀ (l : List Sp), ∃ M, ∀ x ∈ l, x.f3.length < M
  | [] => ⟨0, fun x h => by cases h⟩
  | y :: l => by
    obtain ⟨M, hM⟩ := le_sum K l
    refine ⟨M + y.f3.length + 1, fun x hx => ?_⟩
    rcases List.mem_cons.1 hx with rfl | hx
    · omega
    · have := hM x hx; omega
theorem beyond_some (s : ByteArray) (l : List Sp) (hlen : l.length ≤ 4398046511104) (hl : ∀ x ∈ l, x.f3.length ≤ 4398046511104) : ∃ k r, scholiastlaw01_beyond.f k s l = some r ∧ (r = false → ∀ x ∈ l, x.f3.length ≤ 16777216) := by
  obtain ⟨K, hK⟩ := le_sum 0 l
  have hm : 0 ≤ mn (s.size : Int) 1073741824 ∧ mn (s.size : Int) 1073741824 ≤ 1073741824 := by unfold mn; omega
  obtain ⟨r, hr, hr2⟩ := beyond_l l K (fun x hx => ⟨hK x hx, hl x hx⟩) hlen l.length (l.length + K + 1) (wrap64 (mn (s.size : Int) 1073741824 + (l.length : Int))) 0 (by omega) (by omega) (by omega) (by unfold wrap64; omega) (by unfold wrap64; omega)
  exact ⟨_, r, hr, fun e x hx => hr2 e x (by simpa using hx)⟩
theorem still_l1 : ∀ (d k : Nat) (x0 : List Ed) (b : Bool) (i : Int), 0 ≤ i → i + d = x0.length → d < k → x0.length ≤ 4398046511110 → ∃ r, scholiastlaw01_still.l1 k x0 b i = some (b, r)
  | 0, k, x0, b, i, h0, h1, h2, h3 => by
    obtain ⟨k, rfl⟩ : ∃ m, k = m + 1 := ⟨k - 1, by omega⟩
    exact ⟨x0, by simp only [scholiastlaw01_still.l1]; rw [if_neg (by omega)]⟩
  | d + 1, k, x0, b, i, h0, h1, h2, h3 => by
    obtain ⟨k, rfl⟩ : ∃ m, k = m + 1 := ⟨k - 1, by omega⟩
    simp only [scholiastlaw01_still.l1]
    rw [if_pos (by omega), if_pos h0, show wrap64 (i + 1) = i + 1 by unfold wrap64; omega]
    exact still_l1 d k _ b (i + 1) (by omega) (by simp; omega) (by omega) (by simpa using h3)
theorem rd_ap (l m : List Ed) (i : Int) (h0 : 0 ≤ i) (h1 : i < l.length) : rd_T34 (l ++ m) i = rd_T34 l i := by
  unfold rd_T34
  rw [List.getD_eq_getElem?_getD, List.getD_eq_getElem?_getD, List.getElem?_append_left (by omega)]
theorem still_l0 (l : List Ed) (hl : l.length ≤ 4398046511104) : ∀ (d k : Nat) (i : Int), 0 ≤ i → i + d = l.length → d + l.length + 5 < k → ∃ r, scholiastlaw01_still.l0 k (l ++ [mark1, mark2]) l l.length true i = some (true, r)
  | 0, k, i, h0, h1, h2 => by
    obtain ⟨k, rfl⟩ : ∃ m, k = m + 1 := ⟨k - 1, by omega⟩
    simp only [scholiastlaw01_still.l0]
    rw [if_neg (by omega)]
    exact still_l1 (l.length + 2) k _ true 0 (by omega) (by simp) (by omega) (by simp; omega)
  | d + 1, k, i, h0, h1, h2 => by
    obtain ⟨k, rfl⟩ : ∃ m, k = m + 1 := ⟨k - 1, by omega⟩
    simp only [scholiastlaw01_still.l0]
    rw [if_pos (by omega)]
    simp only [if_true]
    rw [if_pos h0, if_pos (by simp; omega), if_pos (by omega), rd_ap l _ i h0 (by omega), show wrap64 (i + 1) = i + 1 by unfold wrap64; omega]
    simp only [beq_self_eq_true, Bool.and_self]
    exact still_l0 l hl d k (i + 1) (by omega) (by omega) (by omega)
theorem still_some (l : List Ed) (hl : l.length ≤ 4398046511104) : ∃ k r, scholiastlaw01_still.f k (l ++ [mark1, mark2]) l = some (true, r) := by
  have r1 : rd_T34 (l ++ [mark1, mark2]) (l.length : Int) = mark1 := by
    unfold rd_T34
    rw [List.getD_eq_getElem?_getD, Int.toNat_natCast, List.getElem?_append_right (Nat.le_refl _), Nat.sub_self]; rfl
  have r2 : rd_T34 (l ++ [mark1, mark2]) ((l.length : Int) + 1) = mark2 := by
    unfold rd_T34
    rw [List.getD_eq_getElem?_getD, show ((l.length : Int) + 1).toNat = l.length + 1 by omega, List.getElem?_append_right (by omega), show l.length + 1 - l.length = 1 by omega]; rfl
  obtain ⟨r, hr⟩ := still_l0 l hl l.length (l.length + l.length + 6) 0 (by omega) (by omega) (by omega)
  refine ⟨l.length + l.length + 7, r, ?_⟩
  unfold scholiastlaw01_still.f
  have m1 : mark1.f2.toList = ([109, 97, 114, 107] : List UInt8) := by decide +kernel
  have m2 : mark2.f2.toList = ([98, 101, 104, 105, 110, 100] : List UInt8) := by decide +kernel
  rw [show wrap64 ((l.length : Int) + 1) = (l.length : Int) + 1 by unfold wrap64; omega, r1, r2, if_pos (by omega), if_pos (by simp; omega), if_pos m1, if_pos (by omega), if_pos (by simp), m2]
  simp only [scholiastlaw01_still.j0]
  rw [beq_self_eq_true]
  exact hr
theorem lent_some (l : List Ed) (hl : l.length ≤ 16777216) : scholiastlaw01_lent.f l = some (l ++ [mark1, mark2]) := by
  unfold scholiastlaw01_lent.f
  simp only [Option.bind_some, List.nil_append, List.length_nil, Nat.zero_add]
  rw [if_pos (by omega), if_pos (by simp; omega)]
  rfl
/-- The head of a row. -/
theorem C_head {α : Type} {d : Kd α} {w : World} {A : Option Addr} {l m : List α} (h : d.C w A (l ++ m).length (l ++ m)) : d.C w A l.length l := by
  obtain ⟨_, h2, h3⟩ := h
  refine ⟨rfl, by rw [List.length_append] at h2; omega, fun h0 => ?_⟩
  obtain ⟨ad, e, hc⟩ := h3 (by rw [List.length_append]; omega)
  exact ⟨ad, e, fun j p hj => hc j p (by rw [List.getElem?_append_left (List.getElem?_eq_some_iff.1 hj).1]; exact hj)⟩

/-- The pair in use and the one that was left: the same one, or apart; both within G. -/
def St (W : World) (G : Nat → Prop) (bp gp bl gl : Nat) (s : ByteArray) : Prop :=
  ∃ Fp, PB W Fp bp gp s ∧ (∀ k, Gp Fp gp k → G k) ∧ ((bl = bp ∧ gl = gp) ∨ ∃ Fl sl, PB W Fl bl gl sl ∧ (∀ k, Gp Fl gl k → G k) ∧ ∀ k, Gp Fl gl k → ¬ Gp Fp gp k)
theorem St.mono {W : World} {G G' : Nat → Prop} {bp gp bl gl : Nat} {s : ByteArray} (h : St W G bp gp bl gl s) (hG : ∀ k, k < W.heap.size → G k → G' k) : St W G' bp gp bl gl s := by
  obtain ⟨Fp, hP, h1, h2⟩ := h
  refine ⟨Fp, hP, fun k hk => hG k (hP.lt k hk) (h1 k hk), ?_⟩
  rcases h2 with h2 | ⟨Fl, sl, hL, h3, h4⟩
  · exact .inl h2
  · exact .inr ⟨Fl, sl, hL, fun k hk => hG k (hL.lt k hk) (h3 k hk), h4⟩
theorem St.below {W W1 : World} {G : Nat → Prop} {bp gp bl gl : Nat} {s : ByteArray} (h : St W G bp gp bl gl s) (hb : Below W.heap.size W W1) : St W1 G bp gp bl gl s := by
  obtain ⟨Fp, hP, h1, h2⟩ := h
  refine ⟨Fp, hP.below hb, h1, ?_⟩
  rcases h2 with h2 | ⟨Fl, sl, hL, h3, h4⟩
  · exact .inl h2
  · exact .inr ⟨Fl, sl, hL.below hb, h3, h4⟩
/-- A store into a block that is not of G. -/
theorem St.put {W W1 : World} {G : Nat → Prop} {bp gp bl gl : Nat} {s : ByteArray} (h : St W G bp gp bl gl s) (hs : W.heap.size ≤ W1.heap.size) (hb : ∀ k, k < W.heap.size → G k → W1.heap[k]? = W.heap[k]?) : St W1 G bp gp bl gl s := by
  obtain ⟨Fp, hP, h1, h2⟩ := h
  refine ⟨Fp, hP.move hs (fun k hk => hb k (hP.lt k hk) (h1 k hk)), h1, ?_⟩
  rcases h2 with h2 | ⟨Fl, sl, hL, h3, h4⟩
  · exact .inl h2
  · exact .inr ⟨Fl, sl, hL.move hs (fun k hk => hb k (hL.lt k hk) (h3 k hk)), h3, h4⟩
theorem St.p {W : World} {G : Nat → Prop} {bp gp bl gl : Nat} {s : ByteArray} (h : St W G bp gp bl gl s) (hnew : ∀ k, W.heap.size ≤ k → G k) :
    ∃ Fp, PB W Fp bp gp s ∧ (∀ k, Gp Fp gp k → G k) ∧ ∀ W1 Fp1 s1, PB W1 Fp1 bp gp s1 → Mv W W1 (Gp Fp gp) (Gp Fp1 gp) → St W1 G bp gp bl gl s1 ∧ Mv W W1 G G := by
  obtain ⟨Fp, hP, h1, h2⟩ := h
  refine ⟨Fp, hP, h1, fun W1 Fp1 s1 hP1 hM => ⟨⟨Fp1, hP1, fun k hk => ?_, ?_⟩, ⟨hM.os, hM.tape, hM.output, hM.size, fun k hk hn => hM.block k hk (fun h => hn (h1 k h)), fun _ h => .inl h⟩⟩⟩
  · rcases hM.foot k hk with h3 | h3
    · exact h1 k h3
    · exact hnew k h3
  · rcases h2 with h2 | ⟨Fl, sl, hL, h3, h4⟩
    · exact .inl h2
    · exact .inr ⟨Fl, sl, hL.other hM h4, h3, fun k hk => hM.notin (hL.lt k hk) (h4 k hk)⟩
theorem St.l {W : World} {G : Nat → Prop} {bp gp bl gl : Nat} {s : ByteArray} (h : St W G bp gp bl gl s) (hnew : ∀ k, W.heap.size ≤ k → G k) :
    ∃ Fl sl, PB W Fl bl gl sl ∧ (∀ k, Gp Fl gl k → G k) ∧ ∀ W1 Fl1, PB W1 Fl1 bl gl sl → Mv W W1 (Gp Fl gl) (Gp Fl1 gl) → St W1 G bp gp bl gl s ∧ Mv W W1 G G := by
  have h0 := h
  obtain ⟨Fp, hP, h1, h2⟩ := h
  rcases h2 with ⟨rfl, rfl⟩ | ⟨Fl, sl, hL, h3, h4⟩
  · obtain ⟨Fp, hP, h1, h2⟩ := h0.p hnew
    exact ⟨Fp, s, hP, h1, fun W1 Fl1 hP1 hM => h2 W1 Fl1 s hP1 hM⟩
  · refine ⟨Fl, sl, hL, h3, fun W1 Fl1 hL1 hM => ⟨⟨Fp, hP.other hM (fun k hk hl => h4 k hl hk), h1, .inr ⟨Fl1, sl, hL1, fun k hk => ?_, fun k hk hp => ?_⟩⟩, ⟨hM.os, hM.tape, hM.output, hM.size, fun k hk hn => hM.block k hk (fun h => hn (h3 k h)), fun _ h => .inl h⟩⟩⟩
    · rcases hM.foot k hk with h5 | h5
      · exact h3 k h5
      · exact hnew k h5
    · rcases hM.foot k hk with h5 | h5
      · exact h4 k h5 hp
      · have := hP.lt k hp; omega
end Go.Proofs.YtcbimnmpdpkefaaTB
