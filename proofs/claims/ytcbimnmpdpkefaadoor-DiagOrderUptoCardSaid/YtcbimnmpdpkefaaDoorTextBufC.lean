/- text.Buffer: what is asked of it by lines. -/
import Derived.Test.YtcbimnmpdpkefaaDoorTextBufB
import Derived.Test.YtcbimnmpdpkefaaDoorShelf
import Derived.BigQuiet
import Derived.Deep.QuietTactic
set_option linter.unusedVariables false
set_option linter.unusedSimpArgs false
namespace Go.Proofs.YtcbimnmpdpkefaaDoorTB
open Go.RowKit Go.Proofs.YtcbimnmpdpkefaaDoorW.PrintWords Go.Proofs.YtcbimnmpdpkefaaDoorW.PrintLast Go.Proofs.YtcbimnmpdpkefaaDoorW.PrintMore

theorem at_I {w : World} {A : Option Addr} {n : Nat} {xs : List Int} (h : Kd.C (Kd.int .i64) w A n xs) (i : Int) (h0 : 0 ≤ i) (h1 : i < n) : ∃ ad, A = some ad ∧ w.cell? (ad.add i.toNat) = some (.int .i64 (rd xs i)) := by
  obtain ⟨ad, c, e, _, hK, hc0⟩ := Kd.C_get h 0 i h0 h1
  have hK' : c = [.int .i64 (xs.getD i.toNat 0)] := hK
  subst hK'
  exact ⟨ad, e, by have := hc0 0 _ rfl; rwa [show (Kd.int .i64).sz = 1 from rfl, Nat.mul_one, Nat.add_zero] at this⟩
theorem TB.cells {w : World} {F : Nat → Prop} {b : Nat} {s : ByteArray} (h : TB w F b s) : w.cell? ⟨b, 1, none⟩ = some (.int .i64 (s.size : Int)) := by
  obtain ⟨_, _, _, q, v, ps, hb, _⟩ := h
  exact (cells3 hb).2.1

/-- The place of a byte. -/
def plc (s : ByteArray) (p : Int) : Int × Int × Int := if p < 0 ∨ p > (s.size : Int) then (0, 0, 10) else (lineOf s p, p - rd (st s) (lineOf s p), 0)

theorem search (xs : List Int) (v : Value) (ok : Nat → Prop) (x : Int) (w : World) (hR : Kd.R (Kd.int .i64) 3 w 0 ok v xs) (hn : 0 < xs.length) (hlen : xs.length ≤ 1000000) (hp : xs.Pairwise (· < ·)) :
    Calls Tryd.prog 66 #[v, .int .i64 x] w fun e w' => e = .returned (.int .i64 (xs.countP (fun y => !decide (x ≤ y)) : Nat)) ∧ Below w.heap.size w w' := by
  have ho := Kd.own_of_R hR
  obtain ⟨g, cap, rfl, _, _⟩ := ho.form hn
  have h := Any.sort_SearchInts Tryd.searchInts g 0 cap xs.toArray x w (fun i hi => by
    have hi' : i < xs.length := by simpa using hi
    have hc := ho.cells (g := g) rfl i (.int .i64 xs[i]) (by simp [encs, List.getElem?_eq_getElem hi'])
    rw [add_plain] at hc
    rw [Nat.zero_add, hc, getElem!_pos xs.toArray i hi]
    simp) (own_lt ho g rfl) (by simp; omega) (fun a b hab hb h1 => by
    have hb' : b < xs.length := by simpa using hb
    have ha' : a < xs.length := by omega
    rw [getElem!_pos xs.toArray a (by simpa using ha')] at h1
    rw [getElem!_pos xs.toArray b (by simpa using hb')]
    simp only [List.getElem_toArray, decide_eq_true_eq] at h1 ⊢
    rcases Nat.eq_or_lt_of_le hab with rfl | hlt
    · exact h1
    · have := List.pairwise_iff_getElem.1 hp a b ha' hb' hlt
      omega)
  simp only [List.toList_toArray] at h
  exact h

set_option maxHeartbeats 2000000 in
set_option maxRecDepth 100000 in
theorem place (w : World) (F : Nat → Prop) (b : Nat) (s : ByteArray) (p : Int) (hT : TB w F b s) (hp : -9223372036854775808 ≤ p ∧ p ≤ 9223372036854775807) :
    Calls Tryd.prog 51 #[.pointer (some ⟨b, 0, none⟩), .int .i64 p] w fun e w' => ∃ F1, e = .returned (.tuple #[.int .i64 (plc s p).1, .int .i64 (plc s p).2.1, .int .i64 (plc s p).2.2]) ∧ TB w' F1 b s ∧ Moved w w' F F1 := by
  have hc := hT.cells
  have hsm := Aside0.mk hT.small
  by_cases c1 : p < 0
  · have e : plc s p = (0, 0, 10) := by unfold plc; rw [if_pos (.inl c1)]
    rw [e]
    have c1b := decide_eq_true c1
    go_enter Tryd.func51, Tryd.ntmps51
    go_wp2
    go_ret3
    first | exact ⟨F, rfl, hT, ⟨⟨none, (fun k hk => nomatch hk), World.grownBy.refl w none⟩, fun k hk => .inl hk⟩⟩ | exact ⟨rfl, F, hT, ⟨⟨none, (fun k hk => nomatch hk), World.grownBy.refl w none⟩, fun k hk => .inl hk⟩⟩
  · by_cases c2 : p > (s.size : Int)
    · have e : plc s p = (0, 0, 10) := by unfold plc; rw [if_pos (.inr c2)]
      rw [e]
      have c1b := decide_eq_false c1
      have c2b := decide_eq_true c2
      go_enter Tryd.func51, Tryd.ntmps51
      go_wp2
      go_ret3
      first | exact ⟨F, rfl, hT, ⟨⟨none, (fun k hk => nomatch hk), World.grownBy.refl w none⟩, fun k hk => .inl hk⟩⟩ | exact ⟨rfl, F, hT, ⟨⟨none, (fun k hk => nomatch hk), World.grownBy.refl w none⟩, fun k hk => .inl hk⟩⟩
    · have e : plc s p = (lineOf s p, p - rd (st s) (lineOf s p), 0) := by unfold plc; rw [if_neg (by omega)]
      rw [e]
      have c1b := decide_eq_false c1
      have c2b := decide_eq_false c2
      have hsz := hT.small
      have hlen := st_length s
      obtain ⟨l0, l1⟩ := lineOf_range s p (by omega)
      have hln : lineOf s p = ((st s).countP (fun y => !decide (p + 1 ≤ y)) : Nat) - 1 := rfl
      have hst := starts w F b s hT
      have hse := fun v w1 (hR1 : Kd.R (Kd.int .i64) 3 w1 0 (fun _ => True) v (st s)) => search (st s) v (fun _ => True) (p + 1) w1 hR1 (by omega) (by omega) (st_lt s)
      generalize (st s).countP (fun y => !decide (p + 1 ≤ y)) = cnt at hln hse
      rw [hln] at l0 l1 ⊢
      have HS := Aside0.mk hst
      have HE := Aside0.mk hse
      clear hst hse e hln
      go_enter Tryd.func51, Tryd.ntmps51
      go_wp2_with (first
        | (go_at_call 65; refine HS.out.mono ?_; rintro e w1 ⟨v, F1, rfl, hR1, hT1, hM1⟩; have HR1 := Aside0.mk (Kd.R_mono hR1 (fun _ _ => trivial)); have HT1 := Aside0.mk hT1; have HM1 := Aside0.mk hM1; clear hR1 hT1 hM1; obtain ⟨A1, n1, rfl⟩ := Kd.R_slice HR1.out)
        | (go_at_call 66; refine (HE.out _ w1 HR1.out).mono ?_; rintro e w2 ⟨rfl, hB2⟩; have HB2 := Aside0.mk hB2; clear hB2))
      obtain ⟨ad, ead, hx⟩ := at_I (Kd.C_below (by obtain ⟨_, _, e_, _, h_⟩ := Kd.R_reads HR1.out; cases e_; exact h_) HB2.out) ((cnt : Int) - 1) l0 l1
      subst ead
      have hm0 : (0 : Int) ≤ (cnt : Int) - 1 := l0
      have hm1 : (cnt : Int) - 1 < ((st s).length : Int) := l1
      have hm2 : (1 : Int) ≤ (cnt : Int) := by omega
      have hm3 : 1 ≤ cnt := by omega
      have hmr := st_mem s (rd (st s) ((cnt : Int) - 1)) (by
        unfold rd
        rw [List.getD_eq_getElem?_getD, List.getElem?_eq_getElem (by omega)]
        exact List.getElem_mem _)
      have hwr : IntKind.i64.wrap (p - rd (st s) ((cnt : Int) - 1)) = p - rd (st s) ((cnt : Int) - 1) := IntWalk.i64_in _ ⟨by omega, by omega⟩
      generalize hx0e : rd (st s) ((cnt : Int) - 1) = x0 at hx hwr hmr ⊢
      have HX0 := Aside0.mk hx0e
      clear hx0e
      rw [show ((cnt : Int) - 1).toNat = cnt - 1 by omega] at hx
      go_quiet (fail)
      go_wp2
      go_ret3
      have hB3 : Below w1.heap.size w1 (w2.drewN nq) := pw_below_drewN HB2.out nq
      exact ⟨F1, by first | rfl | (rw [HX0.out]; rfl), HT1.out.below hB3, HM1.out.then_below hB3⟩
end Go.Proofs.YtcbimnmpdpkefaaDoorTB
