/- diag.Print: its two closures, then the whole. -/
import Derived.Test.YtcbimnmpdpkefaaDoorDpPure
import Derived.Test.YtcbimnmpdpkefaaDoorTextBufC
import Derived.Test.YtcbimnmpdpkefaaDoorGlob
set_option linter.unusedVariables false
set_option linter.unusedSimpArgs false
namespace Go.Proofs.YtcbimnmpdpkefaaDoorTB
open Go.RowKit Go.Proofs.YtcbimnmpdpkefaaDoorW.PrintWords Go.Proofs.YtcbimnmpdpkefaaDoorW.PrintLast Go.Proofs.YtcbimnmpdpkefaaDoorW.PrintMore

theorem dp_grow_below {w : World} (k : Nat) (os : Array Obj) : Below w.heap.size w (Go.Sort.grow (w.drewN k) os) := by
  refine ⟨rfl, rfl, rfl, by simp [Go.Sort.grow, World.drewN], fun i hi => ?_⟩
  show ((w.drewN k).heap ++ os)[i]? = _
  rw [Array.getElem?_append_left (by simpa [World.drewN] using hi)]
  rfl
theorem dp_itoa (n : Int) (h0 : 0 ≤ n) (h1 : n ≤ 9223372036854775807) (w : World) (hG : YtcbimnmpdpkefaaDoor.GlobP w) :
    Calls Tryd.prog 49 #[.int .i64 n] w fun e w' => e = .returned (.string (dp_it n)) ∧ Below w.heap.size w w' :=
  (Tryd.strconv_Itoa n (by omega) h1 w hG.pow).mono fun e w' ⟨he, k, os, hw⟩ => ⟨he, hw ▸ dp_grow_below k os⟩

set_option maxHeartbeats 2000000 in
set_option maxRecDepth 100000 in
/-- The closure that counts. -/
theorem dp_count (s : ByteArray) (p : Int) (t : Addr) (w : World) (hG : YtcbimnmpdpkefaaDoor.GlobP w) (h0 : 0 ≤ p) (h1 : p ≤ (s.size : Int)) (h2 : p < 9223372036854775807) (ht : w.cell? t = some (.string s)) :
    Calls Tryd.prog 48 #[.int .i64 p, .pointer (some t)] w fun e w' => e = .returned (.string (dp_loc s p)) ∧ Below w.heap.size w w' := by
  have hb := dp_pos_bound s p h0 h1
  have hz1 := dp_it_size (dp_pos s p).1 (by omega) (by omega)
  have hz2 := dp_it_size (dp_pos s p).2 (by omega) (by omega)
  have hi1 := fun W hG => dp_itoa (dp_pos s p).1 (by omega) (by omega) W hG
  have hi2 := fun W hG => dp_itoa (dp_pos s p).2 (by omega) (by omega) W hG
  have HI1 := Aside0.mk hi1
  have HI2 := Aside0.mk hi2
  have HG := Aside0.mk hG
  have HP := Aside0.mk (show dp_pos s p = _ from rfl)
  have HZ1 := Aside0.mk hz1
  have HZ2 := Aside0.mk hz2
  have HB := Aside0.mk hb
  clear hi1 hi2 hG hz1 hz2 hb
  go_enter Tryd.func48, Tryd.ntmps48
  go_wp2
  go_loopg [4, 5, 8] (p.toNat + 1) (fun kq v4 v5 v8 w' => ∃ (l c i : Int), v4 = .int .i64 l ∧ v5 = .int .i64 c ∧ v8 = .int .i64 i ∧ Aside0 (0 ≤ i ∧ i ≤ p ∧ p - i < kq) ∧ Aside0 (1 ≤ l ∧ l ≤ i + 1 ∧ 1 ≤ c ∧ c ≤ i + 1) ∧ Aside0 (dp_lc (((bys s).take p.toNat).drop i.toNat) l c = dp_pos s p) ∧ w' = w)
  case atStart => exact ⟨1, 1, 0, rfl, rfl, rfl, ⟨by omega⟩, ⟨by omega⟩, ⟨by simp [dp_pos]⟩, rfl⟩
  case round =>
    obtain ⟨l, c, i, rfl, rfl, rfl, HI, HL, HE, rfl⟩ := hrel
    obtain ⟨k1, rfl⟩ : ∃ k1, gk = k1 + 1 := ⟨gk - 1, by have := HI.out; omega⟩
    by_cases c1 : i < p
    · have c1b := decide_eq_true c1
      obtain ⟨i0, i1, i2⟩ := HI.out
      have hdr : ((bys s).take p.toNat).drop i.toNat = ((bys s)[i.toNat]'(by rw [bys_length]; omega)) :: ((bys s).take p.toNat).drop (i + 1).toNat := by
        rw [List.drop_eq_getElem_cons (by rw [List.length_take, bys_length]; omega), show (i + 1).toNat = i.toNat + 1 by omega]
        simp
      have hbt : bt s i = (((bys s)[i.toNat]'(by rw [bys_length]; omega)).toNat : Int) := by
        obtain ⟨ch, hch, hbt⟩ := bys_bt s i i0 (by omega)
        rw [List.getElem?_eq_getElem (by rw [bys_length]; omega)] at hch
        rw [hbt, Option.some.inj hch]
      have hxj := bt_at s i
      have p2 := eq_true i0
      have q2 := eq_true (show i < (s.size : Int) by omega)
      have hl := HL.out
      by_cases c3 : bt s i = 10
      · have c3b0 : (bt s i == 10) = true := beq_iff_eq.mpr c3
        go_wp2
        go_roundg k1
        case measure => omega
        case rel => exact ⟨l + 1, 1, i + 1, by first | rfl | (congr 1; unfold wrap64; omega), rfl, by first | rfl | (congr 1; unfold wrap64; omega), ⟨by omega⟩, ⟨by omega⟩, ⟨by have he := HE.out; rw [hdr, dp_lc, if_pos (by rw [← hbt]; exact c3)] at he; exact he⟩, rfl⟩
      · have c3b0 : (bt s i == 10) = false := beq_eq_false_iff_ne.mpr c3
        go_wp2
        go_roundg k1
        case measure => omega
        case rel => exact ⟨l, c + 1, i + 1, rfl, by first | rfl | (congr 1; unfold wrap64; omega), by first | rfl | (congr 1; unfold wrap64; omega), ⟨by omega⟩, ⟨by omega⟩, ⟨by have he := HE.out; rw [hdr, dp_lc, if_neg (by rw [← hbt]; exact c3)] at he; exact he⟩, rfl⟩
    · have c1b := decide_eq_false c1
      have he := HE.out
      rw [List.drop_eq_nil_of_le (by rw [List.length_take]; have := HI.out; omega), dp_lc] at he
      have HI1 := HI1.out
      have HI2 := HI2.out
      have hz1 := HZ1.out
      have hz2 := HZ2.out
      have hloc : dp_loc s p = (dp_it (dp_pos s p).1 ++ (⟨#[58]⟩ : ByteArray)) ++ dp_it (dp_pos s p).2 := rfl
      rw [← he] at HI1 HI2 hz1 hz2 hloc
      have HLOC := Aside0.mk hloc
      have HJ1 := Aside0.mk HI1
      have HJ2 := Aside0.mk HI2
      have e58 : (⟨#[58]⟩ : ByteArray).size = 1 := rfl
      have hsz1 : (9223372036854775807 < (dp_it l).size + 1) = False := eq_false (by have : (dp_it l).size ≤ 20 := hz1; omega)
      have hsz2 : (9223372036854775807 < (dp_it l).size + 1 + (dp_it c).size) = False := eq_false (by have h1_ : (dp_it l).size ≤ 20 := hz1; have h2_ : (dp_it c).size ≤ 20 := hz2; omega)
      have hsz3 : (9223372036854775807 < (dp_it l ++ (⟨#[58]⟩ : ByteArray)).size + (dp_it c).size) = False := eq_false (by rw [ByteArray.size_append, e58]; have h1_ : (dp_it l).size ≤ 20 := hz1; have h2_ : (dp_it c).size ≤ 20 := hz2; omega)
      clear HI1 HI2 hz1 hz2 hloc he
      go_wp2_with (first
        | (go_at_call 49; refine (HJ1.out _ HG.out).mono ?_; rintro e w1 ⟨rfl, hB1⟩; have HB1 := Aside0.mk hB1; clear hB1)
        | (go_at_call 49; refine (HJ2.out _ (HG.out.below HB1.out)).mono ?_; rintro e w2 ⟨rfl, hB2⟩; have HB2 := Aside0.mk hB2; clear hB2))
      go_ret
      exact ⟨by rw [HLOC.out]; rfl, below_then HB1.out HB1.out.size HB2.out⟩

set_option maxHeartbeats 2000000 in
set_option maxRecDepth 100000 in
/-- The closure that asks the Buffer. -/
theorem dp_ask (s : ByteArray) (p : Int) (t : Addr) (b : Nat) (F : Nat → Prop) (w : World) (hG : YtcbimnmpdpkefaaDoor.GlobP w) (h0 : 0 ≤ p) (h1 : p ≤ (s.size : Int)) (ht : w.cell? t = some (.pointer (some ⟨b, 0, none⟩))) (hT : TB w F b s) (hFG : ∀ w' F', Moved w w' F F' → YtcbimnmpdpkefaaDoor.GlobP w') :
    Calls Tryd.prog 50 #[.int .i64 p, .pointer (some t)] w fun e w' => e = .returned (.string (dp_loc s p)) ∧ ∃ F1, TB w' F1 b s ∧ Moved w w' F F1 := by
  have hsm := hT.small
  have hb := dp_pos_bound s p h0 h1
  have hz1 := dp_it_size (dp_pos s p).1 (by omega) (by omega)
  have hz2 := dp_it_size (dp_pos s p).2 (by omega) (by omega)
  have hi1 := fun W hG => dp_itoa (dp_pos s p).1 (by omega) (by omega) W hG
  have hi2 := fun W hG => dp_itoa (dp_pos s p).2 (by omega) (by omega) W hG
  have hpl := place w F b s p hT (by omega)
  have hplc : plc s p = (lineOf s p, p - rd (st s) (lineOf s p), 0) := by unfold plc; rw [if_neg (by omega)]
  rw [hplc] at hpl
  have hloc : dp_loc s p = (dp_it (dp_pos s p).1 ++ (⟨#[58]⟩ : ByteArray)) ++ dp_it (dp_pos s p).2 := rfl
  have hpe := dp_pos_eq s p h0 h1
  have h58 : (⟨#[58]⟩ : ByteArray).size = 1 := rfl
  generalize lineOf s p = ln at hpl hpe
  generalize p - rd (st s) ln = cl at hpl hpe
  rw [hpe] at hi1 hi2 hz1 hz2 hloc hb
  dsimp only at hi1 hi2 hz1 hz2 hloc hb hpl
  have HI1 := Aside0.mk hi1
  have HI2 := Aside0.mk hi2
  have HPL := Aside0.mk hpl
  have HLOC := Aside0.mk hloc
  have HFG := Aside0.mk hFG
  have hsz1 : (9223372036854775807 < (dp_it (ln + 1)).size + 1) = False := eq_false (by omega)
  have hsz2 : (9223372036854775807 < (dp_it (ln + 1)).size + 1 + (dp_it (cl + 1)).size) = False := eq_false (by omega)
  have hsz3 : (9223372036854775807 < (dp_it (ln + 1) ++ (⟨#[58]⟩ : ByteArray)).size + (dp_it (cl + 1)).size) = False := eq_false (by rw [ByteArray.size_append, h58]; omega)
  clear hi1 hi2 hpl hloc hpe hplc hz1 hz2 hFG hG hT
  go_enter Tryd.func50, Tryd.ntmps50
  go_wp2_with (first
        | (go_at_call 51; refine HPL.out.mono ?_; rintro e w1 ⟨F1, rfl, hT1, hM1⟩; have HT1 := Aside0.mk hT1; have HM1 := Aside0.mk hM1; clear hT1 hM1)
        | (go_at_call 49; refine (HI1.out _ (HFG.out _ _ HM1.out)).mono ?_; rintro e w2 ⟨rfl, hB1⟩; have HB1 := Aside0.mk hB1; clear hB1)
        | (go_at_call 49; refine (HI2.out _ ((HFG.out _ _ HM1.out).below HB1.out)).mono ?_; rintro e w3 ⟨rfl, hB2⟩; have HB2 := Aside0.mk hB2; clear hB2))
  go_ret
  have hB := below_then HB1.out HB1.out.size HB2.out
  exact ⟨by rw [HLOC.out]; rfl, F1, HT1.out.below hB, HM1.out.then_below hB⟩
end Go.Proofs.YtcbimnmpdpkefaaDoorTB
