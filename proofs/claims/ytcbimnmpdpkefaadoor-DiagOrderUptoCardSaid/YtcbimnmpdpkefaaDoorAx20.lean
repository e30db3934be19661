/- Printed by a changed copy of the kit's print.py for all laws of the seat at once (one namespace): functions and their contracts; some parts by hand. -/
import Derived.Test.YtcbimnmpdpkefaaDoorAx0
import Derived.Test.YtcbimnmpdpkefaaDoorAx1
namespace Go.Proofs.YtcbimnmpdpkefaaDoor.A
open Go.RowKit Go.Proofs.YtcbimnmpdpkefaaDoorW.PrintWords Go.Proofs.YtcbimnmpdpkefaaDoorW.PrintLast Go.Proofs.YtcbimnmpdpkefaaDoorW.PrintMore
attribute [local go_sem] max2_int min2_int max_two min_two max_three min_three max_four min_four   -- for this text's walks alone
set_option linter.unusedVariables false
set_option linter.unusedSimpArgs false

/-! ### diag_Sort: function 21 (by hand) -/
section
open Go.Sort
theorem ds_cells0 (W : World) (a b : Array Value) (t i : Nat) (u : Value) (hu : a[i]? = some u) : (((W.alloc (.cells a t)).alloc (.cells b t)).drew).cell? ⟨W.heap.size, i, none⟩ = some u := by
  have h : (((W.alloc (.cells a t)).alloc (.cells b t)).drew).heap[W.heap.size]? = some (.cells a t (0, 0)) := by
    show ((W.heap.push _).push _)[W.heap.size]? = _
    rw [Array.getElem?_push_lt (by simp), Array.getElem_push_eq]
  simp only [World.cell?, h, hu, Option.isSome_none, Bool.false_eq_true, if_false]
theorem ds_cells1 (W : World) (a b : Array Value) (t i : Nat) (u : Value) (hu : b[i]? = some u) : (((W.alloc (.cells a t)).alloc (.cells b t)).drew).cell? ⟨W.heap.size + 1, i, none⟩ = some u := by
  have h : (((W.alloc (.cells a t)).alloc (.cells b t)).drew).heap[W.heap.size + 1]? = some (.cells b t (0, 0)) := by
    show ((W.heap.push _).push _)[W.heap.size + 1]? = _
    have : W.heap.size + 1 = (W.heap.push (.cells a t)).size := by simp
    rw [this, Array.getElem?_push_size]
  simp only [World.cell?, h, hu, Option.isSome_none, Bool.false_eq_true, if_false]
theorem ds_cellN (W : World) (a : Array Value) (t i : Nat) (u : Value) (hu : a[i]? = some u) : (W.alloc (.cells a t)).cell? ⟨W.heap.size, i, none⟩ = some u := by
  have h : (W.alloc (.cells a t)).heap[W.heap.size]? = some (.cells a t (0, 0)) := by
    show (W.heap.push _)[W.heap.size]? = _
    rw [Array.getElem?_push_size]
  simp only [World.cell?, h, hu, Option.isSome_none, Bool.false_eq_true, if_false]
def ds_or (x y z : Int) : Int := if x = 0 then (if y = 0 then z else y) else x
set_option maxHeartbeats 1000000 in
theorem ds_orCalls (b : Nat) (x y z : Int) (W : World) (h0 : W.cell? ⟨b, 0, none⟩ = some (.int .i64 x)) (h1 : W.cell? ⟨b, 1, none⟩ = some (.int .i64 y)) (h2 : W.cell? ⟨b, 2, none⟩ = some (.int .i64 z)) :
    Calls Tryd.prog 45 #[.slice (some ⟨b, 0, none⟩) 3 3] W fun e w' => e = .returned (.int .i64 (ds_or x y z)) ∧ w' = W := by
  by_cases hx : x = 0
  · subst hx
    by_cases hy : y = 0
    · subst hy
      by_cases hz : z = 0
      · subst hz
        go_enter Tryd.func45, Tryd.ntmps45
        go_wp2
        refine wp_loop_rounds 4 ?_
        rw [rounds_succ]
        go_wp2
        rw [rounds_succ]
        go_wp2
        rw [rounds_succ]
        go_wp2
        rw [rounds_succ]
        go_wp2
        go_ret
        exact ⟨by simp [ds_or], rfl⟩
      · have hz' : (z == 0) = false := by simpa using hz
        go_enter Tryd.func45, Tryd.ntmps45
        go_wp2
        refine wp_loop_rounds 4 ?_
        rw [rounds_succ]
        go_wp2
        rw [rounds_succ]
        go_wp2
        rw [rounds_succ]
        go_wp2
        go_ret
        exact ⟨by simp [ds_or], rfl⟩
    · have hy' : (y == 0) = false := by simpa using hy
      go_enter Tryd.func45, Tryd.ntmps45
      go_wp2
      refine wp_loop_rounds 4 ?_
      rw [rounds_succ]
      go_wp2
      rw [rounds_succ]
      go_wp2
      go_ret
      exact ⟨by simp [ds_or, hy], rfl⟩
  · have hx' : (x == 0) = false := by simpa using hx
    go_enter Tryd.func45, Tryd.ntmps45
    go_wp2
    refine wp_loop_rounds 4 ?_
    rw [rounds_succ]
    go_wp2
    go_ret
    exact ⟨by simp [ds_or, hx], rfl⟩

def ds_cmp (x y : S36) : Int := ds_or (Lib.compareInt x.f1 y.f1) (Lib.compareInt x.f2 y.f2) (Lib.compareInt x.f0 y.f0)
def ds_enc (x : S36) : List Value := [.int .i64 x.f0, .int .i64 x.f1, .int .i64 x.f2]
set_option maxHeartbeats 2000000 in
set_option maxRecDepth 100000 in
theorem ds_closure (x y : S36) (W : World) : Calls Tryd.prog 44 #[.agg (ds_enc x).toArray, .agg (ds_enc y).toArray] W fun e w' => e = .returned (.int .i64 (ds_cmp x y)) ∧ ∃ q os', w' = grow (W.drewN q) os' := by
  unfold ds_cmp ds_enc
  have hc1 := fun W' => Tryd.cmp_Compare_int x.f1 y.f1 W'
  have hc2 := fun W' => Tryd.cmp_Compare_int x.f2 y.f2 W'
  have hc3 := fun W' => Tryd.cmp_Compare_int x.f0 y.f0 W'
  generalize Lib.compareInt x.f1 y.f1 = r1 at hc1 ⊢
  generalize Lib.compareInt x.f2 y.f2 = r2 at hc2 ⊢
  generalize Lib.compareInt x.f0 y.f0 = r3 at hc3 ⊢
  go_enter Tryd.func44, Tryd.ntmps44
  go_wp2
  refine wp_region_still_tail 15 (by kernel_rfl) (by kernel_rfl) ?_
  simp only [List.take_succ_cons, List.take_zero, List.drop_succ_cons, List.drop_zero]
  have hx : ∀ i u, #[Value.int IntKind.i64 x.f0, Value.int IntKind.i64 x.f1, Value.int IntKind.i64 x.f2][i]? = some u → (((W.alloc (.cells #[Value.int IntKind.i64 x.f0, Value.int IntKind.i64 x.f1, Value.int IntKind.i64 x.f2] 36)).alloc (.cells #[Value.int IntKind.i64 y.f0, Value.int IntKind.i64 y.f1, Value.int IntKind.i64 y.f2] 36)).drew).cell? ⟨W.heap.size, i, none⟩ = some u := by
    exact fun i u hu => ds_cells0 W _ _ _ i u hu
  have hy : ∀ i u, #[Value.int IntKind.i64 y.f0, Value.int IntKind.i64 y.f1, Value.int IntKind.i64 y.f2][i]? = some u → (((W.alloc (.cells #[Value.int IntKind.i64 x.f0, Value.int IntKind.i64 x.f1, Value.int IntKind.i64 x.f2] 36)).alloc (.cells #[Value.int IntKind.i64 y.f0, Value.int IntKind.i64 y.f1, Value.int IntKind.i64 y.f2] 36)).drew).cell? ⟨W.heap.size + 1, i, none⟩ = some u := by
    exact fun i u hu => ds_cells1 W _ _ _ i u hu
  have hg : ∃ q os', ((W.alloc (.cells #[Value.int IntKind.i64 x.f0, Value.int IntKind.i64 x.f1, Value.int IntKind.i64 x.f2] 36)).alloc (.cells #[Value.int IntKind.i64 y.f0, Value.int IntKind.i64 y.f1, Value.int IntKind.i64 y.f2] 36)).drew = grow (W.drewN q) os' := ⟨1, _, by rw [alloc_eq_grow, alloc_eq_grow, grow_grow]; rfl⟩
  change wpStill _ _ (((W.alloc (.cells #[Value.int IntKind.i64 x.f0, Value.int IntKind.i64 x.f1, Value.int IntKind.i64 x.f2] 36)).alloc (.cells #[Value.int IntKind.i64 y.f0, Value.int IntKind.i64 y.f1, Value.int IntKind.i64 y.f2] 36)).drew) _ _ _
  have hx1 := hx 1 _ rfl
  have hx2 := hx 2 _ rfl
  have hx0 := hx 0 _ rfl
  have hy1 := hy 1 _ rfl
  have hy2 := hy 2 _ rfl
  have hy0 := hy 0 _ rfl
  clear hx hy
  generalize hWW : ((W.alloc (.cells #[Value.int IntKind.i64 x.f0, Value.int IntKind.i64 x.f1, Value.int IntKind.i64 x.f2] 36)).alloc (.cells #[Value.int IntKind.i64 y.f0, Value.int IntKind.i64 y.f1, Value.int IntKind.i64 y.f2] 36)).drew = W2 at hx0 hx1 hx2 hy0 hy1 hy2 hg ⊢
  still_step
  still_step
  still_step
  still_step
  still_call (hc1 _)
  still_step
  still_step
  still_step
  still_step
  still_call (hc2 _)
  still_step
  still_step
  still_step
  still_step
  still_call (hc3 _)
  refine wpStill_nil ?_
  change wpList _ _ _ _ _ (((W.alloc (.cells #[Value.int IntKind.i64 x.f0, Value.int IntKind.i64 x.f1, Value.int IntKind.i64 x.f2] 36)).alloc (.cells #[Value.int IntKind.i64 y.f0, Value.int IntKind.i64 y.f1, Value.int IntKind.i64 y.f2] 36)).drew)
  rw [hWW]
  clear hWW
  go_wp2_with (go_at_call 45; refine (ds_orCalls _ r1 r2 r3 _ ?h0 ?h1 ?h2).mono ?_; (case h0 => exact ds_cellN _ _ _ _ _ rfl); (case h1 => exact ds_cellN _ _ _ _ _ rfl); (case h2 => exact ds_cellN _ _ _ _ _ rfl); rintro e w' ⟨rfl, rfl⟩)
  go_ret
  obtain ⟨q, os', rfl⟩ := hg
  exact ⟨rfl, q, _, by rw [alloc_eq_grow, grow_grow]⟩
instance : Inhabited S36 := ⟨z36⟩
def ds_lt (x y : S36) : Prop := x.f1 < y.f1 ∨ x.f1 = y.f1 ∧ (x.f2 < y.f2 ∨ x.f2 = y.f2 ∧ x.f0 < y.f0)
instance (x y : S36) : Decidable (ds_lt x y) := by unfold ds_lt; infer_instance
theorem ds_cmp_eq (a b : Int) : Lib.compareInt a b = if a < b then -1 else if b < a then 1 else 0 := by
  unfold Lib.compareInt; rfl
theorem ds_ltOf (x y : S36) : ltOf ds_cmp x y = decide (ds_lt x y) := by
  unfold ltOf ds_cmp ds_or ds_lt
  simp only [ds_cmp_eq]
  by_cases a1 : x.f1 < y.f1 <;> by_cases a2 : y.f1 < x.f1 <;> by_cases b1 : x.f2 < y.f2 <;> by_cases b2 : y.f2 < x.f2 <;> by_cases c1 : x.f0 < y.f0 <;> by_cases c2 : y.f0 < x.f0 <;> simp [a1, a2, b1, b2, c1, c2] <;> omega
theorem ds_swo : SWO (ltOf ds_cmp) where
  irrefl x := by rw [ds_ltOf]; simp [ds_lt]
  trans x y z h1 h2 := by
    rw [ds_ltOf, decide_eq_true_eq] at *; unfold ds_lt at *; omega
  ntrans x y z h1 h2 := by
    rw [ds_ltOf, decide_eq_false_iff_not] at *; unfold ds_lt at *; omega
theorem ds_total (x y : S36) (h1 : ltOf ds_cmp x y = false) (h2 : ltOf ds_cmp y x = false) : x = y := by
  rw [ds_ltOf, decide_eq_false_iff_not] at *
  unfold ds_lt at *
  obtain ⟨a, b, c⟩ := x
  obtain ⟨a', b', c'⟩ := y
  dsimp only at *
  obtain rfl : a = a' := by omega
  obtain rfl : b = b' := by omega
  obtain rfl : c = c' := by omega
  rfl
def ds_srt (l : List S36) : List S36 := l.mergeSort (fun x y => !(ltOf ds_cmp) y x)
theorem ds_srt_length (l : List S36) : (ds_srt l).length = l.length := List.length_mergeSort ..

/-! the row, as the sort says it and as the kinds say it -/
theorem ds_flat_get (d : Array S36) (t : Nat) (h : t < d.size * 3) : (flatK ds_enc 3 d)[t]! = (ds_enc d[t / 3]!)[t % 3]! := get_flatK ds_enc 3 d t h
theorem ds_inner {w : World} {base : Nat} {ok : Nat → Prop} {xs : List S36} {inner : List Value} (hr : Reps (k36.M w base ok) 3 xs inner) (t : Nat) (h : t < xs.length * 3) : inner[t]? = some (flatK ds_enc 3 xs.toArray)[t]! := by
  obtain ⟨hl, hp⟩ := hr
  have hj : t / 3 < xs.length := by omega
  have h1 := k36_openM (hp (t / 3) _ (List.getElem?_eq_getElem hj))
  rw [ds_flat_get _ _ (by simpa using h)]
  have h2 : ((inner.drop (t / 3 * 3)).take 3)[t % 3]? = inner[t]? := by
    rw [List.getElem?_take, if_pos (by omega), List.getElem?_drop]
    congr 1; omega
  rw [← h2, h1]
  have h3 : (xs.toArray)[t / 3]! = xs[t / 3] := by
    rw [getElem!_pos _ _ (by simpa using hj)]; simp
  rw [h3]
  have h4 : t % 3 < 3 := Nat.mod_lt _ (by omega)
  have h5 : t % 3 = 0 ∨ t % 3 = 1 ∨ t % 3 = 2 := by omega
  rcases h5 with h5 | h5 | h5 <;> rw [h5] <;> rfl
theorem ds_holds {w : World} {base : Nat} {ok : Nat → Prop} {g cap : Nat} {xs : List S36} (h : Kd.R k36 36 w base ok (.slice (some ⟨g, 0, none⟩) xs.length cap) xs) : HoldsK ds_enc 3 w g 0 xs.toArray ∧ g < w.heap.size := by
  obtain ⟨_, inner, ho, hr⟩ := h
  have hs : (k36).sz = 3 := rfl
  rw [hs] at ho hr
  refine ⟨?_, own_lt ho g rfl⟩
  intro j hj
  rw [size_flatK] at hj
  have hj' : j < xs.length * 3 := by simpa using hj
  have hc := ho.cells (g := g) rfl j _ (ds_inner hr j hj')
  refine ⟨?_, ?_⟩
  · have : (⟨g, 0, none⟩ : Addr).add j = ⟨g, 0 + j, none⟩ := by simp [add_plain]
    rw [this] at hc
    exact hc
  · have := ho.frozenAt (0 + j)
    exact this
theorem ds_back {w : World} {base : Nat} {g cap : Nat} {xs ys : List S36} (h : Kd.R k36 36 w base (fun _ => True) (.slice (some ⟨g, 0, none⟩) xs.length cap) xs) (hl : ys.length = xs.length) (n : Nat) (os : Array Obj) :
    Kd.R k36 36 (sortWorldK ds_enc 3 w g 0 n ys.toArray os) base (fun _ => True) (.slice (some ⟨g, 0, none⟩) ys.length cap) ys := by
  obtain ⟨_, inner, ho, hr⟩ := h
  have hs : (k36).sz = 3 := rfl
  rw [hs] at ho hr
  refine ⟨fun _ _ => trivial, ?_⟩
  obtain ⟨hlen, hv⟩ := ho
  rcases hv with ⟨hv, _⟩ | ⟨g', cap', cur, he, hb, hh, hc, hm, hsz, htk⟩
  · cases hv
  · obtain ⟨e1, e2, e3⟩ := Value.slice.inj he
    obtain rfl : g = g' := by injection e1 with e1; injection e1
    subst e3
    have hg : g < w.heap.size := (Array.getElem?_eq_some_iff.1 hh).1
    have hh2 : (sortWorldK ds_enc 3 w g 0 n ys.toArray os).heap[g]? = some (.cells (putCells id 0 (flatK ds_enc 3 ys.toArray) cur) 36 (0, 0)) := by
      unfold sortWorldK grow putRowK putRow mapBlock Go.Sort.ahead
      simp only []
      rw [Array.getElem?_append_left (by simpa using hg), Array.getElem?_modify, if_pos rfl, hh]
      rfl
    have hcur : cur.size = cap * 3 := hsz
    refine ⟨(flatK ds_enc 3 ys.toArray).toList, ⟨by simp [hs], .inr ⟨g, cap, _, rfl, hb, hh2, by omega, hm, by simp [putCells, hcur, hs], ?_⟩⟩, ?_⟩
    · apply List.ext_getElem?
      intro i
      rw [hs, List.getElem?_take]
      by_cases hi : i < ys.length * 3
      · rw [if_pos hi]
        have hi2 : i < cur.size := by rw [hcur]; have := Nat.mul_le_mul_right 3 (show ys.length ≤ cap by omega); omega
        simp only [putCells, Array.getElem?_toList, Array.getElem?_mapIdx, Array.getElem?_eq_getElem hi2, Option.map_some]
        rw [if_pos ⟨by omega, by simpa using hi⟩, Array.getElem?_eq_getElem (by simpa using hi), ← getElem!_pos _ _ (by simpa using hi)]
        rfl
      · rw [if_neg hi, List.getElem?_eq_none (by simpa using hi)]
    · refine ⟨by simp [hs], fun j p hj => ?_⟩
      obtain ⟨hj2, rfl⟩ := List.getElem?_eq_some_iff.1 hj
      have : (((flatK ds_enc 3 ys.toArray).toList.drop (j * 3)).take 3) = ds_enc ys[j] := by
        apply List.ext_getElem?
        intro i
        rw [List.getElem?_take]
        by_cases hi : i < 3
        · rw [if_pos hi, List.getElem?_drop, Array.getElem?_toList, Array.getElem?_eq_getElem (by simp; omega), ← getElem!_pos _ _ (by simp; omega), ds_flat_get _ _ (by simp; omega)]
          have e1 : (j * 3 + i) / 3 = j := by omega
          have e2 : (j * 3 + i) % 3 = i := by omega
          rw [e1, e2, getElem!_pos _ j (by simpa using hj2)]
          have h5 : i = 0 ∨ i = 1 ∨ i = 2 := by omega
          rcases h5 with h5 | h5 | h5 <;> rw [h5] <;> simp [ds_enc]
        · rw [if_neg hi, List.getElem?_eq_none (by simp [ds_enc]; omega)]
      rw [hs, this]
      exact k36_mkM _ _ _ _
theorem ds_below {w0 w : World} {g : Nat} (hb : Below w0.heap.size w0 w) (hg : w0.heap.size ≤ g) (n : Nat) (d : Array S36) (os : Array Obj) : Below w0.heap.size w0 (sortWorldK ds_enc 3 w g 0 n d os) := by
  refine ⟨hb.os, hb.tape, hb.output, Nat.le_trans hb.size (by simp [sortWorldK, grow, putRowK, putRow, mapBlock, Go.Sort.ahead]), fun i hi => ?_⟩
  rw [← hb.block i hi]
  have : i < w.heap.size := Nat.lt_of_lt_of_le hi hb.size
  unfold sortWorldK grow putRowK putRow mapBlock Go.Sort.ahead
  simp only []
  rw [Array.getElem?_append_left (by simpa using this), Array.getElem?_modify, if_neg (by omega)]
set_option maxHeartbeats 1000000 in
set_option maxRecDepth 100000 in
theorem ds_clone (A0 : Option Addr) (c0 : Nat) (l0 : List S36) (w : World) (hr0 : Kd.C k36 w A0 l0.length l0) (hc0 : l0.length ≤ c0) (hl : l0.length < 5864062014805) :
    Calls Tryd.prog 42 #[.slice A0 l0.length c0] w fun e w' => ∃ v0_ : Value, e = .returned v0_ ∧ Kd.R k36 36 w' w.heap.size (fun _ => True) v0_ l0 ∧ Below w.heap.size w w' := by
  have hu36 := Tryd.underlying36
  have hu23 := Tryd.underlying23
  have heq : ∀ (A : Option Addr) (n c : Nat) (w : World), (binOp .eql 23 (.slice A n c) (.slice none 0 0)).run Tryd.prog w = .ok (.bool A.isNone) w := by
    intro A n c w
    simp only [binOp]
    simp [run_equal_slice_nil w 23 36 A n c hu23]
  have HR0 := Aside0.mk hr0
  have HC0 := Aside0.mk hc0
  have HL := Aside0.mk hl
  clear hr0 hc0 hl
  have HB := Aside0.mk (Below.refl w.heap.size w)
  rcases A0 with _ | A
  · have h0 : l0 = [] := by
      obtain ⟨_, _, h⟩ := HR0.out
      rcases Nat.eq_zero_or_pos l0.length with h0 | h0
      · exact List.eq_nil_of_length_eq_zero h0
      · obtain ⟨_, h, _⟩ := h h0; cases h
    subst h0
    have heq1 : ∀ (n c : Nat) (w : World), (binOp .eql 23 (.slice none n c) (.slice none 0 0)).run Tryd.prog w = .ok (.bool true) w := fun n c w => heq none n c w
    clear heq
    go_enter Tryd.func42, Tryd.ntmps42
    go_wp2
    go_ret
    exact ⟨_, rfl, Kd.R_nil _ _ _ _ _, HB.out⟩
  · have heq1 : ∀ (n c : Nat) (w : World), (binOp .eql 23 (.slice (some A) n c) (.slice none 0 0)).run Tryd.prog w = .ok (.bool false) w := fun n c w => heq (some A) n c w
    clear heq
    go_enter Tryd.func42, Tryd.ntmps42
    have HO5 : Aside0 (Kd.R k36 36 (w.alloc (Obj.cells #[] 36)) w.heap.size (fun _ => True) (.slice (some ⟨w.heap.size, 0, none⟩) 0 0) ([] : List S36)) := ⟨⟨fun _ _ => trivial, [], by
      have h := World.ownsRow_lit (base := w.heap.size) (e := 36) (size := 3) w #[] 0 (Nat.le_refl _) (by simp [maxLen]) (by simp)
      exact h, Reps.none _ _⟩⟩
    go_wp2_with ((with_reducible refine gate_builtin (b := .append) (xs := #[.tmp 5, .tmp 6]) rfl ?_); at_builtin; refine Kd.R_append_rows k36 (w0 := w) w.heap.size rfl (.tmp 5) (.tmp 6) 23 36 (.agg #[(.int .i64 0), (.int .i64 0), (.int .i64 0)]) 24 rfl Tryd.underlying23 info36 rfl (by decide) (by omega) (.slice (some ⟨w.heap.size, 0, none⟩) 0 0) ([] : List (S36)) l0 _ _ _ (fun _ => True) (fun _ => False) rfl rfl ?aO ?aR (fun _ _ h => h) (fun _ h => h.elim) ?aF ?aB ?aS ?aL ?_; (case aR => exact (Kd.C_below HR0.out (by repeat (first | (with_reducible first | exact HB.out | apply below_alloc | apply pw_below_drewN | apply below_drew1) | exact HB.out)))); (case aB => exact (by repeat (first | (with_reducible first | exact HB.out | apply below_alloc | apply pw_below_drewN | apply below_drew1) | exact HB.out))); (case aF => exact (fun _ _ => trivial)); (case aO => exact HO5.out); (case aS => exact (below_size (by repeat (first | (with_reducible first | exact HB.out | apply below_alloc | apply pw_below_drewN | apply below_drew1) | exact HB.out)))); (case aL => have := HL.out; simp only [List.length_nil]; omega); intro v148 w6 ho hb hg hat; have n0_ := Aside0.mk (hb); have n1_ := Aside0.mk (ho); clear HB; have HB := n0_; have HO149 := n1_; clear n0_ n1_; clear ho hb hg hat)
    go_ret
    exact ⟨_, rfl, by simpa using HO149.out, HB.out⟩
set_option maxHeartbeats 1000000 in
theorem ds_sorted (l : List S36) (v : Value) (w W : World) (hB : Below w.heap.size w W) (hR : Kd.R k36 36 W w.heap.size (fun _ => True) v l) (hl : l.length < 5864062014805) :
    Calls Tryd.prog 43 #[v, .func (.func 44) #[] #[]] W fun e w' => e = .returned (.tuple #[]) ∧ Kd.R k36 36 w' w.heap.size (fun _ => True) v (ds_srt l) ∧ Below w.heap.size w w' := by
  obtain ⟨A, c, rfl⟩ := Kd.R_slice hR
  rcases Nat.eq_zero_or_pos l.length with h0 | h0
  · obtain rfl := List.eq_nil_of_length_eq_zero h0
    have h := AnyF.slices_SortFunc_none Tryd.sortDiag A c (.func (.func 44) #[] #[]) W
    refine h.mono ?_
    rintro e w' ⟨rfl, rfl⟩
    exact ⟨rfl, by simpa [ds_srt] using hR, hB⟩
  · obtain ⟨inner, ho⟩ := Kd.R_own hR
    obtain ⟨g, cap, he, hg1, hg2⟩ := ho.form h0
    obtain ⟨e1, _, e3⟩ := Value.slice.inj he
    subst e1
    subst e3
    obtain ⟨hH, hblk⟩ := ds_holds hR
    have eg : ∀ args w, (callFunc 44 args).run Tryd.prog w = .ok (.enter 44 args) w := enters_of Tryd.func44 (by kernel_rfl) rfl
    have h := AnyQ.slices_SortFunc_total Tryd.sortDiag 3 Tryd.isAgg36 Tryd.sizeOf36 ds_enc (fun _ => rfl) (fun x v hv => by simp [ds_enc] at hv; rcases hv with rfl | rfl | rfl <;> rfl) ds_cmp ds_swo 44 #[] g 0 c l.toArray W eg (fun _ _ _ _ x y => ds_closure x y _) hH hblk (by simp; omega) ds_total
    refine h.mono ?_
    rintro e w' ⟨rfl, n, os, rfl⟩
    refine ⟨rfl, ?_, ds_below hB (by omega) n _ os⟩
    have hb := ds_back (ys := ds_srt l) hR (ds_srt_length l) n os
    rw [ds_srt_length] at hb
    exact hb
attribute [local go_sem high] eqA36
def ds_eq (x y : S36) : Bool := (x.f0 == y.f0) && ((x.f1 == y.f1) && (x.f2 == y.f2))
def ds_dd : Option S36 → List S36 → List S36
  | _, [] => []
  | none, x :: xs => x :: ds_dd (some x) xs
  | some p, x :: xs => if ds_eq x p = true then ds_dd (some x) xs else x :: ds_dd (some x) xs
def ds_prev (l : List S36) (i : Int) : Option S36 := if i > 0 then some (rd_T36 l (i - 1)) else none
theorem ds_prev_next (l : List S36) (i : Int) (h0 : 0 ≤ i) : ds_prev l (i + 1) = some (rd_T36 l i) := by
  unfold ds_prev
  rw [if_pos (by omega), show i + 1 - 1 = i by omega]
theorem ds_drop (l : List S36) (i : Int) (h0 : 0 ≤ i) (h1 : i < l.length) : l.drop i.toNat = rd_T36 l i :: l.drop (i + 1).toNat := by
  have : i.toNat < l.length := by omega
  rw [List.drop_eq_getElem_cons this, show (i + 1).toNat = i.toNat + 1 by omega]
  simp [rd_T36, List.getD_eq_getElem?_getD, List.getElem?_eq_getElem this]
def diag_Sort.f (l0 : List S36) : Option (List S36) := if l0.length < 5864062014805 then some (ds_dd none (ds_srt l0)) else none
set_option maxHeartbeats 1000000 in
set_option maxRecDepth 100000 in
theorem diag_Sort.calls (A0 : Option Addr) (c0 : Nat) (l0 : List S36) (r : List S36) (w : World) (hr0 : Kd.C k36 w A0 l0.length l0) (hc0 : l0.length ≤ c0) (h : diag_Sort.f l0 = some r) :
    Calls Tryd.prog 21 #[.slice A0 l0.length c0] w fun e w' => ∃ v0_ : Value, e = .returned v0_ ∧ Kd.R k36 36 w' w.heap.size (fun _ => True) v0_ r ∧ Below w.heap.size w w' := by
  unfold diag_Sort.f at h
  by_cases hl : l0.length < 5864062014805
  · rw [if_pos hl] at h
    obtain rfl := Option.some.inj h
    clear h
    have hclone := ds_clone A0 c0 l0 w hr0 hc0 hl
    have hu36 := Tryd.underlying36
    have HL := Aside0.mk hl
    clear hl hr0 hc0
    go_enter Tryd.func21, Tryd.ntmps21
    go_wp2
    go_step3
    go_wp2_with (first
      | (go_at_call 42; refine hclone.mono ?_; rintro e w1 ⟨v1, rfl, hR1, hB1⟩; have HR1 := Aside0.mk hR1; have HB1 := Aside0.mk hB1; clear hR1 hB1)
      | (go_at_call 43; refine (ds_sorted l0 v1 w w1 HB1.out HR1.out HL.out).mono ?_; rintro e w2 ⟨rfl, hR2, hB2⟩; have HR2 := Aside0.mk hR2; have HB2 := Aside0.mk hB2; clear hR2 hB2; obtain ⟨A2, c2, he2, hc2, hr2⟩ := Kd.R_reads HR2.out; rw [ds_srt_length] at he2; subst he2; have HC2 := Aside0.mk hr2; clear hr2))
    go_step3
    go_wp2
    go_loopg [4, 13] (l0.length + 1) (fun kq v4 v13 w' => ∃ (i : Int) (out : List S36), v13 = .int .i64 i ∧ Aside0 (0 ≤ i ∧ i ≤ (l0.length : Int) ∧ (l0.length : Int) - i < kq) ∧ Aside0 ((out.length : Int) ≤ i) ∧ Aside0 (out ++ ds_dd (ds_prev (ds_srt l0) i) ((ds_srt l0).drop i.toNat) = ds_dd none (ds_srt l0)) ∧ Aside0 (Kd.R k36 36 w' w2.heap.size (fun _ => True) v4 out) ∧ Aside0 (Below w2.heap.size w2 w'))
    case atStart => exact ⟨0, [], rfl, ⟨by omega, by omega, by omega⟩, ⟨by simp⟩, ⟨by simp [ds_prev]⟩, ⟨Kd.R_nil _ _ _ _ _⟩, ⟨Below.refl _ _⟩⟩
    case round =>
      obtain ⟨i, out, rfl, HI, HLO, HE, HO, HB⟩ := hrel
      obtain ⟨k1, rfl⟩ : ∃ k1, gk = k1 + 1 := ⟨gk - 1, by have := HI.out; omega⟩
      by_cases c1 : i < (l0.length : Int)
      · have c1b := decide_eq_true c1
        obtain ⟨i0, i1, i2⟩ := HI.out
        have hn : ((ds_srt l0).length : Int) = (l0.length : Int) := by rw [ds_srt_length]
        obtain ⟨ad, ead, hx0, hx1, hx2⟩ := at_T36 HC2.out i i0 (by rw [hn]; exact c1)
        subst ead
        replace hx0 := (HB.out.cell (World.block_lt_of_cell? w2 _ hx0)).trans hx0
        replace hx1 := (HB.out.cell (World.block_lt_of_cell? w2 _ hx1)).trans hx1
        replace hx2 := (HB.out.cell (World.block_lt_of_cell? w2 _ hx2)).trans hx2
        have p1 := eq_true i0
        have q1 := eq_true c1
        go_wp2_with (first | ((with_reducible refine gate_dst (N := 6) rfl ?_); refine box_event ?hg (N := 6) ?hd (cs := #[.int .i64 0, .int .i64 0, .int .i64 0]) (t := 36) ?hr ?_; (case hd => rfl); (case hg => rfl); (case hr => first | (go_simp; done) | (go_simp; rfl)); intro gb hg w7 hbox hb; have HO1 := Aside0.mk (Kd.R_mono (Kd.R_below (Kd.R_bound HO.out) hb) (fun k_ hk => (show k_ ≠ gb from by have := hk.2.2.1; omega))); have n0_ := Aside0.mk (below_step (by repeat (first | (with_reducible first | exact HB.out | apply below_alloc | apply pw_below_drewN | apply below_drew1) | exact HB.out)) hb); have BK := Aside0.mk hbox; have GE := Aside0.mk ((by rw [hg]; exact (below_size (by repeat (first | (with_reducible first | exact HB.out | apply below_alloc | apply pw_below_drewN | apply below_drew1) | exact HB.out))) : w2.heap.size ≤ gb)); clear HO HB; have HB := n0_; have HO := HO1; clear n0_ HO1; clear hb hbox hg; have hcz0 : w7.cell? ⟨gb, 0, none⟩ = some (.int .i64 0) := (blk_cell BK.out 0).trans rfl; have hcz1 : w7.cell? ⟨gb, 1, none⟩ = some (.int .i64 0) := (blk_cell BK.out 1).trans rfl; have hcz2 : w7.cell? ⟨gb, 2, none⟩ = some (.int .i64 0) := (blk_cell BK.out 2).trans rfl; have hfz0 := blk_frozen BK.out 0; have hfz1 := blk_frozen BK.out 1; have hfz2 := blk_frozen BK.out 2))
        have BK8 : Aside0 ((((w7.setCell ⟨gb, 0, none⟩ (.int .i64 (rd_T36 (ds_srt l0) i).f0)).setCell ⟨gb, 1, none⟩ (.int .i64 (rd_T36 (ds_srt l0) i).f1)).setCell ⟨gb, 2, none⟩ (.int .i64 (rd_T36 (ds_srt l0) i).f2)).heap[gb]? = some (.cells #[.int .i64 (rd_T36 (ds_srt l0) i).f0, .int .i64 (rd_T36 (ds_srt l0) i).f1, .int .i64 (rd_T36 (ds_srt l0) i).f2] 36 (0, 0))) := ⟨blk_put (blk_put (blk_put BK.out 0 _ rfl) 1 _ rfl) 2 _ rfl⟩
        have HB8 : Aside0 (Below w2.heap.size w2 (((w7.setCell ⟨gb, 0, none⟩ (.int .i64 (rd_T36 (ds_srt l0) i).f0)).setCell ⟨gb, 1, none⟩ (.int .i64 (rd_T36 (ds_srt l0) i).f1)).setCell ⟨gb, 2, none⟩ (.int .i64 (rd_T36 (ds_srt l0) i).f2))) := ⟨(below_set (below_set (below_set HB.out GE.out) GE.out) GE.out)⟩
        have HO8 : Aside0 (Kd.R k36 36 (((w7.setCell ⟨gb, 0, none⟩ (.int .i64 (rd_T36 (ds_srt l0) i).f0)).setCell ⟨gb, 1, none⟩ (.int .i64 (rd_T36 (ds_srt l0) i).f1)).setCell ⟨gb, 2, none⟩ (.int .i64 (rd_T36 (ds_srt l0) i).f2)) w2.heap.size (fun _ => True) u4 out) := ⟨Kd.R_mono (Kd.R_far (p := ⟨gb, 2, none⟩) (Kd.R_far (p := ⟨gb, 1, none⟩) (Kd.R_far (p := ⟨gb, 0, none⟩) HO.out (fun _ hk => hk) _) (fun _ hk => hk) _) (fun _ hk => hk) _) (fun _ _ => trivial)⟩
        clear HB HO BK hcz0 hcz1 hcz2 hfz0 hfz1 hfz2
        generalize (((w7.setCell ⟨gb, 0, none⟩ (.int .i64 (rd_T36 (ds_srt l0) i).f0)).setCell ⟨gb, 1, none⟩ (.int .i64 (rd_T36 (ds_srt l0) i).f1)).setCell ⟨gb, 2, none⟩ (.int .i64 (rd_T36 (ds_srt l0) i).f2)) = w8 at BK8 HB8 HO8 ⊢
        have HB := HB8
        have HO := HO8
        have hcz0 := (blk_cell BK8.out 0).trans rfl
        have hcz1 := (blk_cell BK8.out 1).trans rfl
        have hcz2 := (blk_cell BK8.out 2).trans rfl
        clear HB8 HO8 hx0 hx1 hx2
        by_cases c2 : i > 0
        · have c2b := decide_eq_true c2
          obtain ⟨ad', ead', hy0, hy1, hy2⟩ := at_T36 HC2.out (i - 1) (by omega) (by rw [hn]; omega)
          obtain rfl : ad = ad' := by injection ead'
          rw [show (i - 1).toNat = i.toNat - 1 by omega] at hy0 hy1 hy2
          replace hy0 := (HB.out.cell (World.block_lt_of_cell? w2 _ hy0)).trans hy0
          replace hy1 := (HB.out.cell (World.block_lt_of_cell? w2 _ hy1)).trans hy1
          replace hy2 := (HB.out.cell (World.block_lt_of_cell? w2 _ hy2)).trans hy2
          have p2 : 0 ≤ i - 1 := by omega
          have p3 : 1 ≤ i := by omega
          have q2 : i - 1 < (l0.length : Int) := by omega
          have hwr : IntKind.i64.wrap (i - 1) = i - 1 := IntWalk.i64_in (i - 1) ⟨by omega, by have := HL.out; omega⟩
          by_cases c3 : ds_eq (rd_T36 (ds_srt l0) i) (rd_T36 (ds_srt l0) (i - 1)) = true
          · have c3b : (((rd_T36 (ds_srt l0) i).f0 == (rd_T36 (ds_srt l0) (i - 1)).f0) && (((rd_T36 (ds_srt l0) i).f1 == (rd_T36 (ds_srt l0) (i - 1)).f1) && ((rd_T36 (ds_srt l0) i).f2 == (rd_T36 (ds_srt l0) (i - 1)).f2))) = true := c3
            repeat (go_quiet (fail); try go_wp2)
            go_roundg k1
            case measure => omega
            case rel => exact ⟨i + 1, out, by first | rfl | (have h_ := HL.out; have h1_ := HI.out; congr 1; unfold wrap64; omega), ⟨by have := HI.out; omega⟩, ⟨by have := HLO.out; omega⟩, ⟨by have he := HE.out; rw [ds_drop _ i i0 (by rw [hn]; exact c1)] at he; rw [ds_prev_next _ _ i0]; rw [← he]; unfold ds_prev; rw [if_pos c2, ds_dd, if_pos c3]⟩, ⟨by (with_reducible repeat (first | apply Kd.R_alloc | apply Kd.R_drewN | apply Kd.R_drew)); exact HO.out⟩, ⟨(by repeat (first | (with_reducible first | exact HB.out | apply below_alloc | apply pw_below_drewN | apply below_drew1 | refine below_set ?_ GE.out) | exact HB.out))⟩⟩
          · have c3' : ds_eq (rd_T36 (ds_srt l0) i) (rd_T36 (ds_srt l0) (i - 1)) = false := by simpa using c3
            have c3b : (((rd_T36 (ds_srt l0) i).f0 == (rd_T36 (ds_srt l0) (i - 1)).f0) && (((rd_T36 (ds_srt l0) i).f1 == (rd_T36 (ds_srt l0) (i - 1)).f1) && ((rd_T36 (ds_srt l0) i).f2 == (rd_T36 (ds_srt l0) (i - 1)).f2))) = false := c3'
            go_quiet (fail)
            go_wp2_with (first | ((with_reducible refine gate_builtin (b := .append) (xs := #[.tmp 29, .tmp 31]) rfl ?_); at_builtin; refine Kd.R_append k36 (w0 := w2) w2.heap.size rfl (.tmp 29) (.tmp 31) 23 36 (.agg #[(.int .i64 0), (.int .i64 0), (.int .i64 0)]) 24 rfl Tryd.underlying23 info36 rfl (by decide) (by omega) u4 out (rd_T36 (ds_srt l0) i) [.int .i64 (rd_T36 (ds_srt l0) i).f0, .int .i64 (rd_T36 (ds_srt l0) i).f1, .int .i64 (rd_T36 (ds_srt l0) i).f2] (fun _ => True) (fun _ => False) rfl (by first | (go_simp; done) | (go_simp; rfl)) ?aP (fun _ hk => hk.elim) ?aF ?aO ?aB ?aS ?aL ?_; (case aP => exact k36_mkM _ _ _ (rd_T36 (ds_srt l0) i)); (case aB => exact (by repeat (first | (with_reducible first | exact HB.out | apply below_alloc | apply pw_below_drewN | apply below_drew1 | refine below_set ?_ GE.out) | exact HB.out))); (case aF => exact (fun _ _ => trivial)); (case aO => exact (by (with_reducible repeat (first | apply Kd.R_alloc | apply Kd.R_drewN | apply Kd.R_drew)); exact HO.out)); (case aS => exact (below_size (by repeat (first | (with_reducible first | exact HB.out | apply below_alloc | apply pw_below_drewN | apply below_drew1 | refine below_set ?_ GE.out) | exact HB.out)))); (case aL => have := HL.out; have := HLO.out; omega); intro v139 w43 ho hb hg hat; have n0_ := Aside0.mk hb; have n1_ := Aside0.mk ho; clear HO; clear HB; have HB := n0_; have HO := n1_; clear n0_ n1_; clear ho hb hg hat))
            go_roundg k1
            case measure => omega
            case rel => exact ⟨i + 1, out ++ [(rd_T36 (ds_srt l0) i)], by first | rfl | (have h_ := HL.out; have h1_ := HI.out; congr 1; unfold wrap64; omega), ⟨by have := HI.out; omega⟩, ⟨by have := HLO.out; simp; omega⟩, ⟨by have he := HE.out; rw [ds_drop _ i i0 (by rw [hn]; exact c1)] at he; rw [ds_prev_next _ _ i0]; rw [← he, List.append_assoc]; unfold ds_prev; rw [if_pos c2, ds_dd, if_neg c3]; rfl⟩, ⟨by (with_reducible repeat (first | apply Kd.R_alloc | apply Kd.R_drewN | apply Kd.R_drew)); exact HO.out⟩, ⟨(by repeat (first | (with_reducible first | exact HB.out | apply below_alloc | apply pw_below_drewN | apply below_drew1 | refine below_set ?_ GE.out) | exact HB.out))⟩⟩
        · have c2b : decide (i > 0) = false := decide_eq_false c2
          have c2k := Aside0.mk c2
          go_quiet (fail)
          go_wp2_with (first | ((with_reducible refine gate_builtin (b := .append) (xs := #[.tmp 29, .tmp 31]) rfl ?_); at_builtin; refine Kd.R_append k36 (w0 := w2) w2.heap.size rfl (.tmp 29) (.tmp 31) 23 36 (.agg #[(.int .i64 0), (.int .i64 0), (.int .i64 0)]) 24 rfl Tryd.underlying23 info36 rfl (by decide) (by omega) u4 out (rd_T36 (ds_srt l0) i) [.int .i64 (rd_T36 (ds_srt l0) i).f0, .int .i64 (rd_T36 (ds_srt l0) i).f1, .int .i64 (rd_T36 (ds_srt l0) i).f2] (fun _ => True) (fun _ => False) rfl (by first | (go_simp; done) | (go_simp; rfl)) ?aP (fun _ hk => hk.elim) ?aF ?aO ?aB ?aS ?aL ?_; (case aP => exact k36_mkM _ _ _ (rd_T36 (ds_srt l0) i)); (case aB => exact (by repeat (first | (with_reducible first | exact HB.out | apply below_alloc | apply pw_below_drewN | apply below_drew1 | refine below_set ?_ GE.out) | exact HB.out))); (case aF => exact (fun _ _ => trivial)); (case aO => exact (by (with_reducible repeat (first | apply Kd.R_alloc | apply Kd.R_drewN | apply Kd.R_drew)); exact HO.out)); (case aS => exact (below_size (by repeat (first | (with_reducible first | exact HB.out | apply below_alloc | apply pw_below_drewN | apply below_drew1 | refine below_set ?_ GE.out) | exact HB.out)))); (case aL => have := HL.out; have := HLO.out; omega); intro v139 w43 ho hb hg hat; have n0_ := Aside0.mk hb; have n1_ := Aside0.mk ho; clear HO; clear HB; have HB := n0_; have HO := n1_; clear n0_ n1_; clear ho hb hg hat))
          go_roundg k1
          case measure => omega
          case rel => exact ⟨i + 1, out ++ [(rd_T36 (ds_srt l0) i)], by first | rfl | (have h_ := HL.out; have h1_ := HI.out; congr 1; unfold wrap64; omega), ⟨by have := HI.out; omega⟩, ⟨by have := HLO.out; simp; omega⟩, ⟨by have he := HE.out; rw [ds_drop _ i i0 (by rw [hn]; exact c1)] at he; rw [ds_prev_next _ _ i0]; rw [← he, List.append_assoc]; unfold ds_prev; rw [if_neg (show ¬ (i > 0) by have := c2k.out; omega), ds_dd]; rfl⟩, ⟨by (with_reducible repeat (first | apply Kd.R_alloc | apply Kd.R_drewN | apply Kd.R_drew)); exact HO.out⟩, ⟨(by repeat (first | (with_reducible first | exact HB.out | apply below_alloc | apply pw_below_drewN | apply below_drew1 | refine below_set ?_ GE.out) | exact HB.out))⟩⟩
      · have c1b := decide_eq_false c1
        go_wp2
        go_ret
        obtain ⟨i0, i1, i2⟩ := HI.out
        obtain rfl : i = l0.length := by omega
        have hd : (ds_srt l0).drop ((l0.length : Int)).toNat = [] := List.drop_eq_nil_of_le (by rw [ds_srt_length]; omega)
        have he := HE.out
        rw [hd] at he
        have hnil : ∀ p, ds_dd p [] = [] := fun p => by cases p <;> rfl
        rw [hnil, List.append_nil] at he
        subst he
        exact ⟨_, rfl, Kd.R_lower HO.out HB2.out.size, below_then HB2.out HB2.out.size HB.out⟩
  · rw [if_neg hl] at h
    cases h
end

end Go.Proofs.YtcbimnmpdpkefaaDoor.A
