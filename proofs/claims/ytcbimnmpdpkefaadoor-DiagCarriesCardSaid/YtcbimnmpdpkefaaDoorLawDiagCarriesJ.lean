import Derived.Test.YtcbimnmpdpkefaaDoorWWords
import Derived.Deep.Slices
import Derived.ChangeArms
import GoSem.ClaimJoined
import Derived.Test.YtcbimnmpdpkefaaDoorAx30
import Derived.Test.YtcbimnmpdpkefaaDoorAx32
import Derived.Test.YtcbimnmpdpkefaaDoorAx21
import Derived.Test.YtcbimnmpdpkefaaDoorAx35
import Derived.Test.YtcbimnmpdpkefaaDoorPureShown
import Derived.Test.YtcbimnmpdpkefaaDoorAx2
import Derived.Test.YtcbimnmpdpkefaaDoorCards
import Derived.Test.YtcbimnmpdpkefaaDoorTie
import Derived.WalkKit
import Derived.ProofKit
import Derived.OpenShut
import Derived.ShutString
import Derived.ChangeOld
import Derived.Below
import Derived.SizedLaws
import Derived.PinnedBridge
import Derived.Lay
import Derived.Lib.LaidTab
import Derived.Deep.DeepHandedRow
import Derived.SevenTiedAt
/- Arguments opened: what a reading of a value tells, as lists and structures of plain values. -/
set_option linter.unusedVariables false
set_option linter.unusedSimpArgs false
namespace Go.Proofs.YtcbimnmpdpkefaaDoorTB
open Go.RowKit Go.Deep Go.ChangeShapes Go.WideShapes Go.Proofs.YtcbimnmpdpkefaaDoorW.PrintWords

/-- Whatever reads as a value of type t is, in memory, a value of kind d, and B holds of it. -/
def Opn {α : Type} (P : Program) (w : World) (t : TypeId) (d : Kd α) (B : α → Prop) : Prop :=
  ∀ (H : Type) (enc : TypeId × Value → H) (base : Nat) (spare : Nat → Bool) (held : Bool) (fuel : Nat) (cs : List Value) (y : DataW H × List MemPlace),
    DataW.trod enc P w base spare held fuel t cs = some y → (y.1.weights P t).all (· ≤ reachBytes) = true → ∃ x, d.K w x cs ∧ B x
theorem Opn.mono {α : Type} {P : Program} {w : World} {t : TypeId} {d : Kd α} {B B' : α → Prop} (h : Opn P w t d B) (hb : ∀ x, B x → B' x) : Opn P w t d B' := by
  intro H enc base spare held fuel cs y hy hw
  obtain ⟨x, h1, h2⟩ := h H enc base spare held fuel cs y hy hw
  exact ⟨x, h1, hb x h2⟩
theorem Opn.int {P : Program} {w : World} {t : TypeId} {k : IntKind} (ht : P.underlying t = some (.int k)) : Opn P w t (Kd.int k) (fun n => (Lit.int k n).wf = true) := by
  intro H enc base spare held fuel cs y hy hw
  obtain ⟨n, rfl, rfl, hn⟩ := DataW.trod_int ht hy
  exact ⟨n, rfl, hn⟩
theorem Opn.bool {P : Program} {w : World} {t : TypeId} (ht : P.underlying t = some .bool) : Opn P w t Kd.bool (fun _ => True) := by
  intro H enc base spare held fuel cs y hy hw
  obtain ⟨n, rfl, rfl⟩ := DataW.trod_bool ht hy
  exact ⟨n, rfl, trivial⟩
theorem Opn.string {P : Program} {w : World} {t : TypeId} (ht : P.underlying t = some .string) : Opn P w t Kd.string (fun s => s.size ≤ 140737488351232) := by
  intro H enc base spare held fuel cs y hy hw
  obtain ⟨s, rfl, rfl, _⟩ := DataW.trod_string ht hy
  refine ⟨s, rfl, ?_⟩
  simp only [DataW.weights, List.all_cons, List.all_nil, Bool.and_true, decide_eq_true_eq, Array.length_toList] at hw
  exact hw
theorem list_choose {α : Type} {p : Nat → α → Prop} : ∀ (n : Nat), (∀ i, i < n → ∃ x, p i x) → ∃ xs : List α, xs.length = n ∧ ∀ i x, xs[i]? = some x → p i x
  | 0, _ => ⟨[], rfl, fun i x h => by simp at h⟩
  | n + 1, h => by
    obtain ⟨xs, hl, hx⟩ := list_choose n (fun i hi => h i (by omega))
    obtain ⟨z, hz⟩ := h n (by omega)
    refine ⟨xs ++ [z], by simp [hl], fun i x hix => ?_⟩
    rcases Nat.lt_or_ge i n with h1 | h1
    · rw [List.getElem?_append_left (by omega)] at hix
      exact hx i x hix
    · have : i = n := by
        have := (List.getElem?_eq_some_iff.1 hix).1
        simp at this; omega
      subst this
      rw [List.getElem?_append_right (by omega), hl, Nat.sub_self] at hix
      simp only [List.getElem?_cons_zero, Option.some.injEq] at hix
      exact hix ▸ hz
theorem weightsAll_get {H : Type} {P : Program} {e : TypeId} : ∀ (l : List (DataW H)) (i : Nat) (y : DataW H), (DataW.weightsAll P e l).all (· ≤ reachBytes) = true → l[i]? = some y → (y.weights P e).all (· ≤ reachBytes) = true
  | [], i, y, _, hi => by simp at hi
  | d :: r, 0, y, h, hi => by
    simp only [List.getElem?_cons_zero, Option.some.injEq] at hi
    subst hi
    simp only [DataW.weightsAll, List.all_append, Bool.and_eq_true] at h
    exact h.1
  | d :: r, i + 1, y, h, hi => by
    simp only [DataW.weightsAll, List.all_append, Bool.and_eq_true] at h
    exact weightsAll_get r i y h.2 (by simpa using hi)
theorem Opn.slice {α : Type} {P : Program} {w : World} {t e : TypeId} {d : Kd α} {B : α → Prop} (hd : Opn P w e d B) (ht : P.underlying t = some (.slice e)) (hc : P.cellsOf e = d.sz) {nb : Nat} (hnb : P.bytesOf e = nb) :
    Opn P w t (Kd.slice e d) (fun xs => xs.length * nb ≤ 140737488351232 ∧ ∀ x ∈ xs, B x) := by
  intro H enc base spare held fuel cs y hy hw
  rcases open_slice ht hy with ⟨rfl, rfl⟩ | ⟨a, len, cap, m, n, D, Pl, rfl, hb, hl, hm, hmm, rfl, hx⟩
  · exact ⟨[], ⟨none, 0, rfl, Nat.le_refl _, rfl, by simp, fun h => absurd h (by simp)⟩, by simp, by simp⟩
  · simp only [DataW.weights, ht, List.all_cons, List.all_append, Bool.and_eq_true, decide_eq_true_eq, List.length_map, List.length_range] at hw
    obtain ⟨hw1, hw2, _⟩ := hw
    have hlm : len ≤ m := by rw [hmm]; split <;> omega
    obtain ⟨xs, hxl, hxs⟩ := list_choose (p := fun i x => ∃ cs', w.cells? base (a.add (i * P.cellsOf e)) (P.cellsOf e) = some cs' ∧ d.K w x cs' ∧ B x) len (fun i hi => by
      obtain ⟨cs', h1, h2⟩ := hx i (by omega)
      obtain ⟨x, h3, h4⟩ := hd H enc base spare held n cs' (D i, Pl i) h2 (weightsAll_get _ i _ hw2 (by simp [hi]))
      exact ⟨x, cs', h1, h3, h4⟩)
    have hmx : maxLen ≤ 9223372036854775807 := by decide
    refine ⟨xs, ⟨some a, cap, by rw [hxl], by omega, rfl, by rw [hxl]; omega, fun _ => ⟨a, rfl, fun j x hj => ?_⟩⟩, ?_, fun x hx' => ?_⟩
    · obtain ⟨cs', h1, h2, _⟩ := hxs j x hj
      have hlen := d.K_len h2
      refine ⟨cs', hlen, h2, fun i u hu => ?_⟩
      obtain ⟨_, _, h3⟩ := World.cells?_some h1
      rw [hc] at h3
      have := h3 i (by rw [← hlen]; exact (List.getElem?_eq_some_iff.1 hu).1)
      rw [Go.Deep.add_add] at this
      rw [this, hu]
    · have hz : len * P.bytesOf e ≤ 140737488351232 := Nat.le_trans (Nat.mul_le_mul_right _ (by omega)) hw1
      rw [hxl, ← hnb]; exact hz
    · obtain ⟨i, hi, rfl⟩ := List.mem_iff_getElem.1 hx'
      obtain ⟨_, _, _, h⟩ := hxs i _ (List.getElem?_eq_getElem hi)
      exact h
/-- The fields of a struct, from one on. -/
def OpnF {α : Type} (P : Program) (w : World) (fs : List Field) (off : Nat) (d : Kd α) (B : α → Prop) : Prop :=
  ∀ (H : Type) (enc : TypeId × Value → H) (base : Nat) (spare : Nat → Bool) (held : Bool) (n : Nat) (cs : List Value) (xs : List (DataW H × List MemPlace)), xs.length = fs.length →
    (∀ (i : Nat) (f : Field), fs[i]? = some f → DataW.trod enc P w base spare held n f.type ((cs.drop f.offset).take (P.cellsOf f.type)) = xs[i]?) →
    (DataW.weightsEach P (fs.map (·.type)) (xs.map (·.1))).all (· ≤ reachBytes) = true → ∃ x, d.K w x ((cs.drop off).take d.sz) ∧ B x
theorem OpnF.one {α : Type} {P : Program} {w : World} {f : Field} {off : Nat} {d : Kd α} {B : α → Prop} (h : Opn P w f.type d B) (ho : f.offset = off) (hc : P.cellsOf f.type = d.sz) : OpnF P w [f] off d B := by
  intro H enc base spare held n cs xs hl hx hw
  match xs, hl with
  | [x], _ =>
    have h0 := hx 0 f rfl
    simp only [List.getElem?_cons_zero] at h0
    rw [ho, hc] at h0
    simp only [List.map_cons, List.map_nil, DataW.weightsEach, List.append_nil] at hw
    exact h H enc base spare held n _ x h0 hw
theorem OpnF.cons {α β : Type} {P : Program} {w : World} {f : Field} {fs : List Field} {off : Nat} {d : Kd α} {d' : Kd β} {B : α → Prop} {B' : β → Prop} (h : Opn P w f.type d B) (ho : f.offset = off) (hc : P.cellsOf f.type = d.sz) (hr : OpnF P w fs (off + d.sz) d' B') :
    OpnF P w (f :: fs) off (Kd.pair d d') (fun x => B x.1 ∧ B' x.2) := by
  intro H enc base spare held n cs xs hl hx hw
  match xs, hl with
  | x :: xs, hl =>
    have h0 := hx 0 f rfl
    simp only [List.getElem?_cons_zero] at h0
    rw [ho, hc] at h0
    simp only [List.map_cons, DataW.weightsEach, List.all_append, Bool.and_eq_true] at hw
    obtain ⟨p, hp1, hp2⟩ := h H enc base spare held n _ x h0 hw.1
    obtain ⟨q, hq1, hq2⟩ := hr H enc base spare held n cs xs (by simpa using hl) (fun i f' hf => by simpa using hx (i + 1) f' (by simpa using hf)) hw.2
    refine ⟨(p, q), ⟨_, _, ?_, hp1, hq1⟩, hp2, hq2⟩
    show (cs.drop off).take (d.sz + d'.sz) = _
    rw [List.take_add, List.drop_drop]
theorem Opn.struct {α : Type} {P : Program} {w : World} {t : TypeId} {fs : Array Field} {d : Kd α} {B : α → Prop} (ht : P.underlying t = some (.struct fs)) (hc : P.cellsOf t = d.sz) (h : OpnF P w fs.toList 0 d B) : Opn P w t d B := by
  intro H enc base spare held fuel cs y hy hw
  obtain ⟨xs, n, _, rfl, hl, hxl, hx⟩ := DataW.trod_struct ht hy
  simp only [DataW.weights, ht] at hw
  obtain ⟨x, h1, h2⟩ := h H enc base spare held n cs xs (by simpa using hxl) (fun i f hf => hx i f (by simpa using hf)) hw
  refine ⟨x, ?_, h2⟩
  rwa [List.drop_zero, ← hc, ← hl, List.take_length] at h1
theorem Opn.iso {α β : Type} {P : Program} {w : World} {t : TypeId} {d : Kd α} {B : α → Prop} (h : Opn P w t d B) (f : β → α) (g : α → β) (hg : ∀ x, f (g x) = x) : Opn P w t (Kd.iso d f) (fun x => B (f x)) := by
  intro H enc base spare held fuel cs y hy hw
  obtain ⟨x, h1, h2⟩ := h H enc base spare held fuel cs y hy hw
  exact ⟨g x, by show d.K w (f (g x)) cs; rwa [hg], by show B (f (g x)); rwa [hg]⟩
theorem Opn.arg {α H : Type} {P : Program} {w : World} {t : TypeId} {d : Kd α} {B : α → Prop} {enc : TypeId × Value → H} {base : Nat} {spare : Nat → Bool} {held : Bool} {v : Value} {y : DataW H} {ps : List MemPlace} (h : Opn P w t d B) (hT : DataW.Trod enc P w base spare held t v y ps)
    (hw : (y.weights P t).all (· ≤ reachBytes) = true) : ∃ x, d.K w x v.cells.toList ∧ B x := by
  obtain ⟨fuel, hf⟩ := hT
  exact h H enc base spare held fuel _ _ hf hw
end Go.Proofs.YtcbimnmpdpkefaaDoorTB

/- What is written over; words for diagnostics. -/
set_option linter.unusedVariables false
set_option linter.unusedSimpArgs false
namespace Go.Proofs.YtcbimnmpdpkefaaDoor.A
open Go.RowKit Go.Proofs.YtcbimnmpdpkefaaDoorW.PrintWords Go.Proofs.YtcbimnmpdpkefaaDoorW.PrintLast Go.Proofs.YtcbimnmpdpkefaaDoorW.PrintMore
abbrev Ds := S36
theorem wrap_inD {i : Int} {n : Nat} (h0 : 0 ≤ i) (h : i < (n : Int)) (hn : n ≤ 9223372036854775807) : wrap64 (i + 1) = i + 1 := by unfold wrap64; omega
theorem marked_l : ∀ (n k : Nat) (x0 : List Ds) (i : Int), 0 ≤ i → i + n = x0.length → n < k → x0.length < 5864062014803 → scholiastlaw20_marked.l0 k x0 x0.length i = some ()
  | 0, k, x0, i, h0, h1, h2, h3 => by
    obtain ⟨k, rfl⟩ : ∃ m, k = m + 1 := ⟨k - 1, by omega⟩
    simp only [scholiastlaw20_marked.l0]
    rw [if_neg (by omega)]
    simp only [Option.bind_some, List.length_cons, List.length_nil]
    rw [if_pos (by omega), if_pos (by simp; omega)]
  | n + 1, k, x0, i, h0, h1, h2, h3 => by
    obtain ⟨k, rfl⟩ : ∃ m, k = m + 1 := ⟨k - 1, by omega⟩
    simp only [scholiastlaw20_marked.l0]
    rw [if_pos (by omega), if_pos h0, if_pos (by omega), wrap_inD (n := x0.length) h0 (by omega) (by omega)]
    have := marked_l n k (x0.set i.toNat ⟨-7, 0, 0⟩) (i + 1) (by omega) (by simp; omega) (by omega) (by simpa using h3)
    simpa using this
theorem marked_ok (l : List Ds) (hl : l.length < 5864062014803) : ∃ k, scholiastlaw20_marked.f k l = some () :=
  ⟨l.length + 1, marked_l l.length (l.length + 1) l 0 (by omega) (by omega) (by omega) hl⟩
end Go.Proofs.YtcbimnmpdpkefaaDoor.A

/- What is lent, with something behind its end; is it as it was? -/
set_option linter.unusedVariables false
set_option linter.unusedSimpArgs false
namespace Go.Proofs.YtcbimnmpdpkefaaDoor.A
open Go.RowKit Go.Proofs.YtcbimnmpdpkefaaDoorW.PrintWords Go.Proofs.YtcbimnmpdpkefaaDoorW.PrintLast Go.Proofs.YtcbimnmpdpkefaaDoorW.PrintMore

abbrev kD := k36
def m9 : Ds := ⟨-9, 0, 0⟩
/-- The head of a row. -/
theorem C_headD {α : Type} {d : Kd α} {w : World} {A : Option Addr} {l m : List α} (h : d.C w A (l ++ m).length (l ++ m)) : d.C w A l.length l := by
  obtain ⟨_, h2, h3⟩ := h
  refine ⟨rfl, by rw [List.length_append] at h2; omega, fun h0 => ?_⟩
  obtain ⟨ad, e, hc⟩ := h3 (by rw [List.length_append]; omega)
  exact ⟨ad, e, fun j p hj => hc j p (by rw [List.getElem?_append_left (List.getElem?_eq_some_iff.1 hj).1]; exact hj)⟩
set_option maxHeartbeats 4000000 in
set_option maxRecDepth 100000 in
theorem lentD (A0 : Option Addr) (c0 : Nat) (l0 : List Ds) (w : World) (hr0 : Kd.C kD w A0 l0.length l0) (hc0 : l0.length ≤ c0) (hl : l0.length < 5864062014803) :
    Calls Tryd.prog 20 #[.slice A0 l0.length c0] w fun e w' => ∃ g cap, e = .returned (.slice (some ⟨g, 0, none⟩) l0.length cap) ∧ Kd.R kD 36 w' w.heap.size (fun _ => True) (.slice (some ⟨g, 0, none⟩) (l0 ++ [m9]).length cap) (l0 ++ [m9]) ∧ (l0 ++ [m9]).length ≤ cap ∧ Below w.heap.size w w' := by
  have HR0 := Aside0.mk hr0
  have HB := Aside0.mk (Below.refl w.heap.size w)
  clear hr0
  go_enter Tryd.func20, Tryd.ntmps20
  go_wp2_with (first
    | ((with_reducible refine gate_builtin (b := .append) (xs := #[.const (.slice none 0 0), .tmp 3]) rfl ?_); at_builtin; refine Kd.R_append_rows kD (w0 := w) w.heap.size rfl (.const (.slice none 0 0)) (.tmp 3) 23 36 (.agg #[(.int .i64 0), (.int .i64 0), (.int .i64 0)]) 24 rfl Tryd.underlying23 info36 rfl (by decide) (by omega) (.slice none 0 0) ([] : List Ds) l0 _ _ _ (fun _ => True) (fun _ => False) rfl rfl ?aO ?aR (fun _ _ h => h) (fun _ h => h.elim) ?aF ?aB ?aS ?aL ?_; (case aR => exact HR0.out); (case aB => exact HB.out); (case aF => exact (fun _ _ => trivial)); (case aO => exact ((Kd.R_nil _ _ _ _ (fun _ => True)))); (case aS => exact (below_size HB.out)); (case aL => simp only [List.length_nil]; omega); intro v6 w6 ho hb hg hat; rw [List.nil_append] at ho; have HB6 := Aside0.mk hb; have HO6 := Aside0.mk ho; clear ho hb hg hat)
    | ((with_reducible refine gate_builtin (b := .append) (xs := #[.tmp 4, .tmp 6]) rfl ?_); at_builtin; refine Kd.R_append kD (w0 := w) w.heap.size rfl (.tmp 4) (.tmp 6) 23 36 (.agg #[(.int .i64 0), (.int .i64 0), (.int .i64 0)]) 24 rfl Tryd.underlying23 info36 rfl (by decide) (by omega) v6 l0 m9 [.int .i64 (-9), .int .i64 0, .int .i64 0] (fun _ => True) (fun _ => False) rfl rfl ?aP (fun _ hk => hk.elim) ?aF ?aO ?aB ?aS ?aL ?_; (case aP => exact k36_mkM _ _ _ m9); (case aB => exact (by repeat (first | (with_reducible first | exact HB6.out | apply below_alloc | apply pw_below_drewN | apply below_drew1) | exact HB6.out))); (case aF => exact (fun _ _ => trivial)); (case aO => exact (by (with_reducible repeat (first | apply Kd.R_alloc | apply Kd.R_drewN | apply Kd.R_drew)); exact HO6.out)); (case aS => exact (below_size (by repeat (first | (with_reducible first | exact HB6.out | apply below_alloc | apply pw_below_drewN | apply below_drew1) | exact HB6.out)))); (case aL => omega); intro v7 w7 ho hb hg hat; have HB7 := Aside0.mk hb; have HO7 := Aside0.mk ho; clear ho hb hg hat; obtain ⟨gx, cx, rfl, _, _, _⟩ := Kd.R_form HO7.out (by simp); have hcx : (l0 ++ [m9]).length ≤ cx := (by obtain ⟨_, _, e, h, _⟩ := Kd.R_reads HO7.out; cases e; exact h); have HCX := Aside0.mk hcx; have p6 := eq_true (show l0.length ≤ cx by rw [List.length_append] at hcx; omega); have p7 := eq_true (show (l0.length : Int) ≤ (cx : Int) by rw [List.length_append] at hcx; omega); clear hcx))
  go_ret
  exact ⟨gx, cx, rfl, HO7.out, HCX.out, HB7.out⟩
set_option maxHeartbeats 4000000 in
set_option maxRecDepth 100000 in
theorem keptD (k : Nat) (g cap : Nat) (A1 : Option Addr) (c1 : Nat) (l0 : List Ds) (w : World) (hr0 : Kd.C kD w (some ⟨g, 0, none⟩) (l0 ++ [m9]).length (l0 ++ [m9])) (hc : (l0 ++ [m9]).length ≤ cap) (hr1 : Kd.C kD w A1 l0.length l0) (hc1 : l0.length ≤ c1) (hl : l0.length < 5864062014803) (hs : scholiastlaw20_same.f k l0 l0 = some true) :
    Calls Tryd.prog 24 #[.slice (some ⟨g, 0, none⟩) l0.length cap, .slice A1 l0.length c1] w fun e w' => e = .returned (.bool true) ∧ Below w.heap.size w w' := by
  have hsame := scholiastlaw20_same.calls k (some ⟨g, 0, none⟩) cap l0 A1 c1 l0 true w (C_headD hr0) (by rw [List.length_append] at hc; omega) hr1 hc1 hs
  have HSAME := Aside0.mk hsame
  have HR0 := Aside0.mk hr0
  have hcap : l0.length + 1 ≤ cap := by rw [List.length_append] at hc; exact hc
  clear hsame hr0 hr1 hs
  go_enter Tryd.func24, Tryd.ntmps24
  have hw1 : wrap64 ((l0.length : Int) + 1) = (l0.length : Int) + 1 := by unfold wrap64; omega
  have p5 := eq_true (show (0 : Int) ≤ (l0.length : Int) + 1 by omega)
  have p6 := eq_true hcap
  have p7 := eq_true (show (l0.length : Int) + 1 ≤ (cap : Int) by omega)
  have p8 := eq_true (show (l0.length : Int) < (l0.length : Int) + 1 by omega)
  go_wp2_with (go_at_call 23; refine HSAME.out.mono ?_; rintro e w1 ⟨rfl, ⟨n_, rfl⟩⟩; obtain ⟨ad, ead, hx, _⟩ := at_T36 (Kd.C_drewN HR0.out n_) (l0.length : Int) (by omega) (by simp; omega); obtain rfl := Option.some.inj ead; rw [show (rd_T36 (l0 ++ [m9]) (l0.length : Int)).f0 = -9 by unfold rd_T36; rw [List.getD_eq_getElem?_getD, Int.toNat_natCast, List.getElem?_append_right (Nat.le_refl _), Nat.sub_self]; rfl, Int.toNat_natCast, add_plain] at hx)
  go_ret
  exact ⟨rfl, pw_below_drewN (Below.refl _ _) _⟩
theorem same_lS (l : List Ds) (hl : l.length ≤ 5864062014805) : ∀ (n : Nat) (i : Int), 0 ≤ i → i + n = l.length → ∃ k, scholiastlaw20_same.l0 k l l l.length i = some true
  | 0, i, h0, h1 => ⟨1, by simp only [scholiastlaw20_same.l0]; rw [if_neg (by omega)]⟩
  | n + 1, i, h0, h1 => by
    obtain ⟨k, hk⟩ := same_lS l hl n (i + 1) (by omega) (by omega)
    refine ⟨k + 1, ?_⟩
    simp only [scholiastlaw20_same.l0]
    rw [if_pos (by omega), if_pos h0, if_pos (by omega), if_pos (by omega), wrap_inD (n := l.length) h0 (by omega) (by omega), hk]
    simp
theorem same_reflS (l : List Ds) (hl : l.length ≤ 5864062014805) : ∃ k, scholiastlaw20_same.f k l l = some true := by
  obtain ⟨k, hk⟩ := same_lS l hl l.length 0 (by omega) (by omega)
  exact ⟨k, by unfold scholiastlaw20_same.f; rw [if_pos rfl, hk]⟩
theorem drawn_below {w w' : World} (h : Drawn0 w w') : Below w.heap.size w w' := by
  obtain ⟨n, rfl⟩ := h
  exact pw_below_drewN (Below.refl _ _) _
theorem R_C {w : World} {base : Nat} {ok : Nat → Prop} {A : Option Addr} {n c : Nat} {xs : List Ds} (h : Kd.R kD 36 w base ok (.slice A n c) xs) (e : xs.length = n) : Kd.C kD w A xs.length xs ∧ xs.length ≤ c := by
  subst e
  obtain ⟨_, _, e, h1, h2⟩ := Kd.R_reads h
  cases e
  exact ⟨h2, h1⟩
end Go.Proofs.YtcbimnmpdpkefaaDoor.A

/- diag.Carry in plain words. -/
set_option linter.unusedVariables false
set_option linter.unusedSimpArgs false
namespace Go.Proofs.YtcbimnmpdpkefaaDoor.A
open Go.RowKit Go.Proofs.YtcbimnmpdpkefaaDoorW.PrintWords Go.Proofs.YtcbimnmpdpkefaaDoorW.PrintLast Go.Proofs.YtcbimnmpdpkefaaDoorW.PrintMore

abbrev Dg := S36
abbrev Eg := S43
/-- Edits one behind the other. -/
def okE : Int → List Eg → Bool
  | _, [] => true
  | e, x :: l => if x.f0 < e then false else if x.f1 < x.f0 then false else okE x.f1 l
/-- By how much a diagnostic moves; none: an edit meets it. -/
def cv (d : Dg) : List Eg → Int → Option Int
  | [], b => some b
  | x :: l, b => if x.f0 < d.f2 ∧ x.f1 > d.f1 then none else if x.f1 ≤ d.f1 then cv d l (wrap64 (b + wrap64 ((x.f2.size : Int) - wrap64 (x.f1 - x.f0)))) else cv d l b
def cd (es : List Eg) (d : Dg) : Option Dg := (cv d es 0).map fun b => ⟨d.f0, wrap64 (d.f1 + b), wrap64 (d.f2 + b)⟩
def carry (l : List Dg) (es : List Eg) : List Dg × Int := if okE 0 es = true then (l.filterMap (cd es), 0) else ([], 10)
theorem drop_D (l : List Dg) (i : Int) (h0 : 0 ≤ i) (h1 : i < (l.length : Int)) : l.drop i.toNat = rd_T36 l i :: l.drop (i + 1).toNat := by
  have hl : i.toNat < l.length := by omega
  rw [List.drop_eq_getElem_cons hl, show (i + 1).toNat = i.toNat + 1 by omega]
  unfold rd_T36
  rw [List.getD_eq_getElem?_getD, List.getElem?_eq_getElem hl]
  rfl
theorem drop_E (l : List Eg) (i : Int) (h0 : 0 ≤ i) (h1 : i < (l.length : Int)) : l.drop i.toNat = rd_T43 l i :: l.drop (i + 1).toNat := by
  have hl : i.toNat < l.length := by omega
  rw [List.drop_eq_getElem_cons hl, show (i + 1).toNat = i.toNat + 1 by omega]
  unfold rd_T43
  rw [List.getD_eq_getElem?_getD, List.getElem?_eq_getElem hl]
  rfl
theorem wrap_in {i : Int} {n : Nat} (h0 : 0 ≤ i) (h : i < (n : Int)) (hn : n ≤ 9223372036854775807) : wrap64 (i + 1) = i + 1 := by unfold wrap64; omega

theorem carry_l2 (es : List Eg) (he : es.length ≤ 4398046511104) (acc l : List Dg) (len i : Int) (d : Dg) (R : List Dg × Int) (next : List Dg → Prop)
    (hnext : ∀ a, next a → ∃ k, diag_Carry.l1 k es a l len (wrap64 (i + 1)) = some R) (hacc : acc.length < 5864062014805) :
    ∀ (n : Nat) (j b : Int), 0 ≤ j → j + n = es.length →
    (match cv d (es.drop j.toNat) b with | none => next acc | some b' => next (acc ++ [⟨d.f0, wrap64 (d.f1 + b'), wrap64 (d.f2 + b')⟩])) →
    ∃ k, diag_Carry.l2 k es acc b l len i es es.length j d.f0 d.f1 d.f2 = some R
  | 0, j, b, h0, h1, h => by
    rw [List.drop_eq_nil_of_le (by omega)] at h
    simp only [cv] at h
    obtain ⟨k, hk⟩ := hnext _ h
    exact ⟨k + 1, by simp only [diag_Carry.l2]; rw [if_neg (by omega), if_pos hacc]; exact hk⟩
  | n + 1, j, b, h0, h1, h => by
    rw [drop_E es j h0 (by omega)] at h
    simp only [cv] at h
    have ew := wrap_in (n := es.length) h0 (by omega) (by omega)
    by_cases c1 : (rd_T43 es j).f0 < d.f2 ∧ (rd_T43 es j).f1 > d.f1
    · rw [if_pos c1] at h
      obtain ⟨k, hk⟩ := hnext _ h
      refine ⟨k + 2, ?_⟩
      simp only [diag_Carry.l2]
      rw [if_pos (by omega), if_pos h0, if_pos (by omega), if_pos c1.1, decide_eq_true c1.2]
      simp only [diag_Carry.j3, if_true]
      exact hk
    · rw [if_neg c1] at h
      have hb : ∀ k, (if (rd_T43 es j).f0 < d.f2 then (diag_Carry.j3 (k + 1) es acc b l len i es es.length j (decide ((rd_T43 es j).f1 > d.f1)) d.f0 d.f1 d.f2 (rd_T43 es j).f0 (rd_T43 es j).f1 (rd_T43 es j).f2) else (diag_Carry.j3 (k + 1) es acc b l len i es es.length j false d.f0 d.f1 d.f2 (rd_T43 es j).f0 (rd_T43 es j).f1 (rd_T43 es j).f2)) = diag_Carry.j3 (k + 1) es acc b l len i es es.length j false d.f0 d.f1 d.f2 (rd_T43 es j).f0 (rd_T43 es j).f1 (rd_T43 es j).f2 := by
        intro k
        split
        · rename_i c2
          rw [decide_eq_false (by omega)]
        · rfl
      by_cases c3 : (rd_T43 es j).f1 ≤ d.f1
      · rw [if_pos c3] at h
        obtain ⟨k, hk⟩ := carry_l2 es he acc l len i d R next hnext hacc n (j + 1) _ (by omega) (by omega) h
        refine ⟨k + 2, ?_⟩
        simp only [diag_Carry.l2]
        rw [if_pos (by omega), if_pos h0, if_pos (by omega), hb]
        simp only [diag_Carry.j3, Bool.false_eq_true, if_false]
        rw [if_pos c3, ew]; exact hk
      · rw [if_neg c3] at h
        obtain ⟨k, hk⟩ := carry_l2 es he acc l len i d R next hnext hacc n (j + 1) _ (by omega) (by omega) h
        refine ⟨k + 2, ?_⟩
        simp only [diag_Carry.l2]
        rw [if_pos (by omega), if_pos h0, if_pos (by omega), hb]
        simp only [diag_Carry.j3, Bool.false_eq_true, if_false]
        rw [if_neg c3, ew]; exact hk
theorem carry_l1 (es : List Eg) (he : es.length ≤ 4398046511104) (l : List Dg) (hl : l.length ≤ 5864062014805) : ∀ (n : Nat) (i : Int) (acc : List Dg), 0 ≤ i → i + n = l.length → (acc.length : Int) ≤ i →
    ∃ k, diag_Carry.l1 k es acc l l.length i = some (acc ++ (l.drop i.toNat).filterMap (cd es), 0)
  | 0, i, acc, h0, h1, h2 => ⟨1, by simp only [diag_Carry.l1]; rw [if_neg (by omega), List.drop_eq_nil_of_le (by omega)]; simp⟩
  | n + 1, i, acc, h0, h1, h2 => by
    have hd := drop_D l i h0 (by omega)
    have ew := wrap_in (n := l.length) h0 (by omega) (by omega)
    have hR : ∃ k, diag_Carry.l2 k es acc 0 l l.length i es es.length 0 (rd_T36 l i).f0 (rd_T36 l i).f1 (rd_T36 l i).f2 = some (acc ++ (l.drop i.toNat).filterMap (cd es), 0) := by
      refine carry_l2 es he acc l l.length i (rd_T36 l i) _ (fun a => (a.length : Int) ≤ i + 1 ∧ a ++ (l.drop (i + 1).toNat).filterMap (cd es) = acc ++ (l.drop i.toNat).filterMap (cd es)) (fun a ha => ?_) (by omega) es.length 0 0 (by omega) (by omega) ?_
      · obtain ⟨k, hk⟩ := carry_l1 es he l hl n (i + 1) a (by omega) (by omega) ha.1
        exact ⟨k, by rw [ew, hk, ha.2]⟩
      · rw [hd]
        simp only [Int.toNat_zero, List.drop_zero, List.filterMap_cons, cd]
        cases cv (rd_T36 l i) es 0 with
        | none => exact ⟨by omega, rfl⟩
        | some b' => exact ⟨by simp; omega, by simp⟩
    obtain ⟨k, hk⟩ := hR
    exact ⟨k + 1, by simp only [diag_Carry.l1]; rw [if_pos (by omega), if_pos h0, if_pos (by omega)]; exact hk⟩
theorem carry_l0 (es : List Eg) (he : es.length ≤ 4398046511104) (l : List Dg) (hl : l.length ≤ 5864062014805) : ∀ (n : Nat) (j e : Int), 0 ≤ j → j + n = es.length →
    ∃ k, diag_Carry.l0 k l es e es es.length j = some (if okE e (es.drop j.toNat) = true then (l.filterMap (cd es), 0) else ([], 10))
  | 0, j, e, h0, h1 => by
    obtain ⟨k, hk⟩ := carry_l1 es he l hl l.length 0 [] (by omega) (by omega) (by simp)
    refine ⟨k + 1, ?_⟩
    simp only [diag_Carry.l0]
    rw [if_neg (by omega), List.drop_eq_nil_of_le (by omega : es.length ≤ j.toNat)]
    simp only [okE, if_true]
    simpa using hk
  | n + 1, j, e, h0, h1 => by
    rw [drop_E es j h0 (by omega)]
    simp only [okE]
    have ew := wrap_in (n := es.length) h0 (by omega) (by omega)
    by_cases c1 : (rd_T43 es j).f0 < e
    · exact ⟨1, by simp only [diag_Carry.l0]; rw [if_pos (by omega), if_pos h0, if_pos (by omega), if_pos c1]; simp [c1]⟩
    · by_cases c2 : (rd_T43 es j).f1 < (rd_T43 es j).f0
      · exact ⟨1, by simp only [diag_Carry.l0]; rw [if_pos (by omega), if_pos h0, if_pos (by omega), if_neg c1, if_pos c2]; simp [c1, c2]⟩
      · obtain ⟨k, hk⟩ := carry_l0 es he l hl n (j + 1) (rd_T43 es j).f1 (by omega) (by omega)
        refine ⟨k + 1, ?_⟩
        simp only [diag_Carry.l0]
        rw [if_pos (by omega), if_pos h0, if_pos (by omega), if_neg c1, if_neg c2, ew, hk]
        simp only [c1, c2, if_false]
theorem carry_ok (l : List Dg) (es : List Eg) (hl : l.length ≤ 5864062014805) (he : es.length ≤ 4398046511104) : ∃ k, diag_Carry.f k l es = some (carry l es) := by
  obtain ⟨k, hk⟩ := carry_l0 es he l hl es.length 0 0 (by omega) (by omega)
  refine ⟨k, ?_⟩
  unfold diag_Carry.f carry
  rw [hk]
  simp
theorem rcarry_l2m (es : List Eg) (he : es.length ≤ 4398046511104) (acc l : List Dg) (len i : Int) (d : Dg) (R : List Dg × Int) (hnext : ∃ k, scholiastref20_Carry.l1 k es acc l len (wrap64 (i + 1)) = some R) :
    ∀ (n : Nat) (j b : Int), 0 ≤ j → j + n = es.length → ∃ k, scholiastref20_Carry.l2 k es acc b true l len i es es.length j d.f0 d.f1 d.f2 = some R
  | 0, j, b, h0, h1 => by
    obtain ⟨k, hk⟩ := hnext
    exact ⟨k + 1, by simp only [scholiastref20_Carry.l2]; rw [if_neg (by omega)]; simpa using hk⟩
  | n + 1, j, b, h0, h1 => by
    have ew := wrap_in (n := es.length) h0 (by omega) (by omega)
    by_cases c3 : (rd_T43 es j).f1 ≤ d.f1
    · obtain ⟨k, hk⟩ := rcarry_l2m es he acc l len i d R hnext n (j + 1) (wrap64 (b + wrap64 (((rd_T43 es j).f2.size : Int) - wrap64 ((rd_T43 es j).f1 - (rd_T43 es j).f0)))) (by omega) (by omega)
      refine ⟨k + 1, ?_⟩
      simp only [scholiastref20_Carry.l2, if_true]
      rw [if_pos (by omega), if_pos h0, if_pos (by omega), if_pos c3, ew]; exact hk
    · obtain ⟨k, hk⟩ := rcarry_l2m es he acc l len i d R hnext n (j + 1) b (by omega) (by omega)
      refine ⟨k + 1, ?_⟩
      simp only [scholiastref20_Carry.l2, if_true]
      rw [if_pos (by omega), if_pos h0, if_pos (by omega), if_neg c3, ew]; exact hk
theorem rcarry_l2 (es : List Eg) (he : es.length ≤ 4398046511104) (acc l : List Dg) (len i : Int) (d : Dg) (R : List Dg × Int) (next : List Dg → Prop)
    (hnext : ∀ a, next a → ∃ k, scholiastref20_Carry.l1 k es a l len (wrap64 (i + 1)) = some R) (hacc : acc.length < 5864062014805) :
    ∀ (n : Nat) (j b : Int), 0 ≤ j → j + n = es.length →
    (match cv d (es.drop j.toNat) b with | none => next acc | some b' => next (acc ++ [⟨d.f0, wrap64 (d.f1 + b'), wrap64 (d.f2 + b')⟩])) →
    ∃ k, scholiastref20_Carry.l2 k es acc b false l len i es es.length j d.f0 d.f1 d.f2 = some R
  | 0, j, b, h0, h1, h => by
    rw [List.drop_eq_nil_of_le (by omega)] at h
    simp only [cv] at h
    obtain ⟨k, hk⟩ := hnext _ h
    exact ⟨k + 1, by simp only [scholiastref20_Carry.l2]; rw [if_neg (by omega)]; simp only [Bool.false_eq_true, if_false]; rw [if_pos hacc]; exact hk⟩
  | n + 1, j, b, h0, h1, h => by
    rw [drop_E es j h0 (by omega)] at h
    simp only [cv] at h
    have ew := wrap_in (n := es.length) h0 (by omega) (by omega)
    by_cases c1 : (rd_T43 es j).f0 < d.f2 ∧ (rd_T43 es j).f1 > d.f1
    · rw [if_pos c1] at h
      obtain ⟨k, hk⟩ := rcarry_l2m es he acc l len i d R (hnext _ h) n (j + 1) b (by omega) (by omega)
      refine ⟨k + 1, ?_⟩
      simp only [scholiastref20_Carry.l2, Bool.false_eq_true, if_false]
      rw [if_pos (by omega), if_pos h0, if_pos (by omega), if_pos c1.1, if_neg (by omega), decide_eq_true c1.2, ew]
      exact hk
    · rw [if_neg c1] at h
      by_cases c3 : (rd_T43 es j).f1 ≤ d.f1
      · rw [if_pos c3] at h
        obtain ⟨k, hk⟩ := rcarry_l2 es he acc l len i d R next hnext hacc n (j + 1) _ (by omega) (by omega) h
        refine ⟨k + 1, ?_⟩
        simp only [scholiastref20_Carry.l2, Bool.false_eq_true, if_false]
        rw [if_pos (by omega), if_pos h0, if_pos (by omega), if_pos c3, ew, decide_eq_false (by omega : ¬ (rd_T43 es j).f1 > d.f1)]
        simp only [if_pos c3, ite_self]
        exact hk
      · rw [if_neg c3] at h
        obtain ⟨k, hk⟩ := rcarry_l2 es he acc l len i d R next hnext hacc n (j + 1) _ (by omega) (by omega) h
        refine ⟨k + 1, ?_⟩
        simp only [scholiastref20_Carry.l2, Bool.false_eq_true, if_false]
        rw [if_pos (by omega), if_pos h0, if_pos (by omega), if_neg (fun c2 => c1 ⟨c2, by omega⟩), if_neg c3, ew]
        exact hk
theorem rcarry_l1 (es : List Eg) (he : es.length ≤ 4398046511104) (l : List Dg) (hl : l.length ≤ 5864062014805) : ∀ (n : Nat) (i : Int) (acc : List Dg), 0 ≤ i → i + n = l.length → (acc.length : Int) ≤ i →
    ∃ k, scholiastref20_Carry.l1 k es acc l l.length i = some (acc ++ (l.drop i.toNat).filterMap (cd es), 0)
  | 0, i, acc, h0, h1, h2 => ⟨1, by simp only [scholiastref20_Carry.l1]; rw [if_neg (by omega), List.drop_eq_nil_of_le (by omega)]; simp⟩
  | n + 1, i, acc, h0, h1, h2 => by
    have hd := drop_D l i h0 (by omega)
    have ew := wrap_in (n := l.length) h0 (by omega) (by omega)
    have hR : ∃ k, scholiastref20_Carry.l2 k es acc 0 false l l.length i es es.length 0 (rd_T36 l i).f0 (rd_T36 l i).f1 (rd_T36 l i).f2 = some (acc ++ (l.drop i.toNat).filterMap (cd es), 0) := by
      refine rcarry_l2 es he acc l l.length i (rd_T36 l i) _ (fun a => (a.length : Int) ≤ i + 1 ∧ a ++ (l.drop (i + 1).toNat).filterMap (cd es) = acc ++ (l.drop i.toNat).filterMap (cd es)) (fun a ha => ?_) (by omega) es.length 0 0 (by omega) (by omega) ?_
      · obtain ⟨k, hk⟩ := rcarry_l1 es he l hl n (i + 1) a (by omega) (by omega) ha.1
        exact ⟨k, by rw [ew, hk, ha.2]⟩
      · rw [hd]
        simp only [Int.toNat_zero, List.drop_zero, List.filterMap_cons, cd]
        cases cv (rd_T36 l i) es 0 with
        | none => exact ⟨by omega, rfl⟩
        | some b' => exact ⟨by simp; omega, by simp⟩
    obtain ⟨k, hk⟩ := hR
    exact ⟨k + 1, by simp only [scholiastref20_Carry.l1]; rw [if_pos (by omega), if_pos h0, if_pos (by omega)]; exact hk⟩
theorem rcarry_l0 (es : List Eg) (he : es.length ≤ 4398046511104) (l : List Dg) (hl : l.length ≤ 5864062014805) : ∀ (n : Nat) (j e : Int), 0 ≤ j → j + n = es.length →
    ∃ k, scholiastref20_Carry.l0 k l es e es es.length j = some (if okE e (es.drop j.toNat) = true then (l.filterMap (cd es), 0) else ([], 10))
  | 0, j, e, h0, h1 => by
    obtain ⟨k, hk⟩ := rcarry_l1 es he l hl l.length 0 [] (by omega) (by omega) (by simp)
    refine ⟨k + 1, ?_⟩
    simp only [scholiastref20_Carry.l0]
    rw [if_neg (by omega), List.drop_eq_nil_of_le (by omega : es.length ≤ j.toNat)]
    simp only [okE, if_true]
    simpa using hk
  | n + 1, j, e, h0, h1 => by
    rw [drop_E es j h0 (by omega)]
    simp only [okE]
    have ew := wrap_in (n := es.length) h0 (by omega) (by omega)
    by_cases c1 : (rd_T43 es j).f0 < e
    · exact ⟨1, by simp only [scholiastref20_Carry.l0]; rw [if_pos (by omega), if_pos h0, if_pos (by omega), if_pos c1]; simp [c1]⟩
    · by_cases c2 : (rd_T43 es j).f1 < (rd_T43 es j).f0
      · exact ⟨1, by simp only [scholiastref20_Carry.l0]; rw [if_pos (by omega), if_pos h0, if_pos (by omega), if_neg c1, if_pos c2]; simp [c1, c2]⟩
      · obtain ⟨k, hk⟩ := rcarry_l0 es he l hl n (j + 1) (rd_T43 es j).f1 (by omega) (by omega)
        refine ⟨k + 1, ?_⟩
        simp only [scholiastref20_Carry.l0]
        rw [if_pos (by omega), if_pos h0, if_pos (by omega), if_neg c1, if_neg c2, ew, hk]
        simp only [c1, c2, if_false]
theorem rcarry_ok (l : List Dg) (es : List Eg) (hl : l.length ≤ 5864062014805) (he : es.length ≤ 4398046511104) : ∃ k, scholiastref20_Carry.f k l es = some (carry l es) := by
  obtain ⟨k, hk⟩ := rcarry_l0 es he l hl es.length 0 0 (by omega) (by omega)
  refine ⟨k, ?_⟩
  unfold scholiastref20_Carry.f carry
  rw [hk]
  simp
end Go.Proofs.YtcbimnmpdpkefaaDoor.A

/- DiagCarries: the walk. -/
set_option linter.unusedVariables false
set_option linter.unusedSimpArgs false
namespace Go.Proofs.YtcbimnmpdpkefaaDoor.A
open Go.RowKit Go.Proofs.YtcbimnmpdpkefaaDoorW.PrintWords Go.Proofs.YtcbimnmpdpkefaaDoorW.PrintLast Go.Proofs.YtcbimnmpdpkefaaDoorW.PrintMore
abbrev kEd := k43
attribute [local go_sem high] eqA43
theorem carry_length (l : List Dg) (es : List Eg) : (carry l es).1.length ≤ l.length := by
  unfold carry
  split
  · exact List.length_filterMap_le _ _
  · simp
set_option maxHeartbeats 8000000 in
set_option maxRecDepth 100000 in
theorem carries_walk (A0 : Option Addr) (c0 : Nat) (l : List Ds) (A1 : Option Addr) (c1 : Nat) (es : List Eg) (w : World) (hG : GlobP w) (hr0 : Kd.C kD w A0 l.length l) (hc0 : l.length ≤ c0) (hl : l.length < 5864062014800) (hr1 : Kd.C kEd w A1 es.length es) (hc1 : es.length ≤ c1) (he : es.length ≤ 4398046511104) :
    Calls Tryd.prog 7 #[.slice A0 l.length c0, .slice A1 es.length c1] w fun e w' => e = .returned (.bool true) ∧ Below w.heap.size w w' := by
  have hcl := carry_length l es
  obtain ⟨kc, hkc⟩ := carry_ok l es (by omega) he
  obtain ⟨kr, hkr⟩ := rcarry_ok l es (by omega) he
  generalize carry l es = cr at *
  obtain ⟨cl, cn⟩ := cr
  dsimp only at hcl
  obtain ⟨ks, hks⟩ := same_reflS cl (by omega)
  obtain ⟨kl, hkl⟩ := same_reflS l (by omega)
  obtain ⟨km, hkm⟩ := marked_ok cl (by omega)
  have HSH := Aside0.mk (scholiastlaw20_shown.calls 20 true w hG shown_true)
  have HR0 := Aside0.mk hr0
  have HR1 := Aside0.mk hr1
  have HKC := Aside0.mk hkc
  have HKR := Aside0.mk hkr
  have HKS := Aside0.mk hks
  have HKL := Aside0.mk hkl
  have HKM := Aside0.mk hkm
  clear hr0 hr1 hG hkc hkr hks hkl hkm
  go_enter Tryd.func7, Tryd.ntmps7
  go_upto_region 3 with (go_at_call 15; refine HSH.out.mono ?_; rintro e w1 ⟨rfl, hB⟩; have HB1 := Aside0.mk hB; clear hB)
  have HL1 := Aside0.mk (lentD A0 c0 l w1 (Kd.C_below HR0.out HB1.out) hc0 (by omega))
  go_upto_region 4 with (go_at_call 20; refine HL1.out.mono ?_; rintro e w2 ⟨g, cap, rfl, hR, hcap, hB⟩; have HO2 := Aside0.mk (R_C hR rfl).1; have HCAP := Aside0.mk hcap; have HB12 := Aside0.mk hB; have HB2 := Aside0.mk (below_then HB1.out HB1.out.size hB); clear hR hcap hB)
  have hcap2 : l.length ≤ cap := by have := HCAP.out; rw [List.length_append] at this; omega
  have HB22 := Aside0.mk (Below.refl w2.heap.size w2)
  go_upto_region 5 with ((with_reducible refine gate_builtin (b := .append) (xs := #[.const (.slice none 0 0), .tmp 16]) rfl ?_); at_builtin; refine Kd.R_append_rows kEd (w0 := w2) w2.heap.size rfl (.const (.slice none 0 0)) (.tmp 16) 38 43 (.agg #[(.int .i64 0), (.int .i64 0), (.string ⟨#[]⟩)]) 32 rfl Tryd.underlying38 info43 rfl (by decide) (by omega) (.slice none 0 0) ([] : List Eg) es _ _ _ (fun _ => True) (fun _ => False) rfl rfl ?aO ?aR (fun _ _ h => h) (fun _ h => h.elim) ?aF ?aB ?aS ?aL ?_; (case aR => exact Kd.C_below HR1.out HB2.out); (case aB => exact HB22.out); (case aF => exact (fun _ _ => trivial)); (case aO => exact ((Kd.R_nil _ _ _ _ (fun _ => True)))); (case aS => exact (below_size HB22.out)); (case aL => simp only [List.length_nil]; omega); intro v3 w3 ho hb hg hat; rw [List.nil_append] at ho; obtain ⟨Ay, cy, rfl⟩ := Kd.R_slice ho; have HB23 := Aside0.mk hb; have HOY := Aside0.mk ho; clear ho hb hg hat)
  have hCY : Kd.C kEd w3 Ay es.length es ∧ es.length ≤ cy := by obtain ⟨_, _, e, h1, h2⟩ := Kd.R_reads HOY.out; cases e; exact ⟨h2, h1⟩
  have HCY := Aside0.mk hCY
  have HSA := Aside0.mk (diag_Carry.calls kc (some ⟨g, 0, none⟩) cap l Ay cy es cl cn w3 (C_headD (Kd.C_below HO2.out HB23.out)) hcap2 hCY.1 hCY.2 HKC.out)
  clear hCY HL1 HSH
  go_upto_region 6 with (go_at_call 27; refine HSA.out.mono ?_; rintro e w4 ⟨va, rfl, hR, hB⟩; obtain ⟨Aa, ca, rfl⟩ := Kd.R_slice hR; have HRA := Aside0.mk hR; have HB34 := Aside0.mk hB; have HB24 := Aside0.mk (below_then HB23.out HB23.out.size hB); clear hR hB)
  have HB4 := Aside0.mk (below_then HB2.out HB2.out.size HB24.out)
  have HSW := Aside0.mk (scholiastref20_Carry.calls kr A0 c0 l A1 c1 es cl cn w4 (Kd.C_below HR0.out HB4.out) hc0 (Kd.C_below HR1.out HB4.out) hc1 HKR.out)
  go_upto_region 7 with (go_at_call 28; refine HSW.out.mono ?_; rintro e w5 ⟨vw, rfl, hR, hB⟩; obtain ⟨Aw, cw, rfl⟩ := Kd.R_slice hR; have HRW := Aside0.mk hR; have HB45 := Aside0.mk hB; have HB25 := Aside0.mk (below_then HB24.out HB24.out.size hB); clear hR hB)
  have HRA5 := Aside0.mk (Kd.R_below (Kd.R_mono (Kd.R_bound HRA.out) (ok' := fun k => w3.heap.size ≤ k ∧ k < w4.heap.size) (fun k hk => ⟨hk.2.1, hk.2.2.1⟩)) HB45.out)
  have HCY5 := Aside0.mk (Kd.C_below HCY.out.1 (below_then HB34.out HB34.out.size HB45.out))
  have HB35 := Aside0.mk (below_then HB34.out HB34.out.size HB45.out)
  have HS1 := Aside0.mk (scholiastlaw20_same.calls ks Aa ca cl Aw cw cl true w5 (R_C HRA5.out rfl).1 (R_C HRA5.out rfl).2 (R_C HRW.out rfl).1 (R_C HRW.out rfl).2 HKS.out)
  have HSZ4 := Aside0.mk HB45.out.size
  clear HRA HSA HSW HB34 HB45
  go_upto_region 9 with (first
    | (go_at_call 23; refine HS1.out.mono ?_; rintro e w6 ⟨rfl, hd⟩; have HB56 := Aside0.mk (drawn_below hd); have HK6 := Aside0.mk (keptD kl g cap A0 c0 l w6 (Kd.C_below HO2.out (below_then HB25.out HB25.out.size (drawn_below hd))) HCAP.out (Kd.C_below HR0.out (below_then HB2.out HB2.out.size (below_then HB25.out HB25.out.size (drawn_below hd)))) hc0 (by omega) HKL.out); clear hd)
    | (go_at_call 24; refine HK6.out.mono ?_; rintro e w7 ⟨rfl, hB⟩; have HB57 := Aside0.mk (below_then HB56.out HB56.out.size hB); clear hB))
  have HB37 := Aside0.mk (below_then HB35.out HB35.out.size HB57.out)
  clear HK6 HS1
  go_wp2
  go_loopg [47] (es.length + 1) (fun kq v47 w' => ∃ (i : Int), v47 = .int .i64 i ∧ Aside0 (0 ≤ i ∧ i ≤ (es.length : Int) ∧ (es.length : Int) - i < kq) ∧ Aside0 (Below w7.heap.size w7 w'))
  case atStart => exact ⟨0, rfl, ⟨by omega⟩, ⟨Below.refl _ _⟩⟩
  case round =>
    obtain ⟨i, rfl, HI, HB⟩ := hrel
    obtain ⟨k1, rfl⟩ : ∃ k1, gk = k1 + 1 := ⟨gk - 1, by have := HI.out; omega⟩
    have HB3r := Aside0.mk (below_then HB37.out HB37.out.size HB.out)
    have HB2r := Aside0.mk (below_then HB23.out HB23.out.size HB3r.out)
    have HBr := Aside0.mk (below_then HB2.out HB2.out.size HB2r.out)
    by_cases c2 : i < (es.length : Int)
    · have c2b := decide_eq_true c2
      obtain ⟨i0, i1, i2⟩ := HI.out
      obtain ⟨ay, eay, hy0, hy1, hy2⟩ := at_T43 (Kd.C_below HCY.out.1 HB3r.out) i i0 c2
      obtain ⟨ad, ead, hx0, hx1, hx2⟩ := at_T43 (Kd.C_below HR1.out HBr.out) i i0 c2
      subst eay
      subst ead
      have p1 := eq_true i0
      have q1 := eq_true c2
      generalize rd_T43 es i = x at *
      obtain ⟨x0, x1, x2⟩ := x
      dsimp only at hx0 hx1 hx2 hy0 hy1 hy2
      go_wp2
      repeat (go_quiet (fail); try go_wp2)
      go_roundg k1
      case measure => omega
      case rel => exact ⟨i + 1, by first | rfl | (congr 1; unfold wrap64; omega), ⟨by omega⟩, ⟨(by repeat (first | (with_reducible first | exact HB.out | apply below_alloc | apply pw_below_drewN | apply below_drew1) | exact HB.out))⟩⟩
    · have c2b := decide_eq_false c2
      have HMK := Aside0.mk (scholiastlaw20_marked.calls km (fun k => w3.heap.size ≤ k ∧ k < w5.heap.size) (.slice Aa cl.length ca) cl w3 wr HB3r.out (Kd.R_mono (Kd.R_below HRA5.out (below_then HB57.out HB57.out.size HB.out)) (fun k hk => ⟨hk.1, by have := HB25.out.size; have h5 : w4.heap.size ≤ w5.heap.size := HSZ4.out; omega⟩)) HKM.out)
      go_wp2_with (first
        | (go_at_call 25; refine HMK.out.mono ?_; rintro e w8 ⟨rfl, hB8, _⟩; have HB28 := Aside0.mk (below_then HB23.out HB23.out.size hB8); have HB8 := Aside0.mk (below_then HB2.out HB2.out.size (below_then HB23.out HB23.out.size hB8)); have HK8 := Aside0.mk (keptD kl g cap A0 c0 l w8 (Kd.C_below HO2.out (below_then HB23.out HB23.out.size hB8)) HCAP.out (Kd.C_below HR0.out (below_then HB2.out HB2.out.size (below_then HB23.out HB23.out.size hB8))) hc0 (by omega) HKL.out); clear hB8)
        | (go_at_call 24; refine HK8.out.mono ?_; rintro e w9 ⟨rfl, hB⟩; have HB9 := Aside0.mk (below_then HB8.out HB8.out.size hB); clear hB))
      repeat (go_quiet (fail); try go_wp2)
      go_ret
      exact ⟨rfl, HB9.out⟩
end Go.Proofs.YtcbimnmpdpkefaaDoor.A

/- DiagCarries: any diagnostics are carried over any edits as the document says, what came in stays, what comes out is the caller's. Conditions: none beyond the card's own. -/
namespace Go.Proofs.YtcbimnmpdpkefaaDoor.diagCarries
open Go.ChangeShapes Go.WideShapes Go.ChangeAt Go.RowKit Go.Lib Go.Proofs.YtcbimnmpdpkefaaDoorW.PrintWords Go.Proofs.YtcbimnmpdpkefaaDoor.A Go.Proofs.YtcbimnmpdpkefaaDoorTB
set_option linter.unusedVariables false
set_option linter.unusedSimpArgs false
theorem laidOut : laidOutB Tryd.prog = true := by kernel_rfl
theorem own : ownKnob Tryd.prog.godebug = none := by kernel_rfl
theorem pow_eq : (Rows.laid_internal_strconv_uint64pow10 : DataW Unit) = tabData .u64 pow10Tab := by kernel_rfl
theorem tabs {W : World} (hL : laidMet Tryd.prog Rows.diagCarriesRow.laid W) : GlobP W := ⟨by
  have h := Lib.laidMet.reads hL (n := "internal/strconv.uint64pow10") (.tail _ (.tail _ (.head _)))
  rw [pow_eq] at h
  obtain ⟨g', t', cs, fuel, p, hg', ht', hvar, hd⟩ := h
  obtain rfl := Option.some.inj ((show Tryd.prog.globalNamed "internal/strconv.uint64pow10" = some 2 by kernel_rfl).symm.trans hg')
  obtain rfl := Option.some.inj ((show (Tryd.prog.globals[2]?).map (·.type) = some 145 by kernel_rfl).symm.trans ht')
  unfold TabIs
  rw [hvar, ← cells_of_tab Tryd.underlying145 Tryd.underlying121 (by kernel_rfl) (by kernel_rfl) hd]⟩
theorem opnDiag (w : World) : Opn Tryd.prog w 36 k36 (fun _ => True) :=
  ((Opn.struct (d := Kd.pair (Kd.int .i64) (Kd.pair (Kd.int .i64) (Kd.int .i64))) Tryd.underlying36 (by kernel_rfl) (OpnF.cons (Opn.int Tryd.underlying3) rfl (by kernel_rfl) (OpnF.cons (Opn.int Tryd.underlying3) rfl (by kernel_rfl) (OpnF.one (Opn.int Tryd.underlying3) rfl (by kernel_rfl))))).iso (fun x : Ds => (x.f0, x.f1, x.f2)) (fun p => ⟨p.1, p.2.1, p.2.2⟩) (fun _ => rfl)).mono (fun _ _ => trivial)
theorem opnDiags (w : World) : Opn Tryd.prog w 23 (Kd.slice 36 k36) (fun xs => xs.length * 24 ≤ 140737488351232 ∧ ∀ x ∈ xs, True) :=
  Opn.slice (opnDiag w) Tryd.underlying23 (by kernel_rfl) (by kernel_rfl)
theorem opnEdit (w : World) : Opn Tryd.prog w 43 k43 (fun _ => True) :=
  ((Opn.struct (d := Kd.pair (Kd.int .i64) (Kd.pair (Kd.int .i64) Kd.string)) Tryd.underlying43 (by kernel_rfl) (OpnF.cons (Opn.int Tryd.underlying3) rfl (by kernel_rfl) (OpnF.cons (Opn.int Tryd.underlying3) rfl (by kernel_rfl) (OpnF.one (Opn.string Tryd.underlying9) rfl (by kernel_rfl))))).iso (fun x : Eg => (x.f0, x.f1, x.f2)) (fun p => ⟨p.1, p.2.1, p.2.2⟩) (fun _ => rfl)).mono (fun _ _ => trivial)
theorem opnEdits (w : World) : Opn Tryd.prog w 38 (Kd.slice 43 k43) (fun xs => xs.length * 32 ≤ 140737488351232 ∧ ∀ x ∈ xs, True) :=
  Opn.slice (opnEdit w) Tryd.underlying38 (by kernel_rfl) (by kernel_rfl)
theorem reads (os : Os) {H : Type} (enc : TypeId × Value → H) : ∃ places, DataW.whole enc Tryd.prog ((World.laidAll Tryd.prog os Rows.diagCarriesRow.laid).forCall (fun _ _ => 0) ⟨#[], #[.slice none 0 0, .slice none 0 0], []⟩).memory Tryd.f7.params.toList Rows.diagCarriesSpec.vars false #[Value.slice none 0 0, .slice none 0 0].toList 8 = some ([.nil, .nil], [], places) :=
  ⟨[], by kernel_rfl⟩
set_option maxRecDepth 100000 in
theorem lifted (os : Os) (started : os.Started) (H : Type) (enc : TypeId × Value → H) (F : Stop.Interp) :
    ReturnsInHanded {} Tryd.checked os 7 .any ((OpenSpec.ofChange Rows.diagCarriesSpec).preRow enc Tryd.prog Tryd.f7 Rows.diagCarriesRow.domain false Rows.diagCarriesRow.laid) (((OpenSpec.ofChange Rows.diagCarriesSpec).at F).post enc Tryd.prog Tryd.f7 false true false false) := by
  obtain ⟨places, hx⟩ := reads os enc
  have hok : Input.okWideB Tryd.prog ((World.laidAll Tryd.prog os Rows.diagCarriesRow.laid).forCall (fun _ _ => 0) ⟨#[], #[.slice none 0 0, .slice none 0 0], []⟩) 7 ⟨#[], #[.slice none 0 0, .slice none 0 0], []⟩ = true := by kernel_rfl
  refine returnsInHanded_of_row (C := Tryd.checked) (s := OpenSpec.ofChange Rows.diagCarriesSpec) own started (by kernel_rfl) Tryd.func7
    ⟨World.laidAll Tryd.prog os Rows.diagCarriesRow.laid, fun _ _ => 0, ⟨#[], #[.slice none 0 0, .slice none 0 0], []⟩, World.laidAll_os _ _ _, World.shaped_of_ZipB (by kernel_rfl) (by kernel_rfl), (Input.okWide_of_okWideB (base := 0) hok).1, (Input.okWide_of_okWideB hok).2,
      OpenSpec.preRow_of_cond 8 hx (by kernel_rfl) (fun k hk => by cases hk) (by kernel_rfl) (by rw [MakeChecks.laidMetH_plain _ _ _ (by kernel_rfl)]; exact laidMet_laidAll _ (by kernel_rfl) (by kernel_rfl)), by
      simp only [Assume.holds]
      exact ⟨by simp, by simp, fun _ => Modest.zero, by simp, by simp⟩⟩ ?_
  intro W base args ds gs before hval hW hconds hcond hsz hL _ _
  have hW' := hW
  obtain ⟨p, q, hA0, hV, rfl, hfz, hnd⟩ := hW
  have hA : DataW.TrodAll enc Tryd.prog W 0 (fun _ => true) true Tryd.f7.params.toList args.toList ds p := hA0
  rw [Tryd.params7] at hA hval hsz
  obtain ⟨v0, vs0, d0, ds0, p0, q0, hargs, rfl, rfl, h0, r0⟩ := trodAll_cons hA
  obtain ⟨v1, vs1, d1, ds1, p1, q1, rfl, rfl, rfl, h1, r1⟩ := trodAll_cons r0
  obtain ⟨rfl, rfl, rfl⟩ := trodAll_nil r1
  obtain rfl : args = #[v0, v1] := by cases args; simp_all
  obtain ⟨rfl, rfl⟩ := trodVars_none hV
  obtain ⟨a0, len0, cap0, rfl⟩ := okWide_slice Tryd.underlying23 (hval 0 23 v0 rfl rfl)
  obtain ⟨a1, len1, cap1, rfl⟩ := okWide_slice Tryd.underlying38 (hval 1 38 v1 rfl rfl)
  have k0 := h0
  have k1 := h1
  have lt1 : ∀ x ∈ p1, x.block < W.heap.size := by obtain ⟨m, hm⟩ := k1; exact DataW.trod_lt m _ _ _ hm
  have lt0 : ∀ x ∈ p0, x.block < W.heap.size := by obtain ⟨m, hm⟩ := k0; exact DataW.trod_lt m _ _ _ hm
  have hws : (d0.weights Tryd.prog 23).all (· ≤ reachBytes) = true ∧ (d1.weights Tryd.prog 38).all (· ≤ reachBytes) = true := by
    have h := hsz
    simp only [List.cons_append, DataW.weightsEach, List.all_append, Bool.and_eq_true] at h
    exact ⟨h.1, h.2.1⟩
  obtain ⟨xs, hK0, hB0, _⟩ := Opn.arg (opnDiags W) h0 hws.1
  obtain ⟨es, hK1, hB1, _⟩ := Opn.arg (opnEdits W) h1 hws.2
  obtain ⟨A0, c0, hcs0, hc0, hC0⟩ := hK0
  obtain ⟨A1, c1, hcs1, hc1, hC1⟩ := hK1
  simp only [Value.cells, List.cons.injEq, Value.slice.injEq, and_true] at hcs0 hcs1
  obtain ⟨rfl, rfl, rfl⟩ := hcs0
  obtain ⟨rfl, rfl, rfl⟩ := hcs1
  rw [MakeChecks.laidMetH_plain _ _ _ (by kernel_rfl)] at hL
  refine (carries_walk a0 cap0 xs a1 cap1 es W (tabs hL) hC0 hc0 (by omega) hC1 hc1 (by omega)).mono fun e W' ⟨he, hb⟩ => ?_
  subst he
  exact ⟨_, rfl, _, _, _, [], _, [], hW', trodAll_mk1 (shut_bool Tryd.underlying4 _), trodAll_cons_mk (Below.trod laidOut (by kernel_rfl) (of_decide_eq_true (by kernel_rfl)) k0 hb lt0) (trodAll_cons_mk (Below.trod laidOut (by kernel_rfl) (of_decide_eq_true (by kernel_rfl)) k1 hb lt1) trodAll_mk0), rfl, hb.frame _, fun h => by cases h⟩
theorem said : Rows.DiagCarriesSaid :=
  OpenClaim.holds_of_cond 7 Tryd.f7 rfl rfl rfl rfl rfl rfl rfl ⟨rfl, rfl, rfl, rfl, rfl⟩ rfl rfl rfl rfl rfl (by kernel_rfl) Tryd.func7 (by kernel_rfl)
    (of_decide_eq_true (by kernel_rfl)) (by unfold Func.isWrapper; first | (rw [if_pos (by decide +kernel)]; kernel_rfl) | (rw [if_neg (by decide +kernel)]; exact ⟨rfl, rfl⟩))
    (fun os started H enc _ F => by rw [OpenClaim.pre_eq_preRow]; exact lifted os started H enc F)
theorem plain (f : FuncId) (fn : Func) (hf : Tryd.pinned.checked.prog.funcNamed Rows.diagCarriesRow.func = some f) (hfn : Tryd.pinned.checked.prog.funcs[f]? = some fn) :
    false = Tryd.pinned.checked.prog.looks [] ∧ ∀ (j : Nat) t, fn.params[j]? = some t → Tryd.pinned.checked.prog.wantsStandIn t = false := by
  obtain rfl : f = 7 := Option.some.inj ((show Tryd.prog.funcNamed Rows.diagCarriesRow.func = some 7 by kernel_rfl).symm.trans hf) |>.symm
  obtain rfl : fn = Tryd.f7 := (Option.some.inj (Tryd.func7.symm.trans hfn)).symm
  refine ⟨by kernel_rfl, fun j t ht => ?_⟩
  rw [Tryd.params7] at ht
  have hm := Array.mem_of_getElem? ht
  simp only [List.mem_toArray, List.mem_cons, List.not_mem_nil, or_false] at hm
  rcases hm with rfl | rfl
  · exact (show Tryd.prog.wantsStandIn 23 = false by kernel_rfl)
  · exact (show Tryd.prog.wantsStandIn 38 = false by kernel_rfl)
theorem card : Rows.DiagCarriesCardSaid :=
  Claim7.holds_tied_plain_at .later [] _ _ _ _ said (fun _ h => by cases h) (by kernel_rfl) (fun _ h => by cases h) diagCarries_row_tie rfl ⟨rfl, rfl⟩ (by kernel_rfl) rfl plain (by kernel_rfl)
end Go.Proofs.YtcbimnmpdpkefaaDoor.diagCarries
namespace Go.Proofs.YtcbimnmpdpkefaaDoor
/-- The card, under a short name, for the claim. -/
theorem diagCarries_card : Rows.DiagCarriesCardSaid := diagCarries.card
#print axioms diagCarries_card
end Go.Proofs.YtcbimnmpdpkefaaDoor
