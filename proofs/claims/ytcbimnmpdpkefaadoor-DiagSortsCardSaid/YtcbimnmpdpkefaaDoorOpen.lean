/- Arguments opened: what a reading of a value tells, as lists and structures of plain values. -/
import Derived.Test.YtcbimnmpdpkefaaDoorWWords
import Derived.Deep.Slices
import Derived.ChangeArms
import GoSem.ClaimJoined
set_option linter.unusedVariables false
set_option linter.unusedSimpArgs false
namespace Go.Proofs.YtcbimnmpdpkefaaDoorTB
open Go.RowKit Go.Deep Go.ChangeShapes Go.WideShapes Go.Proofs.YtcbimnmpdpkefaaDoorW.PrintWords

/-- Whatever reads as a value of type t is, in memory, a value of kind d, and B holds of it. -/
def Opn {α : Type} (P : Program) (w : World) (t : TypeId) (d : Kd α) (B : α → Prop) : Prop :=
  ∀ (H : Type) (enc : TypeId × Value → H) (base : Nat) (spare : Nat → Bool) (held : Bool) (fuel : Nat) (cs : List Value) (y : DataW H × List MemPlace),
    DataW.trod enc P w base spare held fuel t cs = some y → (y.1.weights P t).all (· ≤ reachBytes) = true → ∃ x, d.K w x cs ∧ B x
theorem Opn.mono {α : Type} {P : Program} {w : World} {t : TypeId} {d : Kd α} {B B' : α → Prop} (h : Opn P w t d B) (hb : ∀ x, B x → B' x) : Opn P w t d B' := by
  intro H enc base spare held fuel cs y hy hw
  obtain ⟨x, h1, h2⟩ := h H enc base spare held fuel cs y hy hw
  exact ⟨x, h1, hb x h2⟩
theorem Opn.int {P : Program} {w : World} {t : TypeId} {k : IntKind} (ht : P.underlying t = some (.int k)) : Opn P w t (Kd.int k) (fun n => (Lit.int k n).wf = true) := by
  intro H enc base spare held fuel cs y hy hw
  obtain ⟨n, rfl, rfl, hn⟩ := DataW.trod_int ht hy
  exact ⟨n, rfl, hn⟩
theorem Opn.bool {P : Program} {w : World} {t : TypeId} (ht : P.underlying t = some .bool) : Opn P w t Kd.bool (fun _ => True) := by
  intro H enc base spare held fuel cs y hy hw
  obtain ⟨n, rfl, rfl⟩ := DataW.trod_bool ht hy
  exact ⟨n, rfl, trivial⟩
theorem Opn.string {P : Program} {w : World} {t : TypeId} (ht : P.underlying t = some .string) : Opn P w t Kd.string (fun s => s.size ≤ 140737488351232) := by
  intro H enc base spare held fuel cs y hy hw
  obtain ⟨s, rfl, rfl, _⟩ := DataW.trod_string ht hy
  refine ⟨s, rfl, ?_⟩
  simp only [DataW.weights, List.all_cons, List.all_nil, Bool.and_true, decide_eq_true_eq, Array.length_toList] at hw
  exact hw
theorem list_choose {α : Type} {p : Nat → α → Prop} : ∀ (n : Nat), (∀ i, i < n → ∃ x, p i x) → ∃ xs : List α, xs.length = n ∧ ∀ i x, xs[i]? = some x → p i x
  | 0, _ => ⟨[], rfl, fun i x h => by simp at h⟩
  | n + 1, h => by
    obtain ⟨xs, hl, hx⟩ := list_choose n (fun i hi => h i (by omega))
    obtain ⟨z, hz⟩ := h n (by omega)
    refine ⟨xs ++ [z], by simp [hl], fun i x hix => ?_⟩
    rcases Nat.lt_or_ge i n with h1 | h1
    · rw [List.getElem?_append_left (by omega)] at hix
      exact hx i x hix
    · have : i = n := by
        have := (List.getElem?_eq_some_iff.1 hix).1
        simp at this; omega
      subst this
      rw [List.getElem?_append_right (by omega), hl, Nat.sub_self] at hix
      simp only [List.getElem?_cons_zero, Option.some.injEq] at hix
      exact hix ▸ hz
theorem weightsAll_get {H : Type} {P : Program} {e : TypeId} : ∀ (l : List (DataW H)) (i : Nat) (y : DataW H), (DataW.weightsAll P e l).all (· ≤ reachBytes) = true → l[i]? = some y → (y.weights P e).all (· ≤ reachBytes) = true
  | [], i, y, _, hi => by simp at hi
  | d :: r, 0, y, h, hi => by
    simp only [List.getElem?_cons_zero, Option.some.injEq] at hi
    subst hi
    simp only [DataW.weightsAll, List.all_append, Bool.and_eq_true] at h
    exact h.1
  | d :: r, i + 1, y, h, hi => by
    simp only [DataW.weightsAll, List.all_append, Bool.and_eq_true] at h
    exact weightsAll_get r i y h.2 (by simpa using hi)
theorem Opn.slice {α : Type} {P : Program} {w : World} {t e : TypeId} {d : Kd α} {B : α → Prop} (hd : Opn P w e d B) (ht : P.underlying t = some (.slice e)) (hc : P.cellsOf e = d.sz) {nb : Nat} (hnb : P.bytesOf e = nb) :
    Opn P w t (Kd.slice e d) (fun xs => xs.length * nb ≤ 140737488351232 ∧ ∀ x ∈ xs, B x) := by
  intro H enc base spare held fuel cs y hy hw
  rcases open_slice ht hy with ⟨rfl, rfl⟩ | ⟨a, len, cap, m, n, D, Pl, rfl, hb, hl, hm, hmm, rfl, hx⟩
  · exact ⟨[], ⟨none, 0, rfl, Nat.le_refl _, rfl, by simp, fun h => absurd h (by simp)⟩, by simp, by simp⟩
  · simp only [DataW.weights, ht, List.all_cons, List.all_append, Bool.and_eq_true, decide_eq_true_eq, List.length_map, List.length_range] at hw
    obtain ⟨hw1, hw2, _⟩ := hw
    have hlm : len ≤ m := by rw [hmm]; split <;> omega
    obtain ⟨xs, hxl, hxs⟩ := list_choose (p := fun i x => ∃ cs', w.cells? base (a.add (i * P.cellsOf e)) (P.cellsOf e) = some cs' ∧ d.K w x cs' ∧ B x) len (fun i hi => by
      obtain ⟨cs', h1, h2⟩ := hx i (by omega)
      obtain ⟨x, h3, h4⟩ := hd H enc base spare held n cs' (D i, Pl i) h2 (weightsAll_get _ i _ hw2 (by simp [hi]))
      exact ⟨x, cs', h1, h3, h4⟩)
    have hmx : maxLen ≤ 9223372036854775807 := by decide
    refine ⟨xs, ⟨some a, cap, by rw [hxl], by omega, rfl, by rw [hxl]; omega, fun _ => ⟨a, rfl, fun j x hj => ?_⟩⟩, ?_, fun x hx' => ?_⟩
    · obtain ⟨cs', h1, h2, _⟩ := hxs j x hj
      have hlen := d.K_len h2
      refine ⟨cs', hlen, h2, fun i u hu => ?_⟩
      obtain ⟨_, _, h3⟩ := World.cells?_some h1
      rw [hc] at h3
      have := h3 i (by rw [← hlen]; exact (List.getElem?_eq_some_iff.1 hu).1)
      rw [Go.Deep.add_add] at this
      rw [this, hu]
    · have hz : len * P.bytesOf e ≤ 140737488351232 := Nat.le_trans (Nat.mul_le_mul_right _ (by omega)) hw1
      rw [hxl, ← hnb]; exact hz
    · obtain ⟨i, hi, rfl⟩ := List.mem_iff_getElem.1 hx'
      obtain ⟨_, _, _, h⟩ := hxs i _ (List.getElem?_eq_getElem hi)
      exact h
/-- The fields of a struct, from one on. -/
def OpnF {α : Type} (P : Program) (w : World) (fs : List Field) (off : Nat) (d : Kd α) (B : α → Prop) : Prop :=
  ∀ (H : Type) (enc : TypeId × Value → H) (base : Nat) (spare : Nat → Bool) (held : Bool) (n : Nat) (cs : List Value) (xs : List (DataW H × List MemPlace)), xs.length = fs.length →
    (∀ (i : Nat) (f : Field), fs[i]? = some f → DataW.trod enc P w base spare held n f.type ((cs.drop f.offset).take (P.cellsOf f.type)) = xs[i]?) →
    (DataW.weightsEach P (fs.map (·.type)) (xs.map (·.1))).all (· ≤ reachBytes) = true → ∃ x, d.K w x ((cs.drop off).take d.sz) ∧ B x
theorem OpnF.one {α : Type} {P : Program} {w : World} {f : Field} {off : Nat} {d : Kd α} {B : α → Prop} (h : Opn P w f.type d B) (ho : f.offset = off) (hc : P.cellsOf f.type = d.sz) : OpnF P w [f] off d B := by
  intro H enc base spare held n cs xs hl hx hw
  match xs, hl with
  | [x], _ =>
    have h0 := hx 0 f rfl
    simp only [List.getElem?_cons_zero] at h0
    rw [ho, hc] at h0
    simp only [List.map_cons, List.map_nil, DataW.weightsEach, List.append_nil] at hw
    exact h H enc base spare held n _ x h0 hw
theorem OpnF.cons {α β : Type} {P : Program} {w : World} {f : Field} {fs : List Field} {off : Nat} {d : Kd α} {d' : Kd β} {B : α → Prop} {B' : β → Prop} (h : Opn P w f.type d B) (ho : f.offset = off) (hc : P.cellsOf f.type = d.sz) (hr : OpnF P w fs (off + d.sz) d' B') :
    OpnF P w (f :: fs) off (Kd.pair d d') (fun x => B x.1 ∧ B' x.2) := by
  intro H enc base spare held n cs xs hl hx hw
  match xs, hl with
  | x :: xs, hl =>
    have h0 := hx 0 f rfl
    simp only [List.getElem?_cons_zero] at h0
    rw [ho, hc] at h0
    simp only [List.map_cons, DataW.weightsEach, List.all_append, Bool.and_eq_true] at hw
    obtain ⟨p, hp1, hp2⟩ := h H enc base spare held n _ x h0 hw.1
    obtain ⟨q, hq1, hq2⟩ := hr H enc base spare held n cs xs (by simpa using hl) (fun i f' hf => by simpa using hx (i + 1) f' (by simpa using hf)) hw.2
    refine ⟨(p, q), ⟨_, _, ?_, hp1, hq1⟩, hp2, hq2⟩
    show (cs.drop off).take (d.sz + d'.sz) = _
    rw [List.take_add, List.drop_drop]
theorem Opn.struct {α : Type} {P : Program} {w : World} {t : TypeId} {fs : Array Field} {d : Kd α} {B : α → Prop} (ht : P.underlying t = some (.struct fs)) (hc : P.cellsOf t = d.sz) (h : OpnF P w fs.toList 0 d B) : Opn P w t d B := by
  intro H enc base spare held fuel cs y hy hw
  obtain ⟨xs, n, _, rfl, hl, hxl, hx⟩ := DataW.trod_struct ht hy
  simp only [DataW.weights, ht] at hw
  obtain ⟨x, h1, h2⟩ := h H enc base spare held n cs xs (by simpa using hxl) (fun i f hf => hx i f (by simpa using hf)) hw
  refine ⟨x, ?_, h2⟩
  rwa [List.drop_zero, ← hc, ← hl, List.take_length] at h1
theorem Opn.iso {α β : Type} {P : Program} {w : World} {t : TypeId} {d : Kd α} {B : α → Prop} (h : Opn P w t d B) (f : β → α) (g : α → β) (hg : ∀ x, f (g x) = x) : Opn P w t (Kd.iso d f) (fun x => B (f x)) := by
  intro H enc base spare held fuel cs y hy hw
  obtain ⟨x, h1, h2⟩ := h H enc base spare held fuel cs y hy hw
  exact ⟨g x, by show d.K w (f (g x)) cs; rwa [hg], by show B (f (g x)); rwa [hg]⟩
theorem Opn.arg {α H : Type} {P : Program} {w : World} {t : TypeId} {d : Kd α} {B : α → Prop} {enc : TypeId × Value → H} {base : Nat} {spare : Nat → Bool} {held : Bool} {v : Value} {y : DataW H} {ps : List MemPlace} (h : Opn P w t d B) (hT : DataW.Trod enc P w base spare held t v y ps)
    (hw : (y.weights P t).all (· ≤ reachBytes) = true) : ∃ x, d.K w x v.cells.toList ∧ B x := by
  obtain ⟨fuel, hf⟩ := hT
  exact h H enc base spare held fuel _ _ hf hw
end Go.Proofs.YtcbimnmpdpkefaaDoorTB
