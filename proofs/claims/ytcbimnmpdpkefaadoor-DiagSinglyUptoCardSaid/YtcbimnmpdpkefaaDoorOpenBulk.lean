/- Arguments opened, with how much they hold: what the bound of the second form gives. -/
import Derived.Test.YtcbimnmpdpkefaaDoorOpen
import Derived.Test.YtcbimnmpdpkefaaDoorRows
set_option linter.unusedVariables false
set_option linter.unusedSimpArgs false
namespace Go.Proofs.YtcbimnmpdpkefaaDoorTB
open Go.RowKit Go.Deep Go.ChangeShapes Go.WideShapes Go.Proofs.YtcbimnmpdpkefaaDoorW.PrintWords Go.Proofs.YtcbimnmpdpkefaaDoor

/-- As 'Opn', with a measure that is at most the reading's bulk. -/
def Opm {α : Type} (P : Program) (w : World) (t : TypeId) (d : Kd α) (B : α → Prop) (m : α → Nat) : Prop :=
  ∀ (H : Type) (enc : TypeId × Value → H) (base : Nat) (spare : Nat → Bool) (held : Bool) (fuel : Nat) (cs : List Value) (y : DataW H × List MemPlace),
    DataW.trod enc P w base spare held fuel t cs = some y → (y.1.weights P t).all (· ≤ reachBytes) = true → ∃ x, d.K w x cs ∧ B x ∧ m x ≤ Rows.uptoBulk y.1
theorem Opm.zero {α : Type} {P : Program} {w : World} {t : TypeId} {d : Kd α} {B : α → Prop} (h : Opn P w t d B) : Opm P w t d B (fun _ => 0) := by
  intro H enc base spare held fuel cs y hy hw
  obtain ⟨x, h1, h2⟩ := h H enc base spare held fuel cs y hy hw
  exact ⟨x, h1, h2, Nat.zero_le _⟩
theorem Opm.string {P : Program} {w : World} {t : TypeId} (ht : P.underlying t = some .string) : Opm P w t Kd.string (fun s => s.size ≤ 140737488351232) (fun s => s.size) := by
  intro H enc base spare held fuel cs y hy hw
  obtain ⟨s, rfl, rfl, _⟩ := DataW.trod_string ht hy
  refine ⟨s, rfl, ?_, ?_⟩
  · simp only [DataW.weights, List.all_cons, List.all_nil, Bool.and_true, decide_eq_true_eq, Array.length_toList] at hw
    exact hw
  · show s.size ≤ Rows.uptoBulk (DataW.lit (.string s.data.toList))
    rw [Rows.uptoBulk, Array.length_toList]
    exact Nat.le_succ _
theorem bulk_sum {α H : Type} (m : α → Nat) : ∀ (xs : List α) (ds : List (DataW H)), xs.length = ds.length → (∀ (i : Nat) x y, xs[i]? = some x → ds[i]? = some y → m x ≤ Rows.uptoBulk y) → (xs.map m).sum ≤ Rows.uptoBulkAll ds
  | [], _, _, _ => Nat.zero_le _
  | x :: xs, [], h, _ => by simp at h
  | x :: xs, y :: ds, h, hi => by
    have h1 := hi 0 x y rfl rfl
    have h2 := bulk_sum m xs ds (by simpa using h) (fun i a b ha hb => hi (i + 1) a b (by simpa using ha) (by simpa using hb))
    simp only [List.map_cons, List.sum_cons, Rows.uptoBulkAll]
    omega
theorem Opm.slice {α : Type} {P : Program} {w : World} {t e : TypeId} {d : Kd α} {B : α → Prop} {m : α → Nat} (hd : Opm P w e d B m) (ht : P.underlying t = some (.slice e)) (hc : P.cellsOf e = d.sz) {nb : Nat} (hnb : P.bytesOf e = nb) :
    Opm P w t (Kd.slice e d) (fun xs => xs.length * nb ≤ 140737488351232 ∧ ∀ x ∈ xs, B x) (fun xs => (xs.map m).sum) := by
  intro H enc base spare held fuel cs y hy hw
  rcases open_slice ht hy with ⟨rfl, rfl⟩ | ⟨a, len, cap, mm, n, D, Pl, rfl, hb, hl, hm, hmm, rfl, hx⟩
  · exact ⟨[], ⟨none, 0, rfl, Nat.le_refl _, rfl, by simp, fun h => absurd h (by simp)⟩, ⟨by simp, by simp⟩, by simp⟩
  · simp only [DataW.weights, ht, List.all_cons, List.all_append, Bool.and_eq_true, decide_eq_true_eq, List.length_map, List.length_range] at hw
    obtain ⟨hw1, hw2, _⟩ := hw
    have hlm : len ≤ mm := by rw [hmm]; split <;> omega
    obtain ⟨xs, hxl, hxs⟩ := list_choose (p := fun i x => (∃ cs', w.cells? base (a.add (i * P.cellsOf e)) (P.cellsOf e) = some cs' ∧ d.K w x cs' ∧ B x) ∧ m x ≤ Rows.uptoBulk (D i)) len (fun i hi => by
      obtain ⟨cs', h1, h2⟩ := hx i (by omega)
      obtain ⟨x, h3, h4, h5⟩ := hd H enc base spare held n cs' (D i, Pl i) h2 (weightsAll_get _ i _ hw2 (by simp [hi]))
      exact ⟨x, ⟨cs', h1, h3, h4⟩, h5⟩)
    have hmx : maxLen ≤ 9223372036854775807 := by decide
    refine ⟨xs, ⟨some a, cap, by rw [hxl], by omega, rfl, by rw [hxl]; omega, fun _ => ⟨a, rfl, fun j x hj => ?_⟩⟩, ⟨?_, fun x hx' => ?_⟩, ?_⟩
    · obtain ⟨⟨cs', h1, h2, _⟩, _⟩ := hxs j x hj
      have hlen := d.K_len h2
      refine ⟨cs', hlen, h2, fun i u hu => ?_⟩
      obtain ⟨_, _, h3⟩ := World.cells?_some h1
      rw [hc] at h3
      have := h3 i (by rw [← hlen]; exact (List.getElem?_eq_some_iff.1 hu).1)
      rw [Go.Deep.add_add] at this
      rw [this, hu]
    · have hz : len * P.bytesOf e ≤ 140737488351232 := Nat.le_trans (Nat.mul_le_mul_right _ (by omega)) hw1
      rw [hxl, ← hnb]; exact hz
    · obtain ⟨i, hi, rfl⟩ := List.mem_iff_getElem.1 hx'
      obtain ⟨⟨_, _, _, h⟩, _⟩ := hxs i _ (List.getElem?_eq_getElem hi)
      exact h
    · have hs := bulk_sum m xs ((List.range len).map D) (by simp [hxl]) (fun i x y hxi hyi => by
        have hil : i < len := by rw [← hxl]; exact (List.getElem?_eq_some_iff.1 hxi).1
        simp [hil] at hyi
        subst hyi
        exact (hxs i x hxi).2)
      refine Nat.le_trans hs ?_
      simp only [Rows.uptoBulk]
      omega
/-- The fields of a struct, from one on. -/
def OpmF {α : Type} (P : Program) (w : World) (fs : List Field) (off : Nat) (d : Kd α) (B : α → Prop) (m : α → Nat) : Prop :=
  ∀ (H : Type) (enc : TypeId × Value → H) (base : Nat) (spare : Nat → Bool) (held : Bool) (n : Nat) (cs : List Value) (xs : List (DataW H × List MemPlace)), xs.length = fs.length →
    (∀ (i : Nat) (f : Field), fs[i]? = some f → DataW.trod enc P w base spare held n f.type ((cs.drop f.offset).take (P.cellsOf f.type)) = xs[i]?) →
    (DataW.weightsEach P (fs.map (·.type)) (xs.map (·.1))).all (· ≤ reachBytes) = true → ∃ x, d.K w x ((cs.drop off).take d.sz) ∧ B x ∧ m x ≤ Rows.uptoBulkAll (xs.map (·.1))
theorem OpmF.one {α : Type} {P : Program} {w : World} {f : Field} {off : Nat} {d : Kd α} {B : α → Prop} {m : α → Nat} (h : Opm P w f.type d B m) (ho : f.offset = off) (hc : P.cellsOf f.type = d.sz) : OpmF P w [f] off d B m := by
  intro H enc base spare held n cs xs hl hx hw
  match xs, hl with
  | [x], _ =>
    have h0 := hx 0 f rfl
    simp only [List.getElem?_cons_zero] at h0
    rw [ho, hc] at h0
    simp only [List.map_cons, List.map_nil, DataW.weightsEach, List.append_nil] at hw
    obtain ⟨z, z1, z2, z3⟩ := h H enc base spare held n _ x h0 hw
    exact ⟨z, z1, z2, by simp only [List.map_cons, List.map_nil, Rows.uptoBulkAll]; omega⟩
theorem OpmF.cons {α β : Type} {P : Program} {w : World} {f : Field} {fs : List Field} {off : Nat} {d : Kd α} {d' : Kd β} {B : α → Prop} {B' : β → Prop} {m : α → Nat} {m' : β → Nat} (h : Opm P w f.type d B m) (ho : f.offset = off) (hc : P.cellsOf f.type = d.sz) (hr : OpmF P w fs (off + d.sz) d' B' m') :
    OpmF P w (f :: fs) off (Kd.pair d d') (fun x => B x.1 ∧ B' x.2) (fun x => m x.1 + m' x.2) := by
  intro H enc base spare held n cs xs hl hx hw
  match xs, hl with
  | x :: xs, hl =>
    have h0 := hx 0 f rfl
    simp only [List.getElem?_cons_zero] at h0
    rw [ho, hc] at h0
    simp only [List.map_cons, DataW.weightsEach, List.all_append, Bool.and_eq_true] at hw
    obtain ⟨p, hp1, hp2, hp3⟩ := h H enc base spare held n _ x h0 hw.1
    obtain ⟨q, hq1, hq2, hq3⟩ := hr H enc base spare held n cs xs (by simpa using hl) (fun i f' hf => by simpa using hx (i + 1) f' (by simpa using hf)) hw.2
    refine ⟨(p, q), ⟨_, _, ?_, hp1, hq1⟩, ⟨hp2, hq2⟩, ?_⟩
    · show (cs.drop off).take (d.sz + d'.sz) = _
      rw [List.take_add, List.drop_drop]
    · simp only [List.map_cons, Rows.uptoBulkAll]
      omega
theorem Opm.struct {α : Type} {P : Program} {w : World} {t : TypeId} {fs : Array Field} {d : Kd α} {B : α → Prop} {m : α → Nat} (ht : P.underlying t = some (.struct fs)) (hc : P.cellsOf t = d.sz) (h : OpmF P w fs.toList 0 d B m) : Opm P w t d B m := by
  intro H enc base spare held fuel cs y hy hw
  obtain ⟨xs, n, _, rfl, hl, hxl, hx⟩ := DataW.trod_struct ht hy
  simp only [DataW.weights, ht] at hw
  obtain ⟨x, h1, h2, h3⟩ := h H enc base spare held n cs xs (by simpa using hxl) (fun i f hf => hx i f (by simpa using hf)) hw
  refine ⟨x, ?_, h2, ?_⟩
  · rwa [List.drop_zero, ← hc, ← hl, List.take_length] at h1
  · simp only [Rows.uptoBulk]; omega
theorem Opm.iso {α β : Type} {P : Program} {w : World} {t : TypeId} {d : Kd α} {B : α → Prop} {m : α → Nat} (h : Opm P w t d B m) (f : β → α) (g : α → β) (hg : ∀ x, f (g x) = x) : Opm P w t (Kd.iso d f) (fun x => B (f x)) (fun x => m (f x)) := by
  intro H enc base spare held fuel cs y hy hw
  obtain ⟨x, h1, h2, h3⟩ := h H enc base spare held fuel cs y hy hw
  exact ⟨g x, by show d.K w (f (g x)) cs; rwa [hg], by show B (f (g x)); rwa [hg], by show m (f (g x)) ≤ _; rwa [hg]⟩
theorem Opm.arg {α H : Type} {P : Program} {w : World} {t : TypeId} {d : Kd α} {B : α → Prop} {m : α → Nat} {enc : TypeId × Value → H} {base : Nat} {spare : Nat → Bool} {held : Bool} {v : Value} {y : DataW H} {ps : List MemPlace} (h : Opm P w t d B m) (hT : DataW.Trod enc P w base spare held t v y ps)
    (hw : (y.weights P t).all (· ≤ reachBytes) = true) : ∃ x, d.K w x v.cells.toList ∧ B x ∧ m x ≤ Rows.uptoBulk y := by
  obtain ⟨fuel, hf⟩ := hT
  exact h H enc base spare held fuel _ _ hf hw
end Go.Proofs.YtcbimnmpdpkefaaDoorTB
