/- A script, opened. -/
import Derived.Test.YtcbimnmpdpkefaaOpenEdit
import Derived.Test.YtcbimnmpdpkefaaTextScriptP
set_option linter.unusedVariables false
namespace Go.Proofs.YtcbimnmpdpkefaaTB
open Go.RowKit Go.Proofs.YtcbimnmpdpkefaaW.PrintWords Go.Proofs.Ytcbimnmpdpkefaa.A
theorem wf_range {n : Int} (h : (Lit.int .i64 n).wf = true) : -9223372036854775808 ≤ n ∧ n ≤ 9223372036854775807 := by
  simp only [Lit.wf, Bool.and_eq_true, decide_eq_true_eq] at h
  exact h
theorem opnStep (w : World) : Opn Try.prog w 49 kSp (fun x => (-9223372036854775808 ≤ x.f1 ∧ x.f1 ≤ 9223372036854775807) ∧ (-9223372036854775808 ≤ x.f2 ∧ x.f2 ≤ 9223372036854775807) ∧ x.f3.length ≤ 4398046511104 ∧ ∀ y ∈ x.f3, y.f2.size ≤ 140737488351232) :=
  ((Opn.struct (d := Kd.pair (Kd.int .i64) (Kd.pair (Kd.int .i64) (Kd.pair (Kd.int .i64) (Kd.slice 34 kE)))) Try.underlying49 (by kernel_rfl) (OpnF.cons (Opn.int Try.underlying3) rfl (by kernel_rfl) (OpnF.cons (Opn.int Try.underlying3) rfl (by kernel_rfl) (OpnF.cons (Opn.int Try.underlying3) rfl (by kernel_rfl) (OpnF.one (opnEdits w) rfl (by kernel_rfl)))))).iso (fun x : Sp => (x.f0, x.f1, x.f2, x.f3)) (fun p => ⟨p.1, p.2.1, p.2.2.1, p.2.2.2⟩) (fun _ => rfl)).mono (fun x h => ⟨wf_range h.2.1, wf_range h.2.2.1, (show x.f3.length ≤ 4398046511104 from by have h2 : x.f3.length * 32 ≤ 140737488351232 := h.2.2.2.1; omega), h.2.2.2.2⟩)
theorem opnSteps (w : World) : Opn Try.prog w 44 (Kd.slice 49 kSp) (fun xs => xs.length * 48 ≤ 140737488351232 ∧ ∀ x ∈ xs, (-9223372036854775808 ≤ x.f1 ∧ x.f1 ≤ 9223372036854775807) ∧ (-9223372036854775808 ≤ x.f2 ∧ x.f2 ≤ 9223372036854775807) ∧ x.f3.length ≤ 4398046511104 ∧ ∀ y ∈ x.f3, y.f2.size ≤ 140737488351232) :=
  Opn.slice (opnStep w) Try.underlying44 (by kernel_rfl) (by kernel_rfl)
end Go.Proofs.YtcbimnmpdpkefaaTB
