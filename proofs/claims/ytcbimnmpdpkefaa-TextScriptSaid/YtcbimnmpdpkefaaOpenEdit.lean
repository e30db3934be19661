/- A list of edits, opened. -/
import Derived.Test.YtcbimnmpdpkefaaOpen
import Derived.Test.YtcbimnmpdpkefaaTextBufF
set_option linter.unusedVariables false
namespace Go.Proofs.YtcbimnmpdpkefaaTB
open Go.RowKit Go.Proofs.YtcbimnmpdpkefaaW.PrintWords Go.Proofs.Ytcbimnmpdpkefaa.A
theorem opnEdit (w : World) : Opn Try.prog w 34 kE (fun x => x.f2.size ≤ 140737488351232) :=
  ((Opn.struct (d := Kd.pair (Kd.int .i64) (Kd.pair (Kd.int .i64) Kd.string)) Try.underlying34 (by kernel_rfl) (OpnF.cons (Opn.int Try.underlying3) rfl (by kernel_rfl) (OpnF.cons (Opn.int Try.underlying3) rfl (by kernel_rfl) (OpnF.one (Opn.string Try.underlying9) rfl (by kernel_rfl))))).iso (fun x : Ed => (x.f0, x.f1, x.f2)) (fun p => ⟨p.1, p.2.1, p.2.2⟩) (fun _ => rfl)).mono (fun x h => h.2.2)
theorem opnEdits (w : World) : Opn Try.prog w 22 (Kd.slice 34 kE) (fun xs => xs.length * 32 ≤ 140737488351232 ∧ ∀ x ∈ xs, x.f2.size ≤ 140737488351232) :=
  Opn.slice (opnEdit w) Try.underlying22 (by kernel_rfl) (by kernel_rfl)
end Go.Proofs.YtcbimnmpdpkefaaTB
