/-
  DERIVED. GIVEN WITH THE SEED: THE CARDS: each row of YtcbimnmpdpkefaaDoorRows.lean that lists a variable, with what it lists TIED to the program's text (the seventh form; the later family's looks); each row that meets fmt, with fmt's text TOLD by the authors' own Lean function (tested against real Go, not proved from fmt's source: count such statements apart). THE CARD IS WHAT COUNTS. Prove the row's statement (the work); the ties are given (YtcbimnmpdpkefaaDoorTie.lean); close each card by the builder's one call (the guide's Derived/Test/ToyasCard.lean, 'card_holds'). Laid BY PROGRAM, IN A SANDBOX (cutbox-door.mjs). By AI agents, Wed Nov 11 2026. No macro, syntax, notation, axiom, sorry.
-/
import Derived.Test.YtcbimnmpdpkefaaDoorRows
import GoSem.ClaimSeven
namespace Go.Proofs.YtcbimnmpdpkefaaDoor
namespace Rows

/-- THE TIED CARD OF 'scholiastlaw01.TextChecks'. -/
def textChecksCard : Claim7 := { stood := { row := textChecksRow, standIns := [], harness := (true, "439befd4ba3f4f5cd8d6c7ee8eb2593b1ab30f884a5252d13c0aa326e51a317b"), looks := false }, kinds := [], alts := [], laidByText := true, laidKinds := [.data, .pinned], laidTests := true, laidLooks := .later }
def TextChecksCardSaid : Prop := Claim7.holds Tryd.pinned (.plain (OpenSpec.ofChange textChecksSpec)) textChecksCard

/-- THE TIED CARD OF 'scholiastlaw20.DiagNames'. -/
def diagNamesCard : Claim7 := { stood := { row := diagNamesRow, standIns := [], harness := (true, "439befd4ba3f4f5cd8d6c7ee8eb2593b1ab30f884a5252d13c0aa326e51a317b"), looks := false }, kinds := [], alts := [], laidByText := true, laidKinds := [.data, .data, .data], laidTests := true, laidLooks := .later }
def DiagNamesCardSaid : Prop := Claim7.holds Tryd.pinned (.plain (OpenSpec.ofChange diagNamesSpec)) diagNamesCard

/-- THE TIED CARD OF 'scholiastlaw20.DiagSorts'. -/
def diagSortsCard : Claim7 := { stood := { row := diagSortsRow, standIns := [], harness := (true, "439befd4ba3f4f5cd8d6c7ee8eb2593b1ab30f884a5252d13c0aa326e51a317b"), looks := false }, kinds := [], alts := [], laidByText := true, laidKinds := [.data, .data, .data], laidTests := true, laidLooks := .later }
def DiagSortsCardSaid : Prop := Claim7.holds Tryd.pinned (.plain (OpenSpec.ofChange diagSortsSpec)) diagSortsCard

/-- THE TIED CARD OF 'scholiastlaw20.DiagOrder'. -/
def diagOrderCard : Claim7 := { stood := { row := diagOrderRow, standIns := [], harness := (true, "439befd4ba3f4f5cd8d6c7ee8eb2593b1ab30f884a5252d13c0aa326e51a317b"), looks := false }, kinds := [], alts := [], laidByText := true, laidKinds := [.data, .data, .data], laidTests := true, laidLooks := .later }
def DiagOrderCardSaid : Prop := Claim7.holds Tryd.pinned (.plain (OpenSpec.ofChange diagOrderSpec)) diagOrderCard

/-- THE TIED CARD OF 'scholiastlaw20.DiagCarries'. -/
def diagCarriesCard : Claim7 := { stood := { row := diagCarriesRow, standIns := [], harness := (true, "439befd4ba3f4f5cd8d6c7ee8eb2593b1ab30f884a5252d13c0aa326e51a317b"), looks := false }, kinds := [], alts := [], laidByText := true, laidKinds := [.data, .data, .data], laidTests := true, laidLooks := .later }
def DiagCarriesCardSaid : Prop := Claim7.holds Tryd.pinned (.plain (OpenSpec.ofChange diagCarriesSpec)) diagCarriesCard

/-- THE TIED CARD OF 'scholiastlaw20.DiagSingly'. -/
def diagSinglyCard : Claim7 := { stood := { row := diagSinglyRow, standIns := [], harness := (true, "439befd4ba3f4f5cd8d6c7ee8eb2593b1ab30f884a5252d13c0aa326e51a317b"), looks := false }, kinds := [], alts := [], laidByText := true, laidKinds := [.data, .data, .data], laidTests := true, laidLooks := .later }
def DiagSinglyCardSaid : Prop := Claim7.holds Tryd.pinned (.plain (OpenSpec.ofChange diagSinglySpec)) diagSinglyCard

/-- THE TIED CARD OF 'scholiastlaw20.DiagPrints'. -/
def diagPrintsCard : Claim7 := { stood := { row := diagPrintsRow, standIns := [], harness := (true, "439befd4ba3f4f5cd8d6c7ee8eb2593b1ab30f884a5252d13c0aa326e51a317b"), looks := false }, kinds := [], alts := [], laidByText := true, laidKinds := [.data, .data, .data], laidTests := true, laidLooks := .later }
def DiagPrintsCardSaid : Prop := Claim7.holds Tryd.pinned (.plain (OpenSpec.ofChange diagPrintsSpec)) diagPrintsCard

/-- THE TIED CARD OF 'scholiastlaw20.DiagWithin'. -/
def diagWithinCard : Claim7 := { stood := { row := diagWithinRow, standIns := [], harness := (true, "439befd4ba3f4f5cd8d6c7ee8eb2593b1ab30f884a5252d13c0aa326e51a317b"), looks := false }, kinds := [], alts := [], laidByText := true, laidKinds := [.data, .data, .data], laidTests := true, laidLooks := .later }
def DiagWithinCardSaid : Prop := Claim7.holds Tryd.pinned (.plain (OpenSpec.ofChange diagWithinSpec)) diagWithinCard

/-- THE TIED CARD OF 'scholiastlaw20.DiagMoves'. -/
def diagMovesCard : Claim7 := { stood := { row := diagMovesRow, standIns := [], harness := (true, "439befd4ba3f4f5cd8d6c7ee8eb2593b1ab30f884a5252d13c0aa326e51a317b"), looks := false }, kinds := [], alts := [], laidByText := true, laidKinds := [.data, .data, .data], laidTests := true, laidLooks := .later }
def DiagMovesCardSaid : Prop := Claim7.holds Tryd.pinned (.plain (OpenSpec.ofChange diagMovesSpec)) diagMovesCard

/-- THE SECOND FORM's CARD OF 'scholiastlaw01.TextChecks'. -/
def textChecksUptoCard : Claim7 := { stood := { row := textChecksUptoRow, standIns := [], harness := (true, "439befd4ba3f4f5cd8d6c7ee8eb2593b1ab30f884a5252d13c0aa326e51a317b"), looks := false }, kinds := [], alts := [], laidByText := true, laidKinds := [.data, .pinned], laidTests := true, laidLooks := .later }
def TextChecksUptoCardSaid : Prop := Claim7.holds Tryd.pinned (.plain (OpenSpec.upto textChecksSpec)) textChecksUptoCard

/-- THE SECOND FORM's CARD OF 'scholiastlaw20.DiagNames'. -/
def diagNamesUptoCard : Claim7 := { stood := { row := diagNamesUptoRow, standIns := [], harness := (true, "439befd4ba3f4f5cd8d6c7ee8eb2593b1ab30f884a5252d13c0aa326e51a317b"), looks := false }, kinds := [], alts := [], laidByText := true, laidKinds := [.data, .data, .data], laidTests := true, laidLooks := .later }
def DiagNamesUptoCardSaid : Prop := Claim7.holds Tryd.pinned (.plain (OpenSpec.upto diagNamesSpec)) diagNamesUptoCard

/-- THE SECOND FORM's CARD OF 'scholiastlaw20.DiagSorts'. -/
def diagSortsUptoCard : Claim7 := { stood := { row := diagSortsUptoRow, standIns := [], harness := (true, "439befd4ba3f4f5cd8d6c7ee8eb2593b1ab30f884a5252d13c0aa326e51a317b"), looks := false }, kinds := [], alts := [], laidByText := true, laidKinds := [.data, .data, .data], laidTests := true, laidLooks := .later }
def DiagSortsUptoCardSaid : Prop := Claim7.holds Tryd.pinned (.plain (OpenSpec.upto diagSortsSpec)) diagSortsUptoCard

/-- THE SECOND FORM's CARD OF 'scholiastlaw20.DiagOrder'. -/
def diagOrderUptoCard : Claim7 := { stood := { row := diagOrderUptoRow, standIns := [], harness := (true, "439befd4ba3f4f5cd8d6c7ee8eb2593b1ab30f884a5252d13c0aa326e51a317b"), looks := false }, kinds := [], alts := [], laidByText := true, laidKinds := [.data, .data, .data], laidTests := true, laidLooks := .later }
def DiagOrderUptoCardSaid : Prop := Claim7.holds Tryd.pinned (.plain (OpenSpec.upto diagOrderSpec)) diagOrderUptoCard

/-- THE SECOND FORM's CARD OF 'scholiastlaw20.DiagCarries'. -/
def diagCarriesUptoCard : Claim7 := { stood := { row := diagCarriesUptoRow, standIns := [], harness := (true, "439befd4ba3f4f5cd8d6c7ee8eb2593b1ab30f884a5252d13c0aa326e51a317b"), looks := false }, kinds := [], alts := [], laidByText := true, laidKinds := [.data, .data, .data], laidTests := true, laidLooks := .later }
def DiagCarriesUptoCardSaid : Prop := Claim7.holds Tryd.pinned (.plain (OpenSpec.upto diagCarriesSpec)) diagCarriesUptoCard

/-- THE SECOND FORM's CARD OF 'scholiastlaw20.DiagSingly'. -/
def diagSinglyUptoCard : Claim7 := { stood := { row := diagSinglyUptoRow, standIns := [], harness := (true, "439befd4ba3f4f5cd8d6c7ee8eb2593b1ab30f884a5252d13c0aa326e51a317b"), looks := false }, kinds := [], alts := [], laidByText := true, laidKinds := [.data, .data, .data], laidTests := true, laidLooks := .later }
def DiagSinglyUptoCardSaid : Prop := Claim7.holds Tryd.pinned (.plain (OpenSpec.upto diagSinglySpec)) diagSinglyUptoCard

/-- THE SECOND FORM's CARD OF 'scholiastlaw20.DiagPrints'. -/
def diagPrintsUptoCard : Claim7 := { stood := { row := diagPrintsUptoRow, standIns := [], harness := (true, "439befd4ba3f4f5cd8d6c7ee8eb2593b1ab30f884a5252d13c0aa326e51a317b"), looks := false }, kinds := [], alts := [], laidByText := true, laidKinds := [.data, .data, .data], laidTests := true, laidLooks := .later }
def DiagPrintsUptoCardSaid : Prop := Claim7.holds Tryd.pinned (.plain (OpenSpec.upto diagPrintsSpec)) diagPrintsUptoCard

/-- THE SECOND FORM's CARD OF 'scholiastlaw20.DiagWithin'. -/
def diagWithinUptoCard : Claim7 := { stood := { row := diagWithinUptoRow, standIns := [], harness := (true, "439befd4ba3f4f5cd8d6c7ee8eb2593b1ab30f884a5252d13c0aa326e51a317b"), looks := false }, kinds := [], alts := [], laidByText := true, laidKinds := [.data, .data, .data], laidTests := true, laidLooks := .later }
def DiagWithinUptoCardSaid : Prop := Claim7.holds Tryd.pinned (.plain (OpenSpec.upto diagWithinSpec)) diagWithinUptoCard

/-- THE SECOND FORM's CARD OF 'scholiastlaw20.DiagMoves'. -/
def diagMovesUptoCard : Claim7 := { stood := { row := diagMovesUptoRow, standIns := [], harness := (true, "439befd4ba3f4f5cd8d6c7ee8eb2593b1ab30f884a5252d13c0aa326e51a317b"), looks := false }, kinds := [], alts := [], laidByText := true, laidKinds := [.data, .data, .data], laidTests := true, laidLooks := .later }
def DiagMovesUptoCardSaid : Prop := Claim7.holds Tryd.pinned (.plain (OpenSpec.upto diagMovesSpec)) diagMovesUptoCard
end Rows
end Go.Proofs.YtcbimnmpdpkefaaDoor
