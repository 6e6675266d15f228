/-
  DERIVED. GIVEN WITH THE SEED: THE CARDS: each row of YtlhhcnknclnlaaaGreatDoorRows.lean that lists a variable, with what it lists TIED to the program's text (the seventh form; the later family's looks); each row that meets fmt, with fmt's text TOLD by the authors' own Lean function (tested against real Go, not proved from fmt's source: count such statements apart). THE CARD IS WHAT COUNTS. Prove the row's statement (the work); the ties are given (YtlhhcnknclnlaaaGreatDoorTie.lean); close each card by the builder's one call (the guide's Derived/Test/ToyasCard.lean, 'card_holds'). Laid BY PROGRAM, IN A SANDBOX (cutbox-door.mjs). By AI agents, Wed Nov 11 2026. No macro, syntax, notation, axiom, sorry.
-/
import Derived.Test.YtlhhcnknclnlaaaGreatDoorRows
import GoSem.ClaimSeven
namespace Go.Proofs.YtlhhcnknclnlaaaGreatDoor
namespace Rows

/-- THE TIED CARD OF 'cartagetop.TopHops'. -/
def topHopsCard : Claim7 := { stood := { row := topHopsRow, standIns := [], harness := (true, "f627adcdd60c2ff565e73f5d5018a8f55bd06cdfe81cf7676824c80a73eec173"), looks := true }, kinds := [], alts := [], laidByText := true, laidKinds := [.data, .data, .data, .sentinel, .sentinel, .funcs], laidTests := true, laidLooks := .later }
def TopHopsCardSaid : Prop := Claim7.holds Tryz.pinned (.plain (OpenSpec.ofChange topHopsSpec)) topHopsCard

/-- THE TIED CARD OF 'cartagetop.TopLeast'. -/
def topLeastCard : Claim7 := { stood := { row := topLeastRow, standIns := [], harness := (true, "f627adcdd60c2ff565e73f5d5018a8f55bd06cdfe81cf7676824c80a73eec173"), looks := true }, kinds := [], alts := [], laidByText := true, laidKinds := [.data, .data, .data, .sentinel, .sentinel, .funcs], laidTests := true, laidLooks := .later }
def TopLeastCardSaid : Prop := Claim7.holds Tryz.pinned (.plain (OpenSpec.ofChange topLeastSpec)) topLeastCard

/-- THE SECOND FORM's CARD OF 'cartagetop.TopHops'. -/
def topHopsUptoCard : Claim7 := { stood := { row := topHopsUptoRow, standIns := [], harness := (true, "f627adcdd60c2ff565e73f5d5018a8f55bd06cdfe81cf7676824c80a73eec173"), looks := true }, kinds := [], alts := [], laidByText := true, laidKinds := [.data, .data, .data, .sentinel, .sentinel, .funcs], laidTests := true, laidLooks := .later }
def TopHopsUptoCardSaid : Prop := Claim7.holds Tryz.pinned (.plain (OpenSpec.upto topHopsSpec)) topHopsUptoCard

/-- THE SECOND FORM's CARD OF 'cartagetop.TopLeast'. -/
def topLeastUptoCard : Claim7 := { stood := { row := topLeastUptoRow, standIns := [], harness := (true, "f627adcdd60c2ff565e73f5d5018a8f55bd06cdfe81cf7676824c80a73eec173"), looks := true }, kinds := [], alts := [], laidByText := true, laidKinds := [.data, .data, .data, .sentinel, .sentinel, .funcs], laidTests := true, laidLooks := .later }
def TopLeastUptoCardSaid : Prop := Claim7.holds Tryz.pinned (.plain (OpenSpec.upto topLeastSpec)) topLeastUptoCard
end Rows
end Go.Proofs.YtlhhcnknclnlaaaGreatDoor
