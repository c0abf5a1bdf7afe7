/-
  DERIVED. GIVEN WITH THE SEED: THE CARDS: each row of YtkhjcmbppcimnaaGreatDoorRows.lean that lists a variable, with what it lists TIED to the program's text (the seventh form; the later family's looks); each row that meets fmt, with fmt's text TOLD by the authors' own Lean function (tested against real Go, not proved from fmt's source: count such statements apart). THE CARD IS WHAT COUNTS. Prove the row's statement (the work); the ties are given (YtkhjcmbppcimnaaGreatDoorTie.lean); close each card by the builder's one call (the guide's Derived/Test/ToyasCard.lean, 'card_holds'). Laid BY PROGRAM, IN A SANDBOX (cutbox-door.mjs). By AI agents, Wed Nov 11 2026. No macro, syntax, notation, axiom, sorry.
-/
import Derived.Test.YtkhjcmbppcimnaaGreatDoorRows
import GoSem.ClaimSeven
namespace Go.Proofs.YtkhjcmbppcimnaaGreatDoor
namespace Rows

/-- THE TIED CARD OF 'slagheaplaw11.BootPlays'. -/
def bootPlaysCard : Claim7 := { stood := { row := bootPlaysRow, standIns := [], harness := (true, "e795683ef1daf63f525ec6d28278a798a18a636f0d9bf30592d49b85f541be58"), looks := false }, kinds := [], alts := [], laidByText := true, laidKinds := [.data, .data, .data], laidTests := true, laidLooks := .later }
def BootPlaysCardSaid : Prop := Claim7.holds Tryz.pinned (.plain (OpenSpec.ofChange bootPlaysSpec)) bootPlaysCard

/-- THE SECOND FORM's CARD OF 'slagheaplaw11.BootPlays'. -/
def bootPlaysUptoCard : Claim7 := { stood := { row := bootPlaysUptoRow, standIns := [], harness := (true, "e795683ef1daf63f525ec6d28278a798a18a636f0d9bf30592d49b85f541be58"), looks := false }, kinds := [], alts := [], laidByText := true, laidKinds := [.data, .data, .data], laidTests := true, laidLooks := .later }
def BootPlaysUptoCardSaid : Prop := Claim7.holds Tryz.pinned (.plain (OpenSpec.upto bootPlaysSpec)) bootPlaysUptoCard
end Rows
end Go.Proofs.YtkhjcmbppcimnaaGreatDoor
