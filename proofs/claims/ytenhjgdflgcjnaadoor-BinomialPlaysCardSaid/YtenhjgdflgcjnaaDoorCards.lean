/-
  DERIVED. GIVEN WITH THE SEED: THE CARDS: each row of YtenhjgdflgcjnaaDoorRows.lean that lists a variable, with what it lists TIED to the program's text (the seventh form; the later family's looks); each row that meets fmt, with fmt's text TOLD by the authors' own Lean function (tested against real Go, not proved from fmt's source: count such statements apart). THE CARD IS WHAT COUNTS. Prove the row's statement (the work); the ties are given (YtenhjgdflgcjnaaDoorTie.lean); close each card by the builder's one call (the guide's Derived/Test/ToyasCard.lean, 'card_holds'). Laid BY PROGRAM, IN A SANDBOX (cutbox-door.mjs). By AI agents, Wed Nov 11 2026. No macro, syntax, notation, axiom, sorry.
-/
import Derived.Test.YtenhjgdflgcjnaaDoorRows
import GoSem.ClaimSeven
namespace Go.Proofs.YtenhjgdflgcjnaaDoor
namespace Rows

/-- THE TIED CARD OF 'slagheaplaw07.BinomialBits'. -/
def binomialBitsCard : Claim7 := { stood := { row := binomialBitsRow, standIns := [], harness := (true, "7d835ec8edaac35a5f3cd910e564555834e3014f853308cd7d0e0b4bbb1fc68a"), looks := false }, kinds := [], alts := [], laidByText := true, laidKinds := [.data, .data, .data], laidTests := true, laidLooks := .later }
def BinomialBitsCardSaid : Prop := Claim7.holds Tryd.pinned (.plain (OpenSpec.ofChange binomialBitsSpec)) binomialBitsCard

/-- THE TIED CARD OF 'slagheaplaw07.BinomialPlays'. -/
def binomialPlaysCard : Claim7 := { stood := { row := binomialPlaysRow, standIns := [], harness := (true, "7d835ec8edaac35a5f3cd910e564555834e3014f853308cd7d0e0b4bbb1fc68a"), looks := false }, kinds := [], alts := [], laidByText := true, laidKinds := [.data, .data, .data], laidTests := true, laidLooks := .later }
def BinomialPlaysCardSaid : Prop := Claim7.holds Tryd.pinned (.plain (OpenSpec.ofChange binomialPlaysSpec)) binomialPlaysCard

/-- THE SECOND FORM's CARD OF 'slagheaplaw07.BinomialBits'. -/
def binomialBitsUptoCard : Claim7 := { stood := { row := binomialBitsUptoRow, standIns := [], harness := (true, "7d835ec8edaac35a5f3cd910e564555834e3014f853308cd7d0e0b4bbb1fc68a"), looks := false }, kinds := [], alts := [], laidByText := true, laidKinds := [.data, .data, .data], laidTests := true, laidLooks := .later }
def BinomialBitsUptoCardSaid : Prop := Claim7.holds Tryd.pinned (.plain (OpenSpec.upto binomialBitsSpec)) binomialBitsUptoCard

/-- THE SECOND FORM's CARD OF 'slagheaplaw07.BinomialPlays'. -/
def binomialPlaysUptoCard : Claim7 := { stood := { row := binomialPlaysUptoRow, standIns := [], harness := (true, "7d835ec8edaac35a5f3cd910e564555834e3014f853308cd7d0e0b4bbb1fc68a"), looks := false }, kinds := [], alts := [], laidByText := true, laidKinds := [.data, .data, .data], laidTests := true, laidLooks := .later }
def BinomialPlaysUptoCardSaid : Prop := Claim7.holds Tryd.pinned (.plain (OpenSpec.upto binomialPlaysSpec)) binomialPlaysUptoCard
end Rows
end Go.Proofs.YtenhjgdflgcjnaaDoor
