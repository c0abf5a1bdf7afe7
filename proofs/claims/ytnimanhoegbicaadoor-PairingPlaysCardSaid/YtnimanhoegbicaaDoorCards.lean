/-
  DERIVED. GIVEN WITH THE SEED: THE CARDS: each row of YtnimanhoegbicaaDoorRows.lean that lists a variable, with what it lists TIED to the program's text (the seventh form; the later family's looks); each row that meets fmt, with fmt's text TOLD by the authors' own Lean function (tested against real Go, not proved from fmt's source: count such statements apart). THE CARD IS WHAT COUNTS. Prove the row's statement (the work); the ties are given (YtnimanhoegbicaaDoorTie.lean); close each card by the builder's one call (the guide's Derived/Test/ToyasCard.lean, 'card_holds'). Laid BY PROGRAM, IN A SANDBOX (cutbox-door.mjs). By AI agents, Wed Nov 11 2026. No macro, syntax, notation, axiom, sorry.
-/
import Derived.Test.YtnimanhoegbicaaDoorRows
import GoSem.ClaimSeven
namespace Go.Proofs.YtnimanhoegbicaaDoor
namespace Rows

/-- THE TIED CARD OF 'slagheaplaw08.PairingPlays'. -/
def pairingPlaysCard : Claim7 := { stood := { row := pairingPlaysRow, standIns := [], harness := (true, "7dfb1737f6858a7d0b5c12c0efad6e711c28de05850fd0d69fd6c254010b682b"), looks := false }, kinds := [], alts := [], laidByText := true, laidKinds := [.data, .data, .data], laidTests := true, laidLooks := .later }
def PairingPlaysCardSaid : Prop := Claim7.holds Tryd.pinned (.plain (OpenSpec.ofChange pairingPlaysSpec)) pairingPlaysCard

/-- THE SECOND FORM's CARD OF 'slagheaplaw08.PairingPlays'. -/
def pairingPlaysUptoCard : Claim7 := { stood := { row := pairingPlaysUptoRow, standIns := [], harness := (true, "7dfb1737f6858a7d0b5c12c0efad6e711c28de05850fd0d69fd6c254010b682b"), looks := false }, kinds := [], alts := [], laidByText := true, laidKinds := [.data, .data, .data], laidTests := true, laidLooks := .later }
def PairingPlaysUptoCardSaid : Prop := Claim7.holds Tryd.pinned (.plain (OpenSpec.upto pairingPlaysSpec)) pairingPlaysUptoCard
end Rows
end Go.Proofs.YtnimanhoegbicaaDoor
