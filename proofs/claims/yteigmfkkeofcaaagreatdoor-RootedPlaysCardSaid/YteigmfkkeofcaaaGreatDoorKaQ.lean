/-
Steps that hide what follows a panic from the simplifier: an operation that does not panic is shown under any such law.
-/
import Derived.Test.YteigmfkkeofcaaaGreatDoorGbUon
namespace Go.Proofs.YteigmfkkeofcaaaGreatDoor
open Go
set_option linter.unusedVariables false
section
variable {P : Program} {ops : Array Oper} {Q : Exit → Act → World → Prop} {o : Oper} {rest : List Oper} {a : Act} {w : World} {S : World → Prop}

theorem wpList_plainQ (hg : o.guard = none) (h : ∀ (K : Act → World → Prop) (Q' : Exit → Act → World → Prop), (∀ a w, wpList P ops Q rest a w → K a w) → o.wp P a w K Q') : wpList P ops Q (o :: rest) a w :=
  wpList_plain hg fun K hK => h K Q hK
theorem wpList_stepQ (h : ∀ (K : Act → World → Prop) (Q' : Exit → Act → World → Prop), (∀ a w, wpList P ops Q rest a w → K a w) →
    if Region.wanted o (yielded ops a.tmps) then o.wp P a w K Q' else K (a.put o.dst undef) w) : wpList P ops Q (o :: rest) a w :=
  wpList_step fun K hK => h K Q hK
theorem wpOrd_effQ {r : List (Oper × Bool)} (hg : Region.wanted o (yielded ops a.tmps) = true)
    (h : ∀ (K : Act → World → Prop) (Q' : Exit → Act → World → Prop), (∀ a' w', S w' → wpOrd P ops Q S r a' w' → K a' w') → o.wp P a w K Q') : wpOrd P ops Q S ((o, false) :: r) a w :=
  wpOrd_eff hg fun K hK => h K Q hK
/-- A region's law is hidden while it is walked. -/
theorem wpOrd_hide {l : List (Oper × Bool)} (hQ : ∀ c (a : Act) d v w, Q (.panic c) (a.put d v) w → Q (.panic c) a w)
    (h : ∀ QR : Exit → Act → World → Prop, (∀ a w, Q .normal a w → QR .normal a w) → (∀ c (a : Act) d v w, QR (.panic c) (a.put d v) w → QR (.panic c) a w) → wpOrd P ops QR S l a w) : wpOrd P ops Q S l a w :=
  h Q (fun _ _ h => h) hQ
end
end Go.Proofs.YteigmfkkeofcaaaGreatDoor
