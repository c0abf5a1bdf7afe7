/-
A great region's operations, fetched one by one.
-/
import Derived.Test.YtceamdacacacjaaDoorKaQ
namespace Go.Proofs.YtceamdacacacjaaDoor
open Go
set_option linter.unusedVariables false
theorem wpOrd_get {P : Program} {ops : Array Oper} {Q : Exit → Act → World → Prop} {S : World → Prop} {l : List Oper} {i : Nat} {b : Bool} {r : List (Nat × Bool)} {x : Oper} {a : Act} {w : World} (ho : l.getD i default = x) (h : wpOrd P ops Q S ((x, b) :: ordOps l r) a w) : wpOrd P ops Q S (ordOps l ((i, b) :: r)) a w := by
  subst ho; exact h
end Go.Proofs.YtceamdacacacjaaDoor
