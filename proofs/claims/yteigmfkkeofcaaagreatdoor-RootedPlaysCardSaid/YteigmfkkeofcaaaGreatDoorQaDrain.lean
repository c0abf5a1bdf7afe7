/-
A heap's elements, taken out one by one.
-/
import Derived.Test.YteigmfkkeofcaaaGreatDoorPaHeap
import Derived.Test.YteigmfkkeofcaaaGreatDoorNbRef
namespace Go.Proofs.YteigmfkkeofcaaaGreatDoor
open Go Go.RowKit
set_option linter.unusedVariables false

/-- What is taken out, so many at most. -/
def drainL : Nat → Hp → List El
  | 0, _ => []
  | n + 1, t => match Hp.min? t with
    | none => []
    | some x => x :: drainL n (Hp.pop t)
theorem drainL_none (n : Nat) {t : Hp} (h : Hp.min? t = none) : drainL n t = [] := by
  cases n with
  | zero => rfl
  | succ n => unfold drainL; rw [h]
theorem drainL_some (n : Nat) {t : Hp} {x : El} (h : Hp.min? t = some x) : drainL (n + 1) t = x :: drainL n (Hp.pop t) := by
  rw [drainL, h]
theorem drainL_take (n : Nat) (t : Hp) (ht : Hp.ok t) : drainL n t = (sortE (Hp.els t)).take n := by
  induction n generalizing t with
  | zero => simp [drainL]
  | succ n ih =>
    cases h : Hp.min? t with
    | none => rw [drainL_none _ h, Hp.min_none ht h]; rfl
    | some x =>
      rw [drainL_some n h, ih _ (Hp.ok_pop ht), ← sortE_congr (Hp.min_perm ht h), sortE_cons_least (Hp.min_least ht h)]
      rfl
theorem drainL_all (n : Nat) (t : Hp) (ht : Hp.ok t) (hn : Hp.size t ≤ n) : drainL n t = sortE (Hp.els t) := by
  rw [drainL_take n t ht, List.take_of_length_le]
  rw [sortE_length]; exact hn
theorem Hp.size_pop {t : Hp} (ht : Hp.ok t) : Hp.size (Hp.pop t) ≤ Hp.size t := by
  cases h : Hp.min? t with
  | none =>
    cases hs : Hp.els (Hp.pop t) with
    | nil => rw [Hp.size_eq, hs]; simp
    | cons a l =>
      have e := Hp.min_none ht h
      rw [Hp.pop_none ht h]
      exact Nat.le_refl _
  | some x =>
    have := (Hp.min_perm ht h).length_eq
    rw [Hp.size_eq, Hp.size_eq]
    simp at this
    omega


end Go.Proofs.YteigmfkkeofcaaaGreatDoor
