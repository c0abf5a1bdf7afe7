/-
A heap among heaps: where it lies, and what it is.
-/
import Derived.Test.YtkhjcmbppcimnaaGreatDoorMgBoot
import Derived.Test.YtkhjcmbppcimnaaGreatDoorNaElem
namespace Go.Proofs.YtkhjcmbppcimnaaGreatDoor
open Go Go.RowKit
set_option linter.unusedVariables false

/-- Where a heap lies, and what it is. -/
abbrev Bp := Option Addr × BH
abbrev bpV (x : Bp) : Value := .agg #[.pointer x.1]
/-- Its root lies there. -/
def NodeK (H : GH) (x : Bp) : Prop := ∃ (b : Nat) (qa : Option Addr), x.1 = some ⟨b, 0, none⟩ ∧ H b = some (.cells #[.int .i64 x.2.root.1, .int .i64 x.2.root.2, .pointer qa] 74)
theorem NodeK.mono {H H' : GH} {x : Bp} (h : NodeK H x) (hl : H.le H') : NodeK H' x := by
  obtain ⟨b, qa, h1, h2⟩ := h
  exact ⟨b, qa, h1, hl _ _ h2⟩
theorem bpFlat (l : List Bp) : l.flatMap (fun x => [Value.pointer x.1]) = l.map fun x => Value.pointer x.1 := by
  induction l with
  | nil => rfl
  | cons x l ih => rw [List.flatMap_cons, ih]; rfl
theorem bpCells {H : GH} {b off n cap : Nat} {l : List Bp} (h : SliceRep H 1 (.slice (some ⟨b, off, none⟩) n cap) n (l.flatMap (fun x => [Value.pointer x.1]))) {k : Nat} {a : Bp} (hk : l[k]? = some a) :
    Hid (∀ W, Fits W H → W.cell? ⟨b, off + k, none⟩ = some (.pointer a.1)) ∧ Hid (∀ W, Fits W H → W.cell? ⟨b, off + k, none⟩ = some (.pointer a.1)) := by
  rw [bpFlat] at h
  have h1 : Hid (∀ W, Fits W H → W.cell? ⟨b, off + k, none⟩ = some (.pointer a.1)) := fun W hF => h.cell hF k (by rw [List.getElem?_map, hk]; rfl)
  exact ⟨h1, h1⟩
end Go.Proofs.YtkhjcmbppcimnaaGreatDoor
