/-
Rows of elements: put where it belongs, sorted, joined, compared.
-/
import Derived.Test.YteigmfkkeofcaaaGreatDoorNaElem
import Derived.Test.YteigmfkkeofcaaaGreatDoorKbRow
namespace Go.Proofs.YteigmfkkeofcaaaGreatDoor
open Go Go.RowKit
set_option linter.unusedVariables false

theorem infoE : ElemInfo Tryz.prog 39 32 (.agg #[.int .i64 0, .int .i64 0]) 2 16 :=
  ⟨Tryz.underlying39, info_parts (by kernel_rfl), rfl, by decide⟩
theorem elC_one (l : List El) : ∀ u ∈ l.flatMap elC, u.oneCell' = true := by
  intro u hu
  obtain ⟨a, _, ha⟩ := List.mem_flatMap.1 hu
  simp only [elC, List.mem_cons, List.mem_nil_iff, or_false] at ha
  rcases ha with rfl | rfl <;> rfl
theorem elC_take (l : List El) (k : Nat) : (l.flatMap elC).take (k * 2) = (l.take k).flatMap elC := by
  induction l generalizing k with
  | nil => simp
  | cons a l ih =>
    cases k with
    | zero => simp
    | succ k =>
      rw [List.flatMap_cons, List.take_succ_cons, List.flatMap_cons, ← ih k, show (k + 1) * 2 = k * 2 + 1 + 1 by omega]
      rfl
theorem elC_drop (l : List El) (k : Nat) : (l.flatMap elC).drop (k * 2) = (l.drop k).flatMap elC := by
  induction l generalizing k with
  | nil => simp
  | cons a l ih =>
    cases k with
    | zero => simp
    | succ k =>
      rw [List.flatMap_cons, List.drop_succ_cons, ← ih k, show (k + 1) * 2 = k * 2 + 1 + 1 by omega]
      rfl
/-- A settled slice, up to an index: 's[:k]'. -/
theorem SliceRep.upto {H : GH} {size n cap : Nat} {a : Option Addr} {xs : List Value} (h : SliceRep H size (.slice a n cap) n xs) (k : Nat) (hk : k ≤ n) : SliceRep H size (.slice a k cap) k (xs.take (k * size)) := by
  refine ⟨by rw [List.length_take, h.1]; exact Nat.min_eq_left (Nat.mul_le_mul_right _ hk), ?_⟩
  rcases h.2 with ⟨h0, a', cap', h1, h2⟩ | ⟨b, off, cap', cs, T, f, h1, h2, h3, h4, h5⟩
  · simp only [Value.slice.injEq] at h1
    obtain ⟨rfl, rfl, rfl⟩ := h1
    exact .inl ⟨by omega, _, cap, by rw [show k = 0 by omega], h2⟩
  · simp only [Value.slice.injEq] at h1
    obtain ⟨rfl, _, rfl⟩ := h1
    refine .inr ⟨b, off, cap, cs, T, f, rfl, by omega, h3, h4, fun j u hj => ?_⟩
    rw [List.getElem?_take] at hj
    split at hj
    · exact h5 j u hj
    · cases hj
theorem ElRep.upto {H : GH} {n cap : Nat} {a : Option Addr} {l : List El} (h : ElRep H (.slice a n cap) l) (hn : n = l.length) (k : Nat) (hk : k ≤ n) : SliceRep H 2 (.slice a k cap) k ((l.take k).flatMap elC) := by
  subst hn
  rw [← elC_take]; exact SliceRep.upto h k hk
theorem ElRep.from {H : GH} {n cap : Nat} {a : Option Addr} {l : List El} (h : ElRep H (.slice a n cap) l) (hn : n = l.length) (k : Nat) (hk : k ≤ n) : SliceRep H 2 (.slice (if cap = k then a else Option.map (fun x => x.add (k * 2)) a) (n - k) (cap - k)) (n - k) ((l.drop k).flatMap elC) := by
  subst hn
  rw [← elC_drop]; exact SliceRep.from h k hk


theorem sumE_snoc (a b : List El) (x : El) : sumE a (b ++ [x]) = putE (sumE a b) x := by simp [sumE, List.foldl_append]
theorem sumE_nil (a : List El) : sumE a [] = a := rfl


end Go.Proofs.YteigmfkkeofcaaaGreatDoor
