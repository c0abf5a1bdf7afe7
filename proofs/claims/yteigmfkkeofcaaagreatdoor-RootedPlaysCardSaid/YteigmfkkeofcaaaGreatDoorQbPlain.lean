/-
What is least, and what is left, by the row in order: plain.
-/
import Derived.Test.YteigmfkkeofcaaaGreatDoorQbAwake
namespace Go.Proofs.YteigmfkkeofcaaaGreatDoor
open Go Go.RowKit
set_option linter.unusedVariables false
theorem Hp.sort_min {t : Hp} (ht : Hp.ok t) {x : El} (h : Hp.min? t = some x) : sortE (Hp.els t) = x :: sortE (Hp.els (Hp.pop t)) := by
  rw [← sortE_congr (Hp.min_perm ht h), sortE_cons_least (Hp.min_least ht h)]
theorem Hp.sort_none {t : Hp} (ht : Hp.ok t) (h : Hp.min? t = none) : sortE (Hp.els t) = [] := by
  rw [Hp.min_none ht h]; rfl
theorem Hp.min_of_cons {t : Hp} (ht : Hp.ok t) {x : El} {l : List El} (h : sortE (Hp.els t) = x :: l) : Hp.min? t = some x ∧ sortE (Hp.els (Hp.pop t)) = l := by
  cases hm : Hp.min? t with
  | none => rw [Hp.sort_none ht hm] at h; cases h
  | some y =>
    rw [Hp.sort_min ht hm] at h
    simp only [List.cons.injEq] at h
    exact ⟨by rw [h.1], h.2⟩
theorem Hp.min_of_nil {t : Hp} (ht : Hp.ok t) (h : sortE (Hp.els t) = []) : Hp.min? t = none := by
  cases hm : Hp.min? t with
  | none => rfl
  | some y => rw [Hp.sort_min ht hm] at h; cases h
theorem Hp.min_of_head {t : Hp} (ht : Hp.ok t) : Hp.min? t = (sortE (Hp.els t)).head? := by
  cases hs : sortE (Hp.els t) with
  | nil => exact Hp.min_of_nil ht hs
  | cons x l => exact (Hp.min_of_cons ht hs).1
theorem Hp.pop_perm {t : Hp} (ht : Hp.ok t) : (Hp.els (Hp.pop t)).Perm (sortE (Hp.els t)).tail := by
  cases hm : Hp.min? t with
  | none => rw [Hp.pop_none ht hm, Hp.min_none ht hm]; exact List.Perm.refl _
  | some x => rw [Hp.sort_min ht hm]; exact (sortE_perm _).symm
theorem Hp.isSome_iff {t : Hp} (ht : Hp.ok t) : (Hp.min? t).isSome = decide (0 < Hp.size t) := by
  rw [Hp.min_of_head ht, Hp.size_eq, ← sortE_length]
  cases sortE (Hp.els t) <;> simp
theorem put_first {o x : El} (R : List El) (h : El.lt x o = true) : putE (o :: R) x = x :: o :: R := by
  unfold putE
  simp [El.lt_asymm h]
theorem put_later {o x : El} {R : List El} (hs : Sorted (o :: R)) (h : El.lt x o = false) : putE (o :: R) x = o :: putE R x := by
  refine (putE_sorted _ x hs).unique ?_ ?_
  · refine List.pairwise_cons.2 ⟨fun y hy => ?_, putE_sorted _ x (List.pairwise_cons.1 hs).2⟩
    rcases List.mem_cons.1 ((putE_perm R x).subset hy) with rfl | hy
    · exact h
    · exact (List.pairwise_cons.1 hs).1 y hy
  · exact (putE_perm _ x).trans ((List.Perm.swap o x R).trans ((putE_perm R x).symm.cons o))
theorem Hp.ofL_snoc (l : List El) (x : El) : Hp.ofL (l ++ [x]) = Hp.insert x (Hp.ofL l) := by
  rw [Hp.ofL_eq, Hp.ofL_eq, List.foldl_append]; rfl
theorem Hp.size_meld {s t : Hp} (hs : Hp.ok s) (ht : Hp.ok t) : Hp.size (Hp.meld s t) = Hp.size s + Hp.size t := by
  rw [Hp.size_eq, (Hp.els_meld hs ht).length_eq, List.length_append]; rfl
theorem Hp.size_insert (x : El) {t : Hp} (ht : Hp.ok t) : Hp.size (Hp.insert x t) = Hp.size t + 1 := by
  rw [Hp.size_eq, (Hp.els_insert x ht).length_eq]; rfl
theorem Hp.size_ofL (l : List El) : Hp.size (Hp.ofL l) = l.length := by
  rw [Hp.size_eq, (Hp.els_ofL l).length_eq]
end Go.Proofs.YteigmfkkeofcaaaGreatDoor
