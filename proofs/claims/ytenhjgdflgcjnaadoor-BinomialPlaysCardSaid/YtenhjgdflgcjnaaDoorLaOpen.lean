/-
Slices that came in, opened: every element's cells, whatever its type.
-/
import Derived.Test.YtenhjgdflgcjnaaDoorGbUon
import Derived.Deep.Slices
import Derived.ChangeSame
namespace Go.Proofs.YtenhjgdflgcjnaaDoor
open Go Go.RowKit Go.ChangeShapes Go.WideShapes Go.Deep
set_option linter.unusedVariables false

theorem flat_length {α β : Type} (f : α → List β) (n : Nat) (l : List α) (h : ∀ x ∈ l, (f x).length = n) : (l.flatMap f).length = l.length * n := by
  induction l with
  | nil => simp
  | cons x l ih =>
    rw [List.flatMap_cons, List.length_append, ih fun y hy => h y (by simp [hy]), h x (by simp), List.length_cons, Nat.succ_mul]
    omega
theorem flat_get {α β : Type} (f : α → List β) (n : Nat) (l : List α) (h : ∀ x ∈ l, (f x).length = n) (j : Nat) (u : β) (hj : (l.flatMap f)[j]? = some u) :
    ∃ k i x, j = k * n + i ∧ i < n ∧ l[k]? = some x ∧ (f x)[i]? = some u := by
  induction l generalizing j with
  | nil => simp at hj
  | cons x l ih =>
    rw [List.flatMap_cons] at hj
    have hx := h x (by simp)
    by_cases hlt : j < n
    · rw [List.getElem?_append_left (by omega)] at hj
      exact ⟨0, j, x, by omega, hlt, rfl, hj⟩
    · rw [List.getElem?_append_right (by omega), hx] at hj
      obtain ⟨k, i, y, e, hi, hy, hu⟩ := ih (fun y hy => h y (by simp [hy])) (j - n) hj
      exact ⟨k + 1, i, y, by rw [Nat.succ_mul]; omega, hi, by simpa using hy, hu⟩

/-- A slice that came in: its elements, by what one element's cells read as. -/
theorem open_rows {H : Type} {enc : TypeId × Value → H} {P : Program} {w : World} {spare : Nat → Bool} {held : Bool} {α : Type} [Inhabited α] {t e : TypeId} {a0 : Option Addr} {len cap fuel : Nat} {x : DataW H × List MemPlace}
    (f : α → List Value) (ok : α → Prop) (n : Nat) (hn : 0 < n) (hf : ∀ x, (f x).length = n) (ht : P.underlying t = some (.slice e)) (hC : P.cellsOf e = n)
    (hel : ∀ cs m y, cs.length = n → DataW.trod enc P w 0 spare held m e cs = some y → ∃ x, ok x ∧ cs = f x)
    (h : DataW.trod enc P w 0 spare held fuel t [.slice a0 len cap] = some x) :
    ∃ ls : List α, len = ls.length ∧ (∀ a ∈ ls, ok a) ∧ SliceRep (wholeGH w) n (.slice a0 len cap) ls.length (ls.flatMap f) := by
  rcases open_slice ht h with ⟨hcs, _⟩ | ⟨a, len', cap', m, fu, D, Pl, hcs, _, hl, hm, hmm, _, hx⟩
  · simp only [List.cons.injEq, Value.slice.injEq, and_true] at hcs
    obtain ⟨rfl, rfl, rfl⟩ := hcs
    exact ⟨[], rfl, by simp, SliceRep.nil _ _⟩
  · simp only [List.cons.injEq, Value.slice.injEq, and_true] at hcs
    obtain ⟨rfl, rfl, rfl⟩ := hcs
    have hle : len ≤ m := by rw [hmm]; split <;> omega
    obtain ⟨F, hF⟩ := choose_lt (α := α) (n := len) (p := fun i x => ok x ∧ ∀ j u, j < n → (f x)[j]? = some u → w.cell? (a.add (i * n + j)) = some u) (fun i hi => by
      obtain ⟨cs', h1, h2⟩ := hx i (by omega)
      rw [hC] at h1
      obtain ⟨_, hlen, hat⟩ := World.cells?_some h1
      obtain ⟨y, hy, rfl⟩ := hel cs' _ _ hlen h2
      refine ⟨y, hy, fun j u hj hu => ?_⟩
      have := hat j hj
      rw [add_add, hu] at this
      exact this)
    have hlen : ((List.range len).map F).length = len := by simp
    refine ⟨(List.range len).map F, hlen.symm, fun y hy => ?_, ?_⟩
    · obtain ⟨i, hi, rfl⟩ := List.mem_map.1 hy
      exact (hF i (List.mem_range.1 hi)).1
    · rw [hlen]
      refine rep_whole (by rw [flat_length f n _ (fun y _ => hf y), hlen]) hn hl hm (fun j u hj => ?_)
      obtain ⟨k, i, y, rfl, hi, hy, hu⟩ := flat_get f n _ (fun y _ => hf y) j u hj
      rw [List.getElem?_map] at hy
      obtain ⟨k', hk', rfl⟩ := Option.map_eq_some_iff.1 hy
      obtain ⟨hk1, rfl⟩ := List.getElem?_eq_some_iff.1 hk'
      simp only [List.length_range] at hk1
      simp only [List.getElem_range] at hu
      exact (hF k hk1).2 i u hi hu
end Go.Proofs.YtenhjgdflgcjnaaDoor
