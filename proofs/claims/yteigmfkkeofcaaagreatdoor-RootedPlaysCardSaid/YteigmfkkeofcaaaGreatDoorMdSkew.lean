/-
Skew binomial heaps as plain data: rows of trees.
-/
import Derived.Test.YteigmfkkeofcaaaGreatDoorMcRank
namespace Go.Proofs.YteigmfkkeofcaaaGreatDoor
set_option linter.unusedVariables false
namespace Sk
variable {α : Type} (key : α → El)
/-- Trees whose ranks all rise. -/
def level : List (Tr α) → List (Tr α)
  | [] => []
  | t :: l => Rw.put key t l
def levelN : List (Tr α) → Nat
  | [] => 0
  | t :: l => Rw.putN key t l
def meld (a b : List (Tr α)) : List (Tr α) := Rw.meld key (level key a) (level key b)
def meldN (a b : List (Tr α)) : Nat := levelN key a + levelN key b + Rw.meldN key (level key a) (level key b)
def insert (x : α) : List (Tr α) → List (Tr α)
  | a :: b :: r => if a.rank = b.rank then Tr.skew key x a b :: r else Tr.leaf x :: a :: b :: r
  | [a] => [Tr.leaf x, a]
  | [] => [Tr.leaf x]
/-- How many comparisons putting in makes. -/
def insC : List (Tr α) → Nat
  | a :: b :: _ => if a.rank = b.rank then 2 else 0
  | _ => 0
def insD : List (Tr α) → Nat
  | a :: b :: _ => if a.rank = b.rank then 2 else 1
  | _ => 1
/-- Things put in, one by one. -/
def inserts (l : List (Tr α)) (xs : List α) : List (Tr α) := xs.foldl (fun l x => insert key x l) l
def insertsC (l : List (Tr α)) : List α → Nat
  | [] => 0
  | x :: xs => insC l + insertsC (insert key x l) xs
def insertsD (l : List (Tr α)) : List α → Nat
  | [] => 0
  | x :: xs => insD l + insertsD (insert key x l) xs
theorem inserts_snoc (l : List (Tr α)) (xs : List α) (x : α) : inserts key l (xs ++ [x]) = insert key x (inserts key l xs) := by unfold inserts; rw [List.foldl_append]; rfl
theorem insertsC_snoc (l : List (Tr α)) (xs : List α) (x : α) : insertsC key l (xs ++ [x]) = insertsC key l xs + insC (inserts key l xs) := by
  induction xs generalizing l with
  | nil => show insC l + 0 = 0 + insC l; omega
  | cons y xs ih => show insC l + insertsC key (insert key y l) (xs ++ [x]) = insC l + insertsC key (insert key y l) xs + insC (inserts key (insert key y l) xs); rw [ih]; omega
theorem insertsD_snoc (l : List (Tr α)) (xs : List α) (x : α) : insertsD key l (xs ++ [x]) = insertsD key l xs + insD (inserts key l xs) := by
  induction xs generalizing l with
  | nil => show insD l + 0 = 0 + insD l; omega
  | cons y xs ih => show insD l + insertsD key (insert key y l) (xs ++ [x]) = insD l + insertsD key (insert key y l) xs + insD (inserts key (insert key y l) xs); rw [ih]; omega
/-- What is left of a tree that is taken out, and of the others. -/
def after (t : Tr α) (l : List (Tr α)) : List (Tr α) := Rw.meld key t.k.toL.reverse (level key l)
def afterN (t : Tr α) (l : List (Tr α)) : Nat := levelN key l + Rw.meldN key t.k.toL.reverse (level key l)
def pop (l : List (Tr α)) : List (Tr α) := match Rw.minT key l with
  | none => []
  | some t => inserts key (after key t (l.eraseIdx (Rw.least key l))) t.b
def popC (l : List (Tr α)) : Nat := match Rw.minT key l with
  | none => 0
  | some t => (l.length - 1) + afterN key t (l.eraseIdx (Rw.least key l)) + insertsC key (after key t (l.eraseIdx (Rw.least key l))) t.b
def popD (l : List (Tr α)) : Nat := match Rw.minT key l with
  | none => 0
  | some t => afterN key t (l.eraseIdx (Rw.least key l)) + insertsD key (after key t (l.eraseIdx (Rw.least key l))) t.b

theorem level_perm (l : List (Tr α)) : (Rw.els (level key l)).Perm (Rw.els l) := by
  cases l with
  | nil => exact List.Perm.refl _
  | cons t l => rw [Rw.els_cons]; exact Rw.put_perm key t l
theorem level_ok {l : List (Tr α)} (h : Rw.ok key l) : Rw.ok key (level key l) := by
  cases l with
  | nil => exact h
  | cons t l => exact Rw.put_ok key (h t (by simp)) fun s hs => h s (by simp [hs])
theorem level_size (l : List (Tr α)) : Rw.size (level key l) = Rw.size l := (level_perm key l).length_eq
theorem meld_perm (a b : List (Tr α)) : (Rw.els (meld key a b)).Perm (Rw.els a ++ Rw.els b) := (Rw.meld_perm key _ _).trans ((level_perm key a).append (level_perm key b))
theorem meld_ok {a b : List (Tr α)} (ha : Rw.ok key a) (hb : Rw.ok key b) : Rw.ok key (meld key a b) := Rw.meld_ok key (level_ok key ha) (level_ok key hb)
theorem leaf_ok (x : α) : (Tr.leaf x).ok key := ⟨by simp [Tr.leaf, RT.els], trivial⟩
theorem leaf_els (x : α) : (Tr.leaf x).els = [x] := by simp [Tr.leaf, Tr.els, RT.els]
theorem insert_eq {x : α} {a b : Tr α} (r : List (Tr α)) (h : a.rank = b.rank) : insert key x (a :: b :: r) = Tr.skew key x a b :: r := if_pos h
theorem insert_ne {x : α} {a b : Tr α} (r : List (Tr α)) (h : ¬ a.rank = b.rank) : insert key x (a :: b :: r) = Tr.leaf x :: a :: b :: r := if_neg h
theorem insert_cases (x : α) (l : List (Tr α)) : insert key x l = Tr.leaf x :: l ∨ ∃ a b r, l = a :: b :: r ∧ a.rank = b.rank ∧ insert key x l = Tr.skew key x a b :: r := by
  match l with
  | [] => exact .inl rfl
  | [a] => exact .inl rfl
  | a :: b :: r =>
    by_cases h : a.rank = b.rank
    · exact .inr ⟨a, b, r, rfl, h, insert_eq key r h⟩
    · exact .inl (insert_ne key r h)
theorem insert_perm (x : α) (l : List (Tr α)) : (Rw.els (insert key x l)).Perm (x :: Rw.els l) := by
  rcases insert_cases key x l with h | ⟨a, b, r, rfl, _, h⟩
  · rw [h, Rw.els_cons, leaf_els]; exact List.Perm.refl _
  · rw [h, Rw.els_cons, Rw.els_cons, Rw.els_cons, ← List.append_assoc, ← List.cons_append]
    exact (Tr.skew_perm key x a b).append_right _
theorem insert_ok (x : α) {l : List (Tr α)} (hl : Rw.ok key l) : Rw.ok key (insert key x l) := by
  rcases insert_cases key x l with h | ⟨a, b, r, rfl, _, h⟩
  · rw [h]
    intro s hs
    rcases List.mem_cons.1 hs with rfl | hs
    · exact leaf_ok key x
    · exact hl s hs
  · rw [h]
    intro s hs
    rcases List.mem_cons.1 hs with rfl | hs
    · exact Tr.skew_ok key x (hl a (by simp)) (hl b (by simp))
    · exact hl s (by simp [hs])
theorem insert_size (x : α) (l : List (Tr α)) : Rw.size (insert key x l) = Rw.size l + 1 := (insert_perm key x l).length_eq
theorem inserts_perm (xs : List α) (l : List (Tr α)) : (Rw.els (inserts key l xs)).Perm (xs ++ Rw.els l) := by
  unfold inserts
  induction xs generalizing l with
  | nil => exact List.Perm.refl _
  | cons x xs ih =>
    refine (ih (insert key x l)).trans ?_
    refine ((insert_perm key x l).append_left xs).trans ?_
    exact List.perm_middle
theorem inserts_ok (xs : List α) {l : List (Tr α)} (hl : Rw.ok key l) : Rw.ok key (inserts key l xs) := by
  unfold inserts
  induction xs generalizing l with
  | nil => exact hl
  | cons x xs ih => exact ih (insert_ok key x hl)
theorem inserts_size (xs : List α) (l : List (Tr α)) : Rw.size (inserts key l xs) = xs.length + Rw.size l := by
  unfold Rw.size; rw [(inserts_perm key xs l).length_eq, List.length_append]
theorem after_perm (t : Tr α) (l : List (Tr α)) : (Rw.els (after key t l)).Perm (t.k.els ++ Rw.els l) := by
  refine (Rw.meld_perm key _ _).trans (List.Perm.append ?_ (level_perm key l))
  rw [← Rw.toL_els t.k]
  exact Rw.els_perm (List.reverse_perm _)
theorem after_ok {t : Tr α} {l : List (Tr α)} (ht : t.ok key) (hl : Rw.ok key l) : Rw.ok key (after key t l) :=
  Rw.meld_ok key (fun s hs => Rw.toL_ok key ht.2 s (List.mem_reverse.1 hs)) (level_ok key hl)
theorem pop_some {l : List (Tr α)} {t : Tr α} (h : Rw.minT key l = some t) : pop key l = inserts key (after key t (l.eraseIdx (Rw.least key l))) t.b := by unfold pop; rw [h]
theorem pop_none {l : List (Tr α)} (h : Rw.minT key l = none) : pop key l = [] := by unfold pop; rw [h]
theorem pop_ok {l : List (Tr α)} (hl : Rw.ok key l) : Rw.ok key (pop key l) := by
  cases hm : Rw.minT key l with
  | none => rw [pop_none key hm]; intro s hs; simp at hs
  | some t => rw [pop_some key hm]; exact inserts_ok key _ (after_ok key (hl t (Rw.minT_mem key hm)) (Rw.ok_erase key hl _))
/-- The least one's tree, and what is left. -/
theorem pop_perm {l : List (Tr α)} {t : Tr α} (h : Rw.minT key l = some t) : (t.x :: Rw.els (pop key l)).Perm (Rw.els l) := by
  rw [pop_some key h]
  refine List.Perm.trans ?_ (Rw.els_perm (Rw.minT_perm key h))
  rw [Rw.els_cons]
  show List.Perm _ ((t.x :: (t.b ++ t.k.els)) ++ _)
  rw [List.cons_append, List.append_assoc]
  exact List.Perm.cons _ ((inserts_perm key t.b _).trans ((after_perm key t _).append_left _))
end Sk
end Go.Proofs.YteigmfkkeofcaaaGreatDoor
