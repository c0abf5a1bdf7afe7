/-
Pairing heaps as plain trees: what each operation makes, and what it keeps.
-/
import Derived.Test.YtnimanhoegbicaaDoorMaSet
namespace Go.Proofs.YtnimanhoegbicaaDoor
set_option linter.unusedVariables false

/-- Trees side by side: the first one's root, the trees below it, the trees behind it. -/
inductive PT where
  | nil
  | node (x : El) (k : PT) (n : PT)

namespace PT
/-- All elements. -/
def els : PT → List El
  | nil => []
  | node x k n => x :: (els k ++ els n)
/-- How many trees stand side by side. -/
def len : PT → Nat
  | nil => 0
  | node _ _ n => len n + 1
def size (t : PT) : Nat := (els t).length
/-- In every tree the root is the least. -/
def ok : PT → Prop
  | nil => True
  | node x k n => (∀ y ∈ els k, El.le x y) ∧ ok k ∧ ok n
/-- A heap: one tree, or none. -/
def one : PT → Prop
  | nil => True
  | node _ _ n => n = nil
theorem one_cases {t : PT} (h : one t) : t = nil ∨ ∃ x k, t = node x k nil := by
  cases t with
  | nil => exact .inl rfl
  | node x k n => obtain rfl : n = nil := h; exact .inr ⟨x, k, rfl⟩
def meld : PT → PT → PT
  | nil, o => o
  | node x k n, nil => node x k n
  | node x k _, node y j _ => if El.lt y x then node y (node x k j) nil else node x (node y j k) nil
theorem meld_node (x y : El) (k n j m : PT) : meld (node x k n) (node y j m) = if El.lt y x then node y (node x k j) nil else node x (node y j k) nil := rfl
/-- How many comparisons melding makes, and how many things. -/
def meldN : PT → PT → Nat
  | node _ _ _, node _ _ _ => 1
  | _, _ => 0
def insert (x : El) (t : PT) : PT := meld (node x nil nil) t
def pair : PT → PT
  | nil => nil
  | node x k nil => node x k nil
  | node x k (node y j n) => meld (meld (node x k nil) (node y j nil)) (pair n)
def pairN : PT → Nat
  | nil => 0
  | node _ _ nil => 0
  | node x k (node y j n) => 1 + pairN n + meldN (meld (node x k nil) (node y j nil)) (pair n)
def pop : PT → PT
  | nil => nil
  | node _ k _ => pair k
def popN : PT → Nat
  | nil => 0
  | node _ k _ => pairN k
def min? : PT → Option El
  | nil => none
  | node x _ _ => some x

theorem one_meld {s t : PT} (hs : one s) (ht : one t) : one (meld s t) := by
  rcases one_cases hs with rfl | ⟨x, k, rfl⟩
  · exact ht
  · rcases one_cases ht with rfl | ⟨y, j, rfl⟩
    · rfl
    · rw [meld_node]; split <;> rfl
theorem one_insert (x : El) {t : PT} (ht : one t) : one (insert x t) := one_meld rfl ht
theorem one_pair (t : PT) : one (pair t) := by
  induction t using pair.induct with
  | case1 => trivial
  | case2 => rfl
  | case3 x k y j n ih =>
    unfold pair
    exact one_meld (one_meld rfl rfl) ih
theorem one_pop (t : PT) : one (pop t) := by
  cases t with
  | nil => trivial
  | node x k n => exact one_pair k

theorem meld_perm {s t : PT} (hs : one s) (ht : one t) : (els (meld s t)).Perm (els s ++ els t) := by
  rcases one_cases hs with rfl | ⟨x, k, rfl⟩
  · exact List.Perm.refl _
  · rcases one_cases ht with rfl | ⟨y, j, rfl⟩
    · simp [meld, els]
    · rw [meld_node]
      split
      · simp only [els, List.append_nil]
        refine List.Perm.trans ?_ (List.perm_append_comm (l₁ := y :: els j))
        rw [List.cons_append]
        exact List.Perm.cons y (List.perm_append_comm (l₁ := x :: els k) (l₂ := els j))
      · simp only [els, List.append_nil, List.cons_append]
        exact List.Perm.cons x (List.perm_append_comm (l₁ := y :: els j) (l₂ := els k))
theorem meld_size {s t : PT} (hs : one s) (ht : one t) : size (meld s t) = size s + size t := by
  unfold size; rw [(meld_perm hs ht).length_eq, List.length_append]
theorem insert_perm (x : El) {t : PT} (ht : one t) : (els (insert x t)).Perm (x :: els t) := meld_perm rfl ht
theorem insert_size (x : El) {t : PT} (ht : one t) : size (insert x t) = size t + 1 := by
  unfold size; rw [(insert_perm x ht).length_eq]; rfl
theorem pair_perm (t : PT) : (els (pair t)).Perm (els t) := by
  induction t using pair.induct with
  | case1 => exact List.Perm.refl _
  | case2 => exact List.Perm.refl _
  | case3 x k y j n ih =>
    have a : one (node x k nil) := rfl
    have b : one (node y j nil) := rfl
    unfold pair
    refine (meld_perm (one_meld a b) (one_pair n)).trans ?_
    refine ((meld_perm a b).append ih).trans ?_
    simp [els]
theorem pair_size (t : PT) : size (pair t) = size t := (pair_perm t).length_eq

theorem ok_meld {s t : PT} (hs : one s) (ht : one t) (os : ok s) (ot : ok t) : ok (meld s t) := by
  rcases one_cases hs with rfl | ⟨x, k, rfl⟩
  · exact ot
  · rcases one_cases ht with rfl | ⟨y, j, rfl⟩
    · exact os
    · rw [meld_node]
      obtain ⟨h1, h2, _⟩ := os
      obtain ⟨h3, h4, _⟩ := ot
      split
      · rename_i h
        refine ⟨fun z hz => ?_, ⟨h1, h2, h4⟩, trivial⟩
        simp only [els, List.mem_cons, List.mem_append] at hz
        rcases hz with rfl | hz | hz
        · exact El.le_of_lt h
        · exact El.le_trans (El.le_of_lt h) (h1 z hz)
        · exact h3 z hz
      · rename_i h
        have h' : El.le x y := by unfold El.le; simpa using h
        refine ⟨fun z hz => ?_, ⟨h3, h4, h2⟩, trivial⟩
        simp only [els, List.mem_cons, List.mem_append] at hz
        rcases hz with rfl | hz | hz
        · exact h'
        · exact El.le_trans h' (h3 z hz)
        · exact h1 z hz
theorem ok_insert (x : El) {t : PT} (ht : one t) (ot : ok t) : ok (insert x t) := ok_meld rfl ht ⟨by simp [els], trivial, trivial⟩ ot
theorem ok_pair (t : PT) (h : ok t) : ok (pair t) := by
  induction t using pair.induct with
  | case1 => trivial
  | case2 x k => exact h
  | case3 x k y j n ih =>
    unfold pair
    obtain ⟨h1, h2, h3, h4, h5⟩ := h
    have a : one (node x k nil) := rfl
    have b : one (node y j nil) := rfl
    exact ok_meld (one_meld a b) (one_pair n) (ok_meld a b ⟨h1, h2, trivial⟩ ⟨h3, h4, trivial⟩) (ih h5)
theorem ok_pop (t : PT) (h : ok t) : ok (pop t) := by
  cases t with
  | nil => trivial
  | node x k n => exact ok_pair k h.2.1

/-- The least one and the others. -/
theorem min_perm {t : PT} (ht : one t) {x : El} (h : min? t = some x) : (x :: els (pop t)).Perm (els t) := by
  rcases one_cases ht with rfl | ⟨y, k, rfl⟩
  · cases h
  · obtain rfl := Option.some.inj h
    simp only [pop, els, List.append_nil]
    exact List.Perm.cons _ (pair_perm k)
theorem min_least {t : PT} (ht : one t) (ot : ok t) {x : El} (h : min? t = some x) : ∀ y ∈ els (pop t), El.le x y := by
  rcases one_cases ht with rfl | ⟨y, k, rfl⟩
  · cases h
  · obtain rfl := Option.some.inj h
    exact fun z hz => ot.1 z ((pair_perm k).subset hz)
theorem min_none {t : PT} (h : min? t = none) : els t = [] := by
  cases t with
  | nil => rfl
  | node => cases h

/-- The heap of elements put in one by one; how many comparisons that makes. -/
def ofS (l : List El) : PT × Nat := l.foldl (fun s x => (insert x s.1, s.2 + meldN (node x nil nil) s.1)) (nil, 0)
def ofL (l : List El) : PT := (ofS l).1
def ofN (l : List El) : Nat := (ofS l).2
theorem ofL_nil : ofL [] = nil := rfl
theorem ofN_nil : ofN [] = 0 := rfl
theorem ofL_snoc (l : List El) (x : El) : ofL (l ++ [x]) = insert x (ofL l) := by simp [ofL, ofS, List.foldl_append]
theorem ofN_snoc (l : List El) (x : El) : ofN (l ++ [x]) = ofN l + meldN (node x nil nil) (ofL l) := by simp [ofN, ofL, ofS, List.foldl_append]
theorem one_ofL_aux (l : List El) (s : PT × Nat) (h : one s.1) : one (l.foldl (fun s x => (insert x s.1, s.2 + meldN (node x nil nil) s.1)) s).1 := by
  induction l generalizing s with
  | nil => exact h
  | cons x l ih => exact ih _ (one_insert x h)
theorem one_ofL (l : List El) : one (ofL l) := one_ofL_aux l _ trivial
theorem ofL_perm_aux (l : List El) (s : PT × Nat) (h : one s.1) : (els (l.foldl (fun s x => (insert x s.1, s.2 + meldN (node x nil nil) s.1)) s).1).Perm (els s.1 ++ l) := by
  induction l generalizing s with
  | nil => simp
  | cons x l ih =>
    refine (ih _ (one_insert x h)).trans ?_
    refine ((insert_perm x h).append_right l).trans ?_
    exact List.perm_middle.symm
theorem ofL_perm (l : List El) : (els (ofL l)).Perm l := ofL_perm_aux l (nil, 0) trivial
theorem ofL_size (l : List El) : size (ofL l) = l.length := (ofL_perm l).length_eq
theorem ok_ofL_aux (l : List El) (s : PT × Nat) (h : one s.1) (o : ok s.1) : ok (l.foldl (fun s x => (insert x s.1, s.2 + meldN (node x nil nil) s.1)) s).1 := by
  induction l generalizing s with
  | nil => exact o
  | cons x l ih => exact ih _ (one_insert x h) (ok_insert x h o)
theorem ok_ofL (l : List El) : ok (ofL l) := ok_ofL_aux l (nil, 0) trivial trivial

/-- Two and two melded; what is left. -/
def twos : PT → List PT
  | nil => []
  | node _ _ nil => []
  | node x k (node y j n) => meld (node x k nil) (node y j nil) :: twos n
def last : PT → PT
  | nil => nil
  | node x k nil => node x k nil
  | node _ _ (node _ _ n) => last n
def foldN (z : PT) : List PT → Nat
  | [] => 0
  | t :: l => foldN z l + meldN t (l.foldr meld z)
theorem pair_eq (t : PT) : pair t = (twos t).foldr meld (last t) := by
  induction t using pair.induct with
  | case1 => rfl
  | case2 => rfl
  | case3 x k y j n ih => unfold pair twos last; rw [List.foldr_cons, ih]
theorem pairN_eq (t : PT) : pairN t = (twos t).length + foldN (last t) (twos t) := by
  induction t using pair.induct with
  | case1 => rfl
  | case2 => rfl
  | case3 x k y j n ih =>
    unfold pairN twos last foldN
    rw [ih, ← pair_eq, List.length_cons]
    omega
theorem one_last (t : PT) : one (last t) := by
  induction t using pair.induct with
  | case1 => trivial
  | case2 => rfl
  | case3 x k y j n ih => unfold last; exact ih
theorem one_twos (t : PT) : ∀ s ∈ twos t, one s := by
  induction t using pair.induct with
  | case1 => simp [twos]
  | case2 => simp [twos]
  | case3 x k y j n ih =>
    have a : one (node x k nil) := rfl
    have b : one (node y j nil) := rfl
    unfold twos
    intro s hs
    rcases List.mem_cons.1 hs with rfl | hs
    · exact one_meld a b
    · exact ih s hs
theorem one_foldr (l : List PT) (z : PT) (hl : ∀ s ∈ l, one s) (hz : one z) : one (l.foldr meld z) := by
  induction l with
  | nil => exact hz
  | cons s l ih => exact one_meld (hl s (by simp)) (ih fun s hs => hl s (by simp [hs]))
/-- How many elements the melded ones have. -/
theorem twos_size (t : PT) : ((twos t).map size).sum + size (last t) = size t := by
  induction t using pair.induct with
  | case1 => rfl
  | case2 => simp [twos, last]
  | case3 x k y j n ih =>
    have a : one (node x k nil) := rfl
    have b : one (node y j nil) := rfl
    unfold twos last
    have := meld_size a b
    simp [size, els] at *
    omega
theorem foldr_size (l : List PT) (z : PT) (hl : ∀ s ∈ l, one s) (hz : one z) : size (l.foldr meld z) = (l.map size).sum + size z := by
  induction l with
  | nil => simp
  | cons s l ih =>
    rw [List.foldr_cons, meld_size (hl s (by simp)) (one_foldr l z (fun s hs => hl s (by simp [hs])) hz), ih fun s hs => hl s (by simp [hs])]
    simp; omega
end PT
end Go.Proofs.YtnimanhoegbicaaDoor
