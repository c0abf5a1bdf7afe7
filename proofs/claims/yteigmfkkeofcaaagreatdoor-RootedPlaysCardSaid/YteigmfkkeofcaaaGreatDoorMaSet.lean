/-
Elements, their order, and sorted rows of them: plain lists, no program in sight.
-/
namespace Go.Proofs.YteigmfkkeofcaaaGreatDoor
set_option linter.unusedVariables false

/-- An element: its two numbers. -/
abbrev El := Int × Int
def El.lt (a b : El) : Bool := decide (a.1 < b.1) || (decide (a.1 = b.1) && decide (a.2 < b.2))
theorem El.lt_iff (a b : El) : El.lt a b = true ↔ a.1 < b.1 ∨ (a.1 = b.1 ∧ a.2 < b.2) := by simp [El.lt]
theorem El.lt_false (a b : El) : El.lt a b = false ↔ ¬ (a.1 < b.1 ∨ (a.1 = b.1 ∧ a.2 < b.2)) := by rw [← El.lt_iff]; simp
theorem El.lt_irrefl (a : El) : El.lt a a = false := by rw [El.lt_false]; omega
theorem El.eq_of (a b : El) (h1 : El.lt a b = false) (h2 : El.lt b a = false) : a = b := by
  rw [El.lt_false] at h1 h2
  exact Prod.ext (by omega) (by omega)
theorem El.lt_asymm {a b : El} (h : El.lt a b = true) : El.lt b a = false := by
  rw [El.lt_iff] at h; rw [El.lt_false]; omega
theorem El.lt_trans {a b c : El} (h : El.lt a b = true) (k : El.lt b c = true) : El.lt a c = true := by
  rw [El.lt_iff] at *; omega
/-- At most. -/
def El.le (a b : El) : Prop := El.lt b a = false
theorem El.le_refl (a : El) : El.le a a := El.lt_irrefl a
theorem El.le_trans {a b c : El} (h : El.le a b) (k : El.le b c) : El.le a c := by
  unfold El.le at *; rw [El.lt_false] at *; omega
theorem El.le_antisymm {a b : El} (h : El.le a b) (k : El.le b a) : a = b := El.eq_of a b k h
theorem El.le_total (a b : El) : El.le a b ∨ El.le b a := by
  unfold El.le; rw [El.lt_false, El.lt_false]; omega
theorem El.le_of_lt {a b : El} (h : El.lt a b = true) : El.le a b := El.lt_asymm h

/-- A row with an element more, where it belongs: ahead of the first one that is not less. -/
def putE (l : List El) (x : El) : List El := l.takeWhile (fun y => El.lt y x) ++ x :: l.dropWhile (fun y => El.lt y x)
/-- How many of a row's first ones are less. -/
def lessN (l : List El) (x : El) : Nat := (l.takeWhile (fun y => El.lt y x)).length
theorem lessN_le (l : List El) (x : El) : lessN l x ≤ l.length := (List.takeWhile_sublist _).length_le
theorem putE_eq (l : List El) (x : El) : putE l x = l.take (lessN l x) ++ x :: l.drop (lessN l x) := by
  unfold putE lessN
  induction l with
  | nil => rfl
  | cons y l ih =>
    cases h : El.lt y x <;> simp [h]
    simpa using ih
theorem lessN_lt (l : List El) (x : El) (k : Nat) (hk : k < lessN l x) : ∃ y, l[k]? = some y ∧ El.lt y x = true := by
  unfold lessN at hk
  induction l generalizing k with
  | nil => simp at hk
  | cons y l ih =>
    cases h : El.lt y x
    · simp [h] at hk
    · simp [h] at hk
      cases k with
      | zero => exact ⟨y, rfl, h⟩
      | succ k => exact ih k (by omega)
theorem lessN_at (l : List El) (x y : El) (h : l[lessN l x]? = some y) : El.lt y x = false := by
  unfold lessN at h
  induction l with
  | nil => simp at h
  | cons z l ih =>
    cases hz : El.lt z x
    · simp [hz] at h
      exact h ▸ hz
    · simp [hz] at h
      exact ih h
theorem lessN_of (l : List El) (x : El) (k : Nat) (h1 : ∀ j, j < k → ∃ y, l[j]? = some y ∧ El.lt y x = true) (h2 : k = l.length ∨ ∃ y, l[k]? = some y ∧ El.lt y x = false) : lessN l x = k := by
  rcases Nat.lt_trichotomy (lessN l x) k with h | h | h
  · obtain ⟨y, e1, e2⟩ := h1 _ h
    rw [lessN_at l x y e1] at e2; cases e2
  · exact h
  · obtain ⟨y, e1, e2⟩ := lessN_lt l x k h
    rcases h2 with h2 | ⟨z, e3, e4⟩
    · have := lessN_le l x; omega
    · rw [e1] at e3; obtain rfl := Option.some.inj e3; rw [e2] at e4; cases e4
theorem putE_perm (l : List El) (x : El) : (putE l x).Perm (x :: l) := by
  unfold putE
  refine List.perm_middle.trans (List.Perm.cons x ?_)
  rw [List.takeWhile_append_dropWhile]
theorem putE_length (l : List El) (x : El) : (putE l x).length = l.length + 1 := by rw [(putE_perm l x).length_eq]; rfl

/-- In order. -/
abbrev Sorted (l : List El) : Prop := l.Pairwise El.le
theorem putE_sorted (l : List El) (x : El) (h : Sorted l) : Sorted (putE l x) := by
  unfold putE
  induction l with
  | nil => simp [Sorted]
  | cons y l ih =>
    rw [Sorted, List.pairwise_cons] at h
    cases hy : El.lt y x
    · simp only [List.takeWhile_cons, hy, List.dropWhile_cons, Bool.false_eq_true, if_false, List.nil_append]
      refine List.pairwise_cons.2 ⟨fun z hz => ?_, List.pairwise_cons.2 h⟩
      rcases List.mem_cons.1 hz with rfl | hz
      · exact hy
      · exact El.le_trans (show El.le x y from hy) (h.1 z hz)
    · simp only [List.takeWhile_cons, hy, List.dropWhile_cons, if_true, List.cons_append]
      refine List.pairwise_cons.2 ⟨fun z hz => ?_, ih h.2⟩
      have : z ∈ x :: l := (putE_perm l x).subset (by unfold putE; exact hz)
      rcases List.mem_cons.1 this with rfl | hz
      · exact El.le_of_lt hy
      · exact h.1 z hz
/-- Two rows in order, of the same elements, are the same. -/
theorem Sorted.unique {l k : List El} (hl : Sorted l) (hk : Sorted k) (h : l.Perm k) : l = k := by
  induction l generalizing k with
  | nil => exact (List.nil_perm.1 h).symm
  | cons x l ih =>
    cases k with
    | nil => exact absurd h.symm (by simp)
    | cons y k =>
      rw [Sorted, List.pairwise_cons] at hl hk
      have e : x = y := by
        have h1 : x ∈ y :: k := h.subset (by simp)
        have h2 : y ∈ x :: l := h.symm.subset (by simp)
        rcases List.mem_cons.1 h1 with e | h1
        · exact e
        · rcases List.mem_cons.1 h2 with e | h2
          · exact e.symm
          · exact El.le_antisymm (hl.1 _ h2) (hk.1 _ h1)
      subst e
      rw [ih hl.2 hk.2 (List.Perm.cons_inv h)]

/-- A row in order, of elements put in one by one. -/
def sumE (a b : List El) : List El := b.foldl putE a
def sortE (l : List El) : List El := sumE [] l
theorem sumE_perm (a b : List El) : (sumE a b).Perm (a ++ b) := by
  unfold sumE
  induction b generalizing a with
  | nil => simp
  | cons x b ih =>
    refine (ih (putE a x)).trans ?_
    refine ((putE_perm a x).append_right b).trans ?_
    exact List.perm_middle.symm
theorem sumE_sorted (a b : List El) (h : Sorted a) : Sorted (sumE a b) := by
  unfold sumE
  induction b generalizing a with
  | nil => exact h
  | cons x b ih => exact ih _ (putE_sorted a x h)
theorem sumE_length (a b : List El) : (sumE a b).length = a.length + b.length := by rw [(sumE_perm a b).length_eq, List.length_append]
theorem sortE_perm (l : List El) : (sortE l).Perm l := sumE_perm [] l
theorem sortE_sorted (l : List El) : Sorted (sortE l) := sumE_sorted [] l .nil
theorem sortE_length (l : List El) : (sortE l).length = l.length := (sortE_perm l).length_eq
theorem sortE_congr {l k : List El} (h : l.Perm k) : sortE l = sortE k :=
  (sortE_sorted l).unique (sortE_sorted k) ((sortE_perm l).trans (h.trans (sortE_perm k).symm))
theorem sortE_of_sorted {l : List El} (h : Sorted l) : sortE l = l := (sortE_sorted l).unique h (sortE_perm l)
theorem sumE_sort (a b : List El) : sumE (sortE a) b = sortE (a ++ b) :=
  (sumE_sorted _ b (sortE_sorted a)).unique (sortE_sorted _) ((sumE_perm _ b).trans (((sortE_perm a).append_right b).trans (sortE_perm _).symm))
theorem sumE_sort2 (a b : List El) : sumE (sortE a) (sortE b) = sortE (a ++ b) := by
  rw [sumE_sort]; exact sortE_congr ((sortE_perm b).append_left a)
theorem putE_sort (a : List El) (x : El) : putE (sortE a) x = sortE (x :: a) :=
  (putE_sorted _ x (sortE_sorted a)).unique (sortE_sorted _) ((putE_perm _ x).trans (((sortE_perm a).cons x).trans (sortE_perm _).symm))
theorem sortE_cons_least {x : El} {l : List El} (h : ∀ y ∈ l, El.le x y) : sortE (x :: l) = x :: sortE l := by
  refine (sortE_sorted _).unique ?_ ((sortE_perm _).trans ((sortE_perm l).symm.cons x))
  exact List.pairwise_cons.2 ⟨fun y hy => h y ((sortE_perm l).subset hy), sortE_sorted l⟩
theorem sortE_nil : sortE [] = [] := rfl
/-- The head of the row in order. -/
theorem sortE_eq_cons {l k : List El} {x : El} (h : sortE l = x :: k) : x ∈ l ∧ (∀ y ∈ l, El.le x y) ∧ (x :: k).Perm l := by
  have h1 := sortE_perm l
  have h2 := sortE_sorted l
  rw [h] at h1 h2
  refine ⟨h1.subset (by simp), fun y hy => ?_, h1⟩
  rcases List.mem_cons.1 (h1.symm.subset hy) with rfl | hy
  · exact El.le_refl _
  · exact (List.pairwise_cons.1 h2).1 y hy
end Go.Proofs.YteigmfkkeofcaaaGreatDoor
