/-
Trees of things that are told by others: whatever is done to them is done to those.
-/
import Derived.Test.YtkhjcmbppcimnaaGreatDoorMdSkew
namespace Go.Proofs.YtkhjcmbppcimnaaGreatDoor
set_option linter.unusedVariables false
variable {α β : Type} (f : α → β) (key : β → El)

def RT.map : RT α → RT β
  | .nil => .nil
  | .node x b k n => .node (f x) (b.map f) (RT.map k) (RT.map n)
def Tr.map (t : Tr α) : Tr β := ⟨f t.x, t.b.map f, RT.map f t.k⟩
abbrev Rw.map (l : List (Tr α)) : List (Tr β) := List.map (Tr.map f) l
theorem RT.map_els (t : RT α) : (RT.map f t).els = t.els.map f := by
  induction t with
  | nil => rfl
  | node x b k n ih1 ih2 => simp [RT.map, RT.els, ih1, ih2]
theorem RT.map_len (t : RT α) : (RT.map f t).len = t.len := by
  induction t with
  | nil => rfl
  | node x b k n ih1 ih2 => simp [RT.map, RT.len, ih2]
theorem RT.map_toL (t : RT α) : (RT.map f t).toL = Rw.map f t.toL := by
  induction t with
  | nil => rfl
  | node x b k n ih1 ih2 => simp [RT.map, RT.toL, ih2, Tr.map]
theorem Tr.map_els (t : Tr α) : (Tr.map f t).els = t.els.map f := by simp [Tr.map, Tr.els, RT.map_els]
theorem Tr.map_rank (t : Tr α) : (Tr.map f t).rank = t.rank := RT.map_len f t.k
theorem Tr.map_size (t : Tr α) : (Tr.map f t).size = t.size := by simp [Tr.size, Tr.map_els]
theorem Rw.map_cons (t : Tr α) (l : List (Tr α)) : Rw.map f (t :: l) = Tr.map f t :: Rw.map f l := rfl
theorem Rw.map_els (l : List (Tr α)) : Rw.els (Rw.map f l) = (Rw.els l).map f := by
  induction l with
  | nil => rfl
  | cons t l ih => rw [Rw.map_cons, Rw.els_cons, Rw.els_cons, ih, Tr.map_els, List.map_append]
theorem Rw.map_size (l : List (Tr α)) : Rw.size (Rw.map f l) = Rw.size l := by simp [Rw.size, Rw.map_els]
theorem Tr.map_link (a b : Tr α) : Tr.map f (Tr.link (fun x => key (f x)) a b) = Tr.link key (Tr.map f a) (Tr.map f b) := by
  cases h : El.lt (key (f b.x)) (key (f a.x)) with
  | true => rw [Tr.link_lt _ h, Tr.link_lt key (show El.lt (key (Tr.map f b).x) (key (Tr.map f a).x) = true from h)]; rfl
  | false => rw [Tr.link_ge _ h, Tr.link_ge key (show El.lt (key (Tr.map f b).x) (key (Tr.map f a).x) = false from h)]; rfl
theorem Tr.map_skew (x : α) (a b : Tr α) : Tr.map f (Tr.skew (fun x => key (f x)) x a b) = Tr.skew key (f x) (Tr.map f a) (Tr.map f b) := by
  have e := Tr.map_link f key a b
  have e1 : (Tr.link key (Tr.map f a) (Tr.map f b)).x = f (Tr.link (fun x => key (f x)) a b).x := by rw [← e]; rfl
  have e2 : (Tr.link key (Tr.map f a) (Tr.map f b)).b = (Tr.link (fun x => key (f x)) a b).b.map f := by rw [← e]; rfl
  have e3 : (Tr.link key (Tr.map f a) (Tr.map f b)).k = RT.map f (Tr.link (fun x => key (f x)) a b).k := by rw [← e]; rfl
  cases h : El.lt (key (f (Tr.link (fun x => key (f x)) a b).x)) (key (f x)) with
  | true => rw [Tr.skew_lt _ h, Tr.skew_lt key (by rw [e1]; exact h), e1, e2, e3]; rfl
  | false => rw [Tr.skew_ge _ h, Tr.skew_ge key (by rw [e1]; exact h), e1, e2, e3]; rfl
theorem Tr.map_leaf (x : α) : Tr.map f (Tr.leaf x) = Tr.leaf (f x) := rfl
theorem Rw.map_put (t : Tr α) (l : List (Tr α)) : Rw.map f (Rw.put (fun x => key (f x)) t l) = Rw.put key (Tr.map f t) (Rw.map f l) ∧ Rw.putN (fun x => key (f x)) t l = Rw.putN key (Tr.map f t) (Rw.map f l) := by
  induction l generalizing t with
  | nil => exact ⟨rfl, rfl⟩
  | cons g l ih =>
    by_cases h : t.rank < g.rank
    · have h' : (Tr.map f t).rank < (Tr.map f g).rank := by rw [Tr.map_rank, Tr.map_rank]; exact h
      rw [Rw.put_lt _ l h, Rw.putN_lt _ l h]
      simp only [Rw.map_cons]
      rw [Rw.put_lt key _ h', Rw.putN_lt key _ h']
      exact ⟨rfl, rfl⟩
    · have h' : ¬ (Tr.map f t).rank < (Tr.map f g).rank := by rw [Tr.map_rank, Tr.map_rank]; exact h
      have := ih (Tr.link (fun x => key (f x)) t g)
      rw [Rw.put_ge _ l h, Rw.putN_ge _ l h]
      simp only [Rw.map_cons]
      rw [Rw.put_ge key _ h', Rw.putN_ge key _ h', ← Tr.map_link]
      exact ⟨this.1, by rw [this.2]⟩
theorem Rw.map_meld (a b : List (Tr α)) : Rw.map f (Rw.meld (fun x => key (f x)) a b) = Rw.meld key (Rw.map f a) (Rw.map f b) ∧ Rw.meldN (fun x => key (f x)) a b = Rw.meldN key (Rw.map f a) (Rw.map f b) := by
  refine Rw.meld_cases (p := fun a b => Rw.map f (Rw.meld (fun x => key (f x)) a b) = Rw.meld key (Rw.map f a) (Rw.map f b) ∧ Rw.meldN (fun x => key (f x)) a b = Rw.meldN key (Rw.map f a) (Rw.map f b)) (fun b => ⟨rfl, rfl⟩) (fun g a => ⟨rfl, rfl⟩) (fun x a y b h ih => ?_) (fun x a y b h ih => ?_) (fun x a y b h ih => ?_) a b
  · have h' : (Tr.map f x).rank < (Tr.map f y).rank := by rw [Tr.map_rank, Tr.map_rank]; exact h
    rw [Rw.meld_lt _ a b h, Rw.meldN_lt _ a b h]
    simp only [Rw.map_cons]
    rw [Rw.meld_lt key _ _ h', Rw.meldN_lt key _ _ h']
    exact ⟨by rw [ih.1]; rfl, ih.2⟩
  · have h' : (Tr.map f y).rank < (Tr.map f x).rank := by rw [Tr.map_rank, Tr.map_rank]; exact h
    rw [Rw.meld_gt _ a b h, Rw.meldN_gt _ a b h]
    simp only [Rw.map_cons]
    rw [Rw.meld_gt key _ _ h', Rw.meldN_gt key _ _ h']
    exact ⟨by rw [ih.1]; rfl, ih.2⟩
  · have h' : (Tr.map f x).rank = (Tr.map f y).rank := by rw [Tr.map_rank, Tr.map_rank]; exact h
    have hp := Rw.map_put f key (Tr.link (fun x => key (f x)) x y) (Rw.meld (fun x => key (f x)) a b)
    rw [Rw.meld_eq _ a b h, Rw.meldN_eq _ a b h]
    simp only [Rw.map_cons]
    rw [Rw.meld_eq key _ _ h', Rw.meldN_eq key _ _ h', ← Tr.map_link]
    exact ⟨by rw [hp.1, ih.1], by rw [hp.2, ih.1, ih.2]⟩
theorem Rw.map_root (l : List (Tr α)) (d : α) (i : Nat) : Rw.rootAt (Rw.map f l) (f d) i = f (Rw.rootAt l d i) := by
  unfold Rw.rootAt
  rw [List.getElem?_map]
  cases l[i]? <;> rfl
theorem Rw.map_leastAt (l : List (Tr α)) (d : α) (n : Nat) : Rw.leastAt key (Rw.map f l) (f d) n = Rw.leastAt (fun x => key (f x)) l d n := by
  induction n with
  | zero => rfl
  | succ n ih => rw [Rw.leastAt_succ, Rw.leastAt_succ, ih, Rw.map_root, Rw.map_root]
theorem Rw.map_least (l : List (Tr α)) : Rw.least key (Rw.map f l) = Rw.least (fun x => key (f x)) l := by
  cases l with
  | nil => rfl
  | cons t l =>
    show Rw.leastAt key (Rw.map f (t :: l)) (f t.x) (List.map (Tr.map f) l).length = Rw.leastAt _ (t :: l) t.x l.length
    rw [List.length_map, Rw.map_leastAt]
theorem Rw.map_minT (l : List (Tr α)) : Rw.minT key (Rw.map f l) = (Rw.minT (fun x => key (f x)) l).map (Tr.map f) := by
  unfold Rw.minT
  rw [Rw.map_least, List.getElem?_map]
theorem Rw.map_min (l : List (Tr α)) : Rw.min? key (Rw.map f l) = (Rw.min? (fun x => key (f x)) l).map f := by
  unfold Rw.min?
  rw [Rw.map_minT]
  cases Rw.minT (fun x => key (f x)) l <;> rfl
theorem map_erase {γ δ : Type} (g : γ → δ) (l : List γ) (i : Nat) : (l.map g).eraseIdx i = (l.eraseIdx i).map g := by
  induction l generalizing i with
  | nil => rfl
  | cons x l ih =>
    cases i with
    | zero => rfl
    | succ i => simp [ih]
namespace Sk
theorem map_level (l : List (Tr α)) : Rw.map f (level (fun x => key (f x)) l) = level key (Rw.map f l) ∧ levelN (fun x => key (f x)) l = levelN key (Rw.map f l) := by
  cases l with
  | nil => exact ⟨rfl, rfl⟩
  | cons t l => exact Rw.map_put f key t l
theorem map_meld (a b : List (Tr α)) : Rw.map f (meld (fun x => key (f x)) a b) = meld key (Rw.map f a) (Rw.map f b) ∧ meldN (fun x => key (f x)) a b = meldN key (Rw.map f a) (Rw.map f b) := by
  have h1 := map_level f key a
  have h2 := map_level f key b
  have h3 := Rw.map_meld f key (level (fun x => key (f x)) a) (level (fun x => key (f x)) b)
  unfold meld meldN
  rw [h3.1, h3.2, h1.1, h1.2, h2.1, h2.2]
  exact ⟨rfl, rfl⟩
theorem map_insert (x : α) (l : List (Tr α)) : Rw.map f (insert (fun x => key (f x)) x l) = insert key (f x) (Rw.map f l) ∧ insC (Rw.map f l) = insC l ∧ insD (Rw.map f l) = insD l := by
  match l with
  | [] => exact ⟨rfl, rfl, rfl⟩
  | [a] => exact ⟨rfl, rfl, rfl⟩
  | a :: b :: r =>
    by_cases h : a.rank = b.rank
    · have h' : (Tr.map f a).rank = (Tr.map f b).rank := by rw [Tr.map_rank, Tr.map_rank]; exact h
      rw [insert_eq _ r h]
      simp only [Rw.map_cons]
      rw [insert_eq key _ h', ← Tr.map_skew]
      exact ⟨rfl, by simp only [insC, if_pos h, if_pos h'], by simp only [insD, if_pos h, if_pos h']⟩
    · have h' : ¬ (Tr.map f a).rank = (Tr.map f b).rank := by rw [Tr.map_rank, Tr.map_rank]; exact h
      rw [insert_ne _ r h]
      simp only [Rw.map_cons]
      rw [insert_ne key _ h']
      exact ⟨rfl, by simp only [insC, if_neg h, if_neg h'], by simp only [insD, if_neg h, if_neg h']⟩
theorem map_inserts (xs : List α) (l : List (Tr α)) : Rw.map f (inserts (fun x => key (f x)) l xs) = inserts key (Rw.map f l) (xs.map f) ∧ insertsC (fun x => key (f x)) l xs = insertsC key (Rw.map f l) (xs.map f) ∧ insertsD (fun x => key (f x)) l xs = insertsD key (Rw.map f l) (xs.map f) := by
  induction xs generalizing l with
  | nil => exact ⟨rfl, rfl, rfl⟩
  | cons x xs ih =>
    have h1 := map_insert f key x l
    have h2 := ih (insert (fun x => key (f x)) x l)
    refine ⟨?_, ?_, ?_⟩
    · show Rw.map f (inserts _ (insert _ x l) xs) = inserts key (insert key (f x) (Rw.map f l)) (xs.map f)
      rw [h2.1, h1.1]
    · show insC l + insertsC _ (insert _ x l) xs = insC (Rw.map f l) + insertsC key (insert key (f x) (Rw.map f l)) (xs.map f)
      rw [h2.2.1, h1.1, h1.2.1]
    · show insD l + insertsD _ (insert _ x l) xs = insD (Rw.map f l) + insertsD key (insert key (f x) (Rw.map f l)) (xs.map f)
      rw [h2.2.2, h1.1, h1.2.2]
theorem map_after (t : Tr α) (l : List (Tr α)) : Rw.map f (after (fun x => key (f x)) t l) = after key (Tr.map f t) (Rw.map f l) ∧ afterN (fun x => key (f x)) t l = afterN key (Tr.map f t) (Rw.map f l) := by
  have h1 := map_level f key l
  have h2 := Rw.map_meld f key t.k.toL.reverse (level (fun x => key (f x)) l)
  have e : Rw.map f t.k.toL.reverse = (Tr.map f t).k.toL.reverse := by
    show List.map _ _ = (RT.map f t.k).toL.reverse
    rw [RT.map_toL, List.map_reverse]
  unfold after afterN
  rw [h2.1, h2.2, h1.1, h1.2, e]
  exact ⟨rfl, rfl⟩
theorem map_pop (l : List (Tr α)) : Rw.map f (pop (fun x => key (f x)) l) = pop key (Rw.map f l) ∧ popC (fun x => key (f x)) l = popC key (Rw.map f l) ∧ popD (fun x => key (f x)) l = popD key (Rw.map f l) := by
  have hm := Rw.map_minT f key l
  unfold pop popC popD
  cases h : Rw.minT (fun x => key (f x)) l with
  | none => rw [h] at hm; rw [hm]; exact ⟨rfl, rfl, rfl⟩
  | some t =>
    rw [h] at hm
    rw [hm]
    simp only [Option.map_some]
    have e1 : (Rw.map f l).eraseIdx (Rw.least key (Rw.map f l)) = Rw.map f (l.eraseIdx (Rw.least (fun x => key (f x)) l)) := by rw [Rw.map_least f key]; exact map_erase (Tr.map f) l _
    have h1 := map_after f key t (l.eraseIdx (Rw.least (fun x => key (f x)) l))
    have h2 := map_inserts f key t.b (after (fun x => key (f x)) t (l.eraseIdx (Rw.least (fun x => key (f x)) l)))
    rw [e1, h2.1, h2.2.1, h2.2.2, h1.1, h1.2, List.length_map]
    exact ⟨rfl, rfl, rfl⟩
end Sk
end Go.Proofs.YtkhjcmbppcimnaaGreatDoor
