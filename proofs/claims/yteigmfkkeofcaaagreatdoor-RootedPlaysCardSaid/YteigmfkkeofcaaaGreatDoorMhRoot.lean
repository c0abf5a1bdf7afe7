/-
Skew heaps with their least element apart, as plain data.
-/
import Derived.Test.YteigmfkkeofcaaaGreatDoorMdSkew
namespace Go.Proofs.YteigmfkkeofcaaaGreatDoor
set_option linter.unusedVariables false

/-- A heap as plain data: none, or its root and the trees of all others. -/
abbrev Hp := Option (El × List (Tr El))
namespace Hp
/-- By what an element is in order. -/
abbrev ke (x : El) : El := x
def els : Hp → List El
  | none => []
  | some (x, l) => x :: Rw.els l
def size (t : Hp) : Nat := (els t).length
abbrev nil : Hp := none
def insert (x : El) : Hp → Hp
  | none => some (x, [])
  | some (r, l) => if El.lt x r then some (x, Sk.insert ke r l) else some (r, Sk.insert ke x l)
def meld : Hp → Hp → Hp
  | none => fun t => t
  | some (r, l) => fun t => match t with
    | none => some (r, l)
    | some (s, k) => if El.lt s r then some (s, Sk.insert ke r (Sk.meld ke l k)) else some (r, Sk.insert ke s (Sk.meld ke l k))
def pop : Hp → Hp
  | none => none
  | some (_, l) => match Rw.min? ke l with
    | none => none
    | some x => some (x, Sk.pop ke l)
def min? : Hp → Option El
  | none => none
  | some (x, _) => some x
/-- How many comparisons, and how many things made. -/
def meldC : Hp → Hp → Nat
  | some (r, l), some (s, k) => 1 + Sk.meldN ke l k + Sk.insC (Sk.meld ke l k)
  | _, _ => 0
def meldD : Hp → Hp → Nat
  | some (r, l), some (s, k) => Sk.meldN ke l k + Sk.insD (Sk.meld ke l k) + 1
  | _, _ => 0
def insC (x : El) : Hp → Nat
  | none => 0
  | some (_, l) => 1 + Sk.insC l
def insD (x : El) : Hp → Nat
  | none => 1
  | some (_, l) => Sk.insD l + 1
def minC (_ : Hp) : Nat := 0
def popC : Hp → Nat
  | none => 0
  | some (_, l) => match Rw.min? ke l with
    | none => 0
    | some _ => (l.length - 1) + Sk.popC ke l
def popD : Hp → Nat
  | none => 0
  | some (_, l) => match Rw.min? ke l with
    | none => 0
    | some _ => Sk.popD ke l + 1
def ok : Hp → Prop
  | none => True
  | some (x, l) => Rw.ok ke l ∧ ∀ y ∈ Rw.els l, El.le x y

theorem size_eq (t : Hp) : size t = (els t).length := rfl
theorem els_nil : els nil = [] := rfl
theorem ok_nil : ok nil := trivial
theorem insert_some (x r : El) (l : List (Tr El)) : insert x (some (r, l)) = if El.lt x r then some (x, Sk.insert ke r l) else some (r, Sk.insert ke x l) := rfl
theorem meld_some (r s : El) (l k : List (Tr El)) : meld (some (r, l)) (some (s, k)) = if El.lt s r then some (s, Sk.insert ke r (Sk.meld ke l k)) else some (r, Sk.insert ke s (Sk.meld ke l k)) := rfl
theorem meld_nil' (s : Hp) : meld s none = s := by cases s <;> rfl
theorem els_insert (x : El) {t : Hp} (ht : ok t) : (els (insert x t)).Perm (x :: els t) := by
  cases t with
  | none => exact List.Perm.refl _
  | some p =>
    obtain ⟨r, l⟩ := p
    rw [insert_some]
    cases h : El.lt x r with
    | true => rw [if_pos rfl]; exact (Sk.insert_perm ke r l).cons x
    | false =>
      rw [if_neg (by simp)]
      exact ((Sk.insert_perm ke x l).cons r).trans (List.Perm.swap _ _ _)
theorem ok_insert (x : El) {t : Hp} (ht : ok t) : ok (insert x t) := by
  cases t with
  | none => exact ⟨fun t h => by simp at h, fun y h => by simp [Rw.els] at h⟩
  | some p =>
    obtain ⟨r, l⟩ := p
    rw [insert_some]
    cases h : El.lt x r with
    | true =>
      rw [if_pos rfl]
      refine ⟨Sk.insert_ok ke r ht.1, fun y hy => ?_⟩
      rcases List.mem_cons.1 ((Sk.insert_perm ke r l).subset hy) with rfl | hy
      · exact El.le_of_lt h
      · exact El.le_trans (El.le_of_lt h) (ht.2 y hy)
    | false =>
      rw [if_neg (by simp)]
      refine ⟨Sk.insert_ok ke x ht.1, fun y hy => ?_⟩
      rcases List.mem_cons.1 ((Sk.insert_perm ke x l).subset hy) with rfl | hy
      · exact h
      · exact ht.2 y hy
theorem meld_all (r s : El) (l k : List (Tr El)) (h : ∀ y ∈ Rw.els l, El.le r y) (h2 : ∀ y ∈ Rw.els k, El.le s y) (hr : El.le r s) : ∀ y ∈ Rw.els (Sk.insert ke s (Sk.meld ke l k)), El.le r y := by
  intro y hy
  rcases List.mem_cons.1 ((Sk.insert_perm ke s _).subset hy) with rfl | hy
  · exact hr
  · rcases List.mem_append.1 ((Sk.meld_perm ke l k).subset hy) with hy | hy
    · exact h y hy
    · exact El.le_trans hr (h2 y hy)
theorem ok_meld {s t : Hp} (hs : ok s) (ht : ok t) : ok (meld s t) := by
  cases s with
  | none => exact ht
  | some p =>
    cases t with
    | none => exact hs
    | some q =>
      obtain ⟨r, l⟩ := p
      obtain ⟨u, k⟩ := q
      rw [meld_some]
      have hm := Sk.meld_ok ke hs.1 ht.1
      cases h : El.lt u r with
      | true =>
        rw [if_pos rfl]
        refine ⟨Sk.insert_ok ke r hm, fun y hy => ?_⟩
        rcases List.mem_cons.1 ((Sk.insert_perm ke r _).subset hy) with rfl | hy
        · exact El.le_of_lt h
        · rcases List.mem_append.1 ((Sk.meld_perm ke l k).subset hy) with hy | hy
          · exact El.le_trans (El.le_of_lt h) (hs.2 y hy)
          · exact ht.2 y hy
      | false =>
        rw [if_neg (by simp)]
        exact ⟨Sk.insert_ok ke u hm, meld_all r u l k hs.2 ht.2 h⟩
theorem els_meld {s t : Hp} (hs : ok s) (ht : ok t) : (els (meld s t)).Perm (els s ++ els t) := by
  cases s with
  | none => exact List.Perm.refl _
  | some p =>
    cases t with
    | none => rw [meld_nil', els_nil, List.append_nil]
    | some q =>
      obtain ⟨r, l⟩ := p
      obtain ⟨u, k⟩ := q
      rw [meld_some]
      have hm := Sk.meld_perm ke l k
      cases h : El.lt u r with
      | true =>
        rw [if_pos rfl]
        show (u :: Rw.els (Sk.insert ke r (Sk.meld ke l k))).Perm (r :: Rw.els l ++ u :: Rw.els k)
        refine (((Sk.insert_perm ke r _).trans (hm.cons r)).cons u).trans ?_
        exact (List.perm_middle (l₁ := r :: Rw.els l)).symm
      | false =>
        rw [if_neg (by simp)]
        show (r :: Rw.els (Sk.insert ke u (Sk.meld ke l k))).Perm (r :: Rw.els l ++ u :: Rw.els k)
        refine List.Perm.cons _ ((Sk.insert_perm ke u _).trans ((hm.cons u).trans ?_))
        exact (List.perm_middle (l₁ := Rw.els l)).symm
theorem min_some {l : List (Tr El)} {x : El} (h : Rw.min? ke l = some x) : ∃ tr, Rw.minT ke l = some tr ∧ tr.x = x := by
  cases hm : Rw.minT ke l with
  | none => unfold Rw.min? at h; rw [hm] at h; cases h
  | some tr => unfold Rw.min? at h; rw [hm] at h; exact ⟨tr, rfl, Option.some.inj h⟩
theorem pop_some (r : El) {l : List (Tr El)} {x : El} (h : Rw.min? ke l = some x) : pop (some (r, l)) = some (x, Sk.pop ke l) := by
  show (match Rw.min? ke l with | none => none | some x => some (x, Sk.pop ke l)) = _
  rw [h]
theorem pop_one (r : El) {l : List (Tr El)} (h : Rw.min? ke l = none) : pop (some (r, l)) = none := by
  show (match Rw.min? ke l with | none => none | some x => some (x, Sk.pop ke l)) = _
  rw [h]
theorem ok_pop {t : Hp} (ht : ok t) : ok (pop t) := by
  cases t with
  | none => trivial
  | some p =>
    obtain ⟨r, l⟩ := p
    cases h : Rw.min? ke l with
    | none => rw [pop_one r h]; trivial
    | some x =>
      rw [pop_some r h]
      obtain ⟨tr, hm, rfl⟩ := min_some h
      refine ⟨Sk.pop_ok ke ht.1, fun y hy => ?_⟩
      exact Rw.minT_least ke ht.1 hm y ((Sk.pop_perm ke hm).subset (by simp [hy]))
theorem min_none {t : Hp} (_ : ok t) (h : min? t = none) : els t = [] := by
  cases t with
  | none => rfl
  | some p => cases h
theorem min_perm {t : Hp} (ht : ok t) {x : El} (h : min? t = some x) : (x :: els (pop t)).Perm (els t) := by
  cases t with
  | none => cases h
  | some p =>
    obtain ⟨r, l⟩ := p
    obtain rfl : r = x := Option.some.inj h
    cases h : Rw.min? ke l with
    | none => rw [pop_one r h, Rw.min_none ke h]; exact List.Perm.refl _
    | some y =>
      rw [pop_some r h]
      obtain ⟨tr, hm, rfl⟩ := min_some h
      exact (Sk.pop_perm ke hm).cons r
theorem min_least {t : Hp} (ht : ok t) {x : El} (h : min? t = some x) : ∀ y ∈ els (pop t), El.le x y := fun y hy => by
  have hp := min_perm ht h
  cases t with
  | none => cases h
  | some p =>
    obtain ⟨r, l⟩ := p
    obtain rfl : r = x := Option.some.inj h
    have : y ∈ Rw.els l := (List.Perm.cons_inv hp).subset hy
    exact ht.2 y this
theorem pop_nil : pop nil = nil := rfl
theorem pop_none {t : Hp} (_ : ok t) (h : min? t = none) : pop t = t := by
  cases t with
  | none => rfl
  | some p => cases h
theorem min_nil : min? nil = none := rfl
end Hp
end Go.Proofs.YteigmfkkeofcaaaGreatDoor
