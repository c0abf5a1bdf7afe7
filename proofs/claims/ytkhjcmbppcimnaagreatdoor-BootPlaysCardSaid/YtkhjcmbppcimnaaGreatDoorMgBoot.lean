/-
Heaps whose others are heaps, as plain data.
-/
import Derived.Test.YtkhjcmbppcimnaaGreatDoorMeNat
namespace Go.Proofs.YtkhjcmbppcimnaaGreatDoor
set_option linter.unusedVariables false

/-- A heap that is not empty: its root, and the trees of its queue. -/
inductive BH where
  | mk (x : El) (q : List (Tr BH))
namespace BH
def root : BH → El
  | mk x _ => x
def queue : BH → List (Tr BH)
  | mk _ q => q
theorem rt_size (t : RT BH) : ∀ y ∈ t.els, sizeOf y < sizeOf t := by
  induction t with
  | nil => intro y hy; simp [RT.els] at hy
  | node x b k n ih1 ih2 =>
    intro y hy
    simp only [RT.els, List.mem_cons, List.mem_append] at hy
    rcases hy with rfl | hy | hy | hy
    · simp; omega
    · have := List.sizeOf_lt_of_mem hy; simp; omega
    · have := ih1 y hy; simp; omega
    · have := ih2 y hy; simp; omega
theorem tr_size (t : Tr BH) : ∀ y ∈ t.els, sizeOf y < sizeOf t := by
  intro y hy
  obtain ⟨x, b, k⟩ := t
  simp only [Tr.els, List.mem_cons, List.mem_append] at hy
  rcases hy with rfl | hy | hy
  · simp; omega
  · have := List.sizeOf_lt_of_mem hy; simp; omega
  · have := rt_size k y hy; simp; omega
theorem q_size (q : List (Tr BH)) : ∀ y ∈ Rw.els q, sizeOf y < sizeOf q := by
  intro y hy
  obtain ⟨t, ht, hy⟩ := List.mem_flatMap.1 hy
  have := List.sizeOf_lt_of_mem ht
  have := tr_size t y hy
  omega
theorem mk_size {x : El} {q : List (Tr BH)} : ∀ y ∈ Rw.els q, sizeOf y < sizeOf (mk x q) := by
  intro y hy
  have := q_size q y hy
  simp; omega
theorem ind {P : BH → Prop} (h : ∀ x q, (∀ y ∈ Rw.els q, P y) → P (mk x q)) (t : BH) : P t := by
  have key : ∀ (n : Nat) (t : BH), sizeOf t < n → P t := by
    intro n
    induction n with
    | zero => intro t ht; omega
    | succ n ih =>
      intro t ht
      cases t with
      | mk x q => exact h x q fun y hy => ih y (by have := mk_size (x := x) y hy; omega)
  exact key (sizeOf t + 1) t (by omega)
/-- All elements. -/
def els : BH → List El
  | mk x q => x :: (Rw.els q).attach.flatMap fun ⟨y, hy⟩ => els y
termination_by t => sizeOf t
decreasing_by exact mk_size y hy
theorem attach_flat {α β : Type} (l : List α) (f : α → List β) : (l.attach.flatMap fun y => f y.1) = l.flatMap f := by
  rw [List.flatMap_subtype (g := f) (hf := fun _ _ => rfl)]
  simp
theorem els_mk (x : El) (q : List (Tr BH)) : els (mk x q) = x :: (Rw.els q).flatMap els := by
  rw [els]
  exact congrArg _ (attach_flat (Rw.els q) els)
def elsL (l : List BH) : List El := l.flatMap els
theorem els_eq (h : BH) : h.els = h.root :: elsL (Rw.els h.queue) := by cases h with | mk x q => exact els_mk x q
theorem elsL_perm {l k : List BH} (h : l.Perm k) : (elsL l).Perm (elsL k) := h.flatMap_right _
theorem elsL_cons (h : BH) (l : List BH) : elsL (h :: l) = h.els ++ elsL l := List.flatMap_cons
theorem elsL_append (l k : List BH) : elsL (l ++ k) = elsL l ++ elsL k := List.flatMap_append
theorem els_pos (h : BH) : 0 < h.els.length := by rw [els_eq]; simp
theorem length_le (l : List BH) : l.length ≤ (elsL l).length := by
  induction l with
  | nil => simp
  | cons h l ih => have := els_pos h; rw [elsL_cons]; simp; omega
theorem sum_mem {l : List BH} {x : BH} (h : x ∈ l) : x.els.length + (l.length - 1) ≤ (elsL l).length := by
  induction l with
  | nil => simp at h
  | cons y l ih =>
    rw [elsL_cons]
    simp only [List.length_append, List.length_cons]
    rcases List.mem_cons.1 h with rfl | h
    · have := length_le l; omega
    · have h1 := ih h
      have h2 := els_pos y
      have h3 : 0 < l.length := List.length_pos_of_mem h
      omega
/-- In order: the root is the least one, in it and in all those behind it. -/
def ok : BH → Prop
  | mk x q => Rw.ok root q ∧ ∀ y : {y // y ∈ Rw.els q}, El.le x y.1.root ∧ ok y.1
termination_by t => sizeOf t
decreasing_by exact mk_size y.1 y.2
theorem ok_mk (x : El) (q : List (Tr BH)) : ok (mk x q) ↔ Rw.ok root q ∧ ∀ y ∈ Rw.els q, El.le x y.root ∧ ok y := by
  rw [ok]
  exact ⟨fun h => ⟨h.1, fun y hy => h.2 ⟨y, hy⟩⟩, fun h => ⟨h.1, fun y => h.2 y.1 y.2⟩⟩
theorem ok_least (t : BH) : ok t → ∀ y ∈ t.els, El.le t.root y := by
  refine ind (P := fun t => ok t → ∀ y ∈ t.els, El.le t.root y) (fun x q ih => ?_) t
  intro h y hy
  rw [ok_mk] at h
  rw [els_mk] at hy
  rcases List.mem_cons.1 hy with rfl | hy
  · exact El.le_refl _
  · obtain ⟨z, hz, hy⟩ := List.mem_flatMap.1 hy
    exact El.le_trans (h.2 z hz).1 (ih z hz (h.2 z hz).2 y hy)

/-! ### Heaps, the empty one too -/
def single (x : El) : BH := mk x []
def win (a b : BH) : BH := if El.lt b.root a.root then mk b.root (Sk.insert root a b.queue) else mk a.root (Sk.insert root b a.queue)
def winQ (a b : BH) : List (Tr BH) := if El.lt b.root a.root then b.queue else a.queue
theorem win_lt {a b : BH} (h : El.lt b.root a.root = true) : win a b = mk b.root (Sk.insert root a b.queue) := if_pos h
theorem win_ge {a b : BH} (h : El.lt b.root a.root = false) : win a b = mk a.root (Sk.insert root b a.queue) := if_neg (by simp [h])
theorem winQ_lt {a b : BH} (h : El.lt b.root a.root = true) : winQ a b = b.queue := if_pos h
theorem winQ_ge {a b : BH} (h : El.lt b.root a.root = false) : winQ a b = a.queue := if_neg (by simp [h])
theorem win_perm (a b : BH) : (win a b).els.Perm (a.els ++ b.els) := by
  cases h : El.lt b.root a.root with
  | true =>
    rw [win_lt h, els_mk, els_eq b]
    refine List.Perm.trans (List.Perm.cons _ (elsL_perm (Sk.insert_perm root a b.queue))) ?_
    rw [elsL_cons]
    exact List.perm_middle.symm
  | false =>
    rw [win_ge h, els_mk, els_eq a, List.cons_append]
    refine List.Perm.cons _ ((elsL_perm (Sk.insert_perm root b a.queue)).trans ?_)
    rw [elsL_cons]
    exact List.perm_append_comm
theorem ok_single (x : El) : ok (single x) := (ok_mk x []).2 ⟨fun t h => by simp at h, fun y hy => by simp [Rw.els] at hy⟩
theorem ok_eq (h : BH) : ok h ↔ Rw.ok root h.queue ∧ ∀ y ∈ Rw.els h.queue, El.le h.root y.root ∧ ok y := by cases h with | mk x q => exact ok_mk x q
theorem win_ok {a b : BH} (ha : ok a) (hb : ok b) : ok (win a b) := by
  have ha' := (ok_eq a).1 ha
  have hb' := (ok_eq b).1 hb
  cases h : El.lt b.root a.root with
  | true =>
    rw [win_lt h, ok_mk]
    refine ⟨Sk.insert_ok root a hb'.1, fun y hy => ?_⟩
    rcases List.mem_cons.1 ((Sk.insert_perm root a b.queue).subset hy) with rfl | hy
    · exact ⟨El.le_of_lt h, ha⟩
    · exact hb'.2 y hy
  | false =>
    rw [win_ge h, ok_mk]
    refine ⟨Sk.insert_ok root b ha'.1, fun y hy => ?_⟩
    rcases List.mem_cons.1 ((Sk.insert_perm root b a.queue).subset hy) with rfl | hy
    · exact ⟨h, hb⟩
    · exact ha'.2 y hy
/-- What is left without the root. -/
def pop (h : BH) : Option BH := match Rw.minT root h.queue with
  | none => none
  | some t => some (mk t.x.root (Sk.meld root t.x.queue (Sk.pop root h.queue)))
theorem pop_some {h : BH} {t : Tr BH} (e : Rw.minT root h.queue = some t) : pop h = some (mk t.x.root (Sk.meld root t.x.queue (Sk.pop root h.queue))) := by unfold pop; rw [e]
theorem pop_none {h : BH} (e : Rw.minT root h.queue = none) : pop h = none := by unfold pop; rw [e]
theorem pop_perm {h g : BH} (e : pop h = some g) : (h.root :: g.els).Perm h.els := by
  cases hm : Rw.minT root h.queue with
  | none => rw [pop_none hm] at e; cases e
  | some t =>
    rw [pop_some hm] at e
    obtain rfl := Option.some.inj e
    rw [els_mk, els_eq h]
    refine List.Perm.cons _ ?_
    refine List.Perm.trans ?_ (elsL_perm (Sk.pop_perm root hm))
    rw [elsL_cons, els_eq t.x, List.cons_append]
    refine List.Perm.cons _ ((elsL_perm (Sk.meld_perm root t.x.queue _)).trans ?_)
    rw [elsL_append]
theorem pop_nil {h : BH} (e : pop h = none) : h.els = [h.root] := by
  cases hm : Rw.minT root h.queue with
  | none =>
    have := Rw.minT_none root hm
    rw [els_eq, this]; rfl
  | some t => rw [pop_some hm] at e; cases e
theorem pop_ok {h g : BH} (hh : ok h) (e : pop h = some g) : ok g := by
  have hh' := (ok_eq h).1 hh
  cases hm : Rw.minT root h.queue with
  | none => rw [pop_none hm] at e; cases e
  | some t =>
    rw [pop_some hm] at e
    obtain rfl := Option.some.inj e
    have hp := Sk.pop_perm root hm
    have ht := hh'.2 t.x (hp.subset (by simp))
    have htx := (ok_eq t.x).1 ht.2
    have hl := Rw.minT_least root hh'.1 hm
    rw [ok_mk]
    refine ⟨Sk.meld_ok root htx.1 (Sk.pop_ok root hh'.1), fun y hy => ?_⟩
    rcases List.mem_append.1 ((Sk.meld_perm root t.x.queue _).subset hy) with hy | hy
    · exact htx.2 y hy
    · have hy' := hp.subset (List.mem_cons_of_mem _ hy)
      exact ⟨hl y hy', (hh'.2 y hy').2⟩
end BH
end Go.Proofs.YtkhjcmbppcimnaaGreatDoor
