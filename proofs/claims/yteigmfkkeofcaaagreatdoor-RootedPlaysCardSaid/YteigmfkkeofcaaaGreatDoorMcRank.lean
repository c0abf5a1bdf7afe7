/-
Trees with ranks, and rows of them, as plain data: what linking, putting, melding make, and what they keep.
-/
import Derived.Test.YteigmfkkeofcaaaGreatDoorMaSet
namespace Go.Proofs.YteigmfkkeofcaaaGreatDoor
set_option linter.unusedVariables false

/-- Trees side by side: the first one's root, what stands beside it, the trees below it, the trees behind it. -/
inductive RT (α : Type) where
  | nil
  | node (x : α) (b : List α) (k n : RT α)
/-- One tree. -/
structure Tr (α : Type) where
  x : α
  b : List α
  k : RT α

namespace RT
variable {α : Type} (key : α → El)
def els : RT α → List α
  | nil => []
  | node x b k n => x :: (b ++ (els k ++ els n))
def len : RT α → Nat
  | nil => 0
  | node _ _ _ n => len n + 1
def toL : RT α → List (Tr α)
  | nil => []
  | node x b k n => ⟨x, b, k⟩ :: toL n
def push (t : Tr α) (n : RT α) : RT α := node t.x t.b t.k n
/-- In every tree the root is the least. -/
def ok : RT α → Prop
  | nil => True
  | node x b k n => (∀ y ∈ b ++ els k, El.le (key x) (key y)) ∧ ok k ∧ ok n
/-- Nothing stands beside a root. -/
def bare : RT α → Prop
  | nil => True
  | node _ b k n => b = [] ∧ bare k ∧ bare n
theorem toL_length (t : RT α) : t.toL.length = t.len := by
  induction t with
  | nil => rfl
  | node x b k n _ ih => simp [toL, len, ih]
theorem len_le (t : RT α) : t.len ≤ t.els.length := by
  induction t with
  | nil => simp [len]
  | node x b k n _ ih => simp [len, els]; omega
end RT
namespace Tr
variable {α : Type} (key : α → El)
def els (t : Tr α) : List α := t.x :: (t.b ++ t.k.els)
def rank (t : Tr α) : Nat := t.k.len
def size (t : Tr α) : Nat := t.els.length
def ok (t : Tr α) : Prop := (∀ y ∈ t.b ++ t.k.els, El.le (key t.x) (key y)) ∧ t.k.ok key
def bare (t : Tr α) : Prop := t.b = [] ∧ t.k.bare
def leaf (x : α) : Tr α := ⟨x, [], .nil⟩
def link (a b : Tr α) : Tr α := if El.lt (key b.x) (key a.x) then ⟨b.x, b.b, .push a b.k⟩ else ⟨a.x, a.b, .push b a.k⟩
def skew (x : α) (a b : Tr α) : Tr α := if El.lt (key (link key a b).x) (key x) then ⟨(link key a b).x, x :: (link key a b).b, (link key a b).k⟩ else ⟨x, (link key a b).x :: (link key a b).b, (link key a b).k⟩
theorem rank_lt (t : Tr α) : t.rank < t.size := by
  have := t.k.len_le
  simp [rank, size, els]; omega
theorem link_lt {a b : Tr α} (h : El.lt (key b.x) (key a.x) = true) : link key a b = ⟨b.x, b.b, .push a b.k⟩ := if_pos h
theorem link_ge {a b : Tr α} (h : El.lt (key b.x) (key a.x) = false) : link key a b = ⟨a.x, a.b, .push b a.k⟩ := if_neg (by simp [h])
theorem skew_lt {x : α} {a b : Tr α} (h : El.lt (key (link key a b).x) (key x) = true) : skew key x a b = ⟨(link key a b).x, x :: (link key a b).b, (link key a b).k⟩ := if_pos h
theorem skew_ge {x : α} {a b : Tr α} (h : El.lt (key (link key a b).x) (key x) = false) : skew key x a b = ⟨x, (link key a b).x :: (link key a b).b, (link key a b).k⟩ := if_neg (by simp [h])
theorem perm_link1 (x : α) (b k r : List α) : (x :: (b ++ (r ++ k))).Perm (r ++ (x :: (b ++ k))) := by
  refine (List.Perm.cons x ?_).trans List.perm_middle.symm
  rw [← List.append_assoc, ← List.append_assoc]
  exact List.perm_append_comm.append_right k
theorem push_els (t : Tr α) (n : RT α) : (RT.push t n).els = t.els ++ n.els := by simp [RT.push, RT.els, els]
theorem link_perm (a b : Tr α) : (link key a b).els.Perm (a.els ++ b.els) := by
  cases h : El.lt (key b.x) (key a.x) with
  | true =>
    rw [link_lt key h]
    show (b.x :: (b.b ++ (RT.push a b.k).els)).Perm _
    rw [push_els]
    exact perm_link1 _ _ _ _
  | false =>
    rw [link_ge key h]
    show (a.x :: (a.b ++ (RT.push b a.k).els)).Perm _
    rw [push_els]
    exact (perm_link1 _ _ _ _).trans List.perm_append_comm
theorem link_size (a b : Tr α) : (link key a b).size = a.size + b.size := by
  unfold size; rw [(link_perm key a b).length_eq, List.length_append]
theorem link_bare {a b : Tr α} (ha : a.bare) (hb : b.bare) : (link key a b).bare := by
  cases h : El.lt (key b.x) (key a.x) with
  | true => rw [link_lt key h]; exact ⟨hb.1, ha.1, ha.2, hb.2⟩
  | false => rw [link_ge key h]; exact ⟨ha.1, hb.1, hb.2, ha.2⟩
theorem least_all {t : Tr α} (h : t.ok key) : ∀ y ∈ t.els, El.le (key t.x) (key y) := by
  intro y hy
  rcases List.mem_cons.1 hy with rfl | hy
  · exact El.le_refl _
  · exact h.1 y hy
theorem ok_under {x : α} {b : List α} {t : Tr α} {k : RT α} (h : ∀ y ∈ b ++ k.els, El.le (key x) (key y)) (hk : k.ok key) (ht : t.ok key) (hx : El.le (key x) (key t.x)) : Tr.ok key ⟨x, b, .push t k⟩ := by
  refine ⟨fun y hy => ?_, ht.1, ht.2, hk⟩
  simp only [push_els, List.mem_append] at hy
  rcases hy with hy | hy | hy
  · exact h y (by simp [hy])
  · exact El.le_trans hx (least_all key ht y hy)
  · exact h y (by simp [hy])
theorem link_ok {a b : Tr α} (ha : a.ok key) (hb : b.ok key) : (link key a b).ok key := by
  cases h : El.lt (key b.x) (key a.x) with
  | true => rw [link_lt key h]; exact ok_under key hb.1 hb.2 ha (El.le_of_lt h)
  | false => rw [link_ge key h]; exact ok_under key ha.1 ha.2 hb h
theorem link_rank {a b : Tr α} (h : a.rank = b.rank) : (link key a b).rank = a.rank + 1 := by
  cases hl : El.lt (key b.x) (key a.x) with
  | true => rw [link_lt key hl]; show (RT.push a b.k).len = _; unfold rank at *; simp only [RT.push, RT.len]; omega
  | false => rw [link_ge key hl]; rfl
theorem skew_perm (x : α) (a b : Tr α) : (skew key x a b).els.Perm (x :: (a.els ++ b.els)) := by
  have hp := link_perm key a b
  cases h : El.lt (key (link key a b).x) (key x) with
  | true =>
    rw [skew_lt key h]
    refine List.Perm.trans ?_ (hp.cons x)
    exact List.Perm.swap _ _ _
  | false => rw [skew_ge key h]; exact hp.cons x
theorem skew_size (x : α) (a b : Tr α) : (skew key x a b).size = a.size + b.size + 1 := by
  unfold size; rw [(skew_perm key x a b).length_eq, List.length_cons, List.length_append]
theorem skew_rank (x : α) (a b : Tr α) : (skew key x a b).rank = (link key a b).rank := by
  cases h : El.lt (key (link key a b).x) (key x) with
  | true => rw [skew_lt key h]; rfl
  | false => rw [skew_ge key h]; rfl
theorem skew_ok (x : α) {a b : Tr α} (ha : a.ok key) (hb : b.ok key) : (skew key x a b).ok key := by
  have hl := link_ok key ha hb
  have hx := least_all key hl
  cases h : El.lt (key (link key a b).x) (key x) with
  | true =>
    rw [skew_lt key h]
    refine ⟨fun y hy => ?_, hl.2⟩
    simp only [List.cons_append, List.mem_cons] at hy
    rcases hy with rfl | hy
    · exact El.le_of_lt h
    · exact hl.1 y hy
  | false =>
    rw [skew_ge key h]
    refine ⟨fun y hy => ?_, hl.2⟩
    simp only [List.cons_append, List.mem_cons] at hy
    rcases hy with rfl | hy
    · exact h
    · exact El.le_trans (b := key (link key a b).x) h (hl.1 y hy)
end Tr

/-! ### Rows of trees -/
namespace Rw
variable {α : Type} (key : α → El)
def els (l : List (Tr α)) : List α := l.flatMap Tr.els
def size (l : List (Tr α)) : Nat := (els l).length
def ok (l : List (Tr α)) : Prop := ∀ t ∈ l, t.ok key
def bare (l : List (Tr α)) : Prop := ∀ t ∈ l, t.bare
theorem els_nil : els ([] : List (Tr α)) = [] := rfl
theorem els_cons (t : Tr α) (l : List (Tr α)) : els (t :: l) = t.els ++ els l := List.flatMap_cons
theorem els_append (l k : List (Tr α)) : els (l ++ k) = els l ++ els k := List.flatMap_append
theorem size_cons (t : Tr α) (l : List (Tr α)) : size (t :: l) = t.size + size l := by simp [size, els_cons, Tr.size]
theorem size_append (l k : List (Tr α)) : size (l ++ k) = size l + size k := by simp [size, els_append]
theorem length_le (l : List (Tr α)) : l.length ≤ size l := by
  induction l with
  | nil => simp
  | cons t l ih =>
    have := t.rank_lt
    rw [size_cons]; simp; omega
theorem els_perm {l k : List (Tr α)} (h : l.Perm k) : (els l).Perm (els k) := h.flatMap_right _
theorem toL_els (t : RT α) : els t.toL = t.els := by
  induction t with
  | nil => rfl
  | node x b k n _ ih => rw [RT.toL, els_cons, ih]; simp [Tr.els, RT.els]
theorem toL_ok {t : RT α} (h : t.ok key) : ok key t.toL := by
  induction t with
  | nil => intro s hs; simp [RT.toL] at hs
  | node x b k n _ ih =>
    intro s hs
    rcases List.mem_cons.1 hs with rfl | hs
    · exact ⟨h.1, h.2.1⟩
    · exact ih h.2.2 s hs
theorem toL_bare {t : RT α} (h : t.bare) : bare t.toL := by
  induction t with
  | nil => intro s hs; simp [RT.toL] at hs
  | node x b k n _ ih =>
    intro s hs
    rcases List.mem_cons.1 hs with rfl | hs
    · exact ⟨h.1, h.2.1⟩
    · exact ih h.2.2 s hs

/-- A tree put ahead of others; how many links that makes. -/
def put (t : Tr α) : List (Tr α) → List (Tr α)
  | [] => [t]
  | f :: l => if t.rank < f.rank then t :: f :: l else put (Tr.link key t f) l
def putN (t : Tr α) : List (Tr α) → Nat
  | [] => 0
  | f :: l => if t.rank < f.rank then 0 else putN (Tr.link key t f) l + 1
theorem put_nil (t : Tr α) : put key t [] = [t] := rfl
theorem putN_nil (t : Tr α) : putN key t [] = 0 := rfl
theorem put_lt {t f : Tr α} (l : List (Tr α)) (h : t.rank < f.rank) : put key t (f :: l) = t :: f :: l := by rw [put, if_pos h]
theorem putN_lt {t f : Tr α} (l : List (Tr α)) (h : t.rank < f.rank) : putN key t (f :: l) = 0 := by rw [putN, if_pos h]
theorem put_ge {t f : Tr α} (l : List (Tr α)) (h : ¬ t.rank < f.rank) : put key t (f :: l) = put key (Tr.link key t f) l := by rw [put, if_neg h]
theorem putN_ge {t f : Tr α} (l : List (Tr α)) (h : ¬ t.rank < f.rank) : putN key t (f :: l) = putN key (Tr.link key t f) l + 1 := by rw [putN, if_neg h]
theorem put_perm (t : Tr α) (l : List (Tr α)) : (els (put key t l)).Perm (t.els ++ els l) := by
  induction l generalizing t with
  | nil => rw [put_nil, els_cons]
  | cons f l ih =>
    by_cases h : t.rank < f.rank
    · rw [put_lt key l h, els_cons]
    · rw [put_ge key l h, els_cons, ← List.append_assoc]
      exact (ih _).trans ((Tr.link_perm key t f).append_right _)
theorem put_size (t : Tr α) (l : List (Tr α)) : size (put key t l) = t.size + size l := by
  unfold size; rw [(put_perm key t l).length_eq, List.length_append]; rfl
theorem put_length (t : Tr α) (l : List (Tr α)) : (put key t l).length + putN key t l = l.length + 1 := by
  induction l generalizing t with
  | nil => rfl
  | cons f l ih =>
    by_cases h : t.rank < f.rank
    · rw [put_lt key l h, putN_lt key l h]; simp
    · rw [put_ge key l h, putN_ge key l h]; have := ih (Tr.link key t f); simp; omega
theorem put_ok {t : Tr α} {l : List (Tr α)} (ht : t.ok key) (hl : ok key l) : ok key (put key t l) := by
  induction l generalizing t with
  | nil => intro s hs; rw [put_nil] at hs; obtain rfl := List.mem_singleton.1 hs; exact ht
  | cons f l ih =>
    by_cases h : t.rank < f.rank
    · rw [put_lt key l h]
      intro s hs
      rcases List.mem_cons.1 hs with rfl | hs
      · exact ht
      · exact hl s hs
    · rw [put_ge key l h]
      exact ih (Tr.link_ok key ht (hl f (by simp))) fun s hs => hl s (by simp [hs])
theorem put_bare {t : Tr α} {l : List (Tr α)} (ht : t.bare) (hl : bare l) : bare (put key t l) := by
  induction l generalizing t with
  | nil => intro s hs; rw [put_nil] at hs; obtain rfl := List.mem_singleton.1 hs; exact ht
  | cons f l ih =>
    by_cases h : t.rank < f.rank
    · rw [put_lt key l h]
      intro s hs
      rcases List.mem_cons.1 hs with rfl | hs
      · exact ht
      · exact hl s hs
    · rw [put_ge key l h]
      exact ih (Tr.link_bare key ht (hl f (by simp))) fun s hs => hl s (by simp [hs])

/-- The trees of two rows melded; how many links that makes. -/
def meldIn (f : Tr α) (a : List (Tr α)) (rec : List (Tr α) → List (Tr α)) : List (Tr α) → List (Tr α)
  | [] => f :: a
  | g :: b => if f.rank < g.rank then f :: rec (g :: b) else if g.rank < f.rank then g :: meldIn f a rec b else put key (Tr.link key f g) (rec b)
def meld : List (Tr α) → List (Tr α) → List (Tr α)
  | [] => fun b => b
  | f :: a => meldIn key f a (meld a)
def meldNIn (f : Tr α) (rec : List (Tr α) → List (Tr α)) (recN : List (Tr α) → Nat) : List (Tr α) → Nat
  | [] => 0
  | g :: b => if f.rank < g.rank then recN (g :: b) else if g.rank < f.rank then meldNIn f rec recN b else 1 + recN b + putN key (Tr.link key f g) (rec b)
def meldN : List (Tr α) → List (Tr α) → Nat
  | [] => fun _ => 0
  | f :: a => meldNIn key f (meld key a) (meldN a)
theorem meld_nil (b : List (Tr α)) : meld key [] b = b := rfl
theorem meldN_nil (b : List (Tr α)) : meldN key [] b = 0 := rfl
theorem meld_nil' (a : List (Tr α)) : meld key a [] = a := by cases a <;> rfl
theorem meldN_nil' (a : List (Tr α)) : meldN key a [] = 0 := by cases a <;> rfl
theorem meld_cons (f g : Tr α) (a b : List (Tr α)) : meld key (f :: a) (g :: b) = if f.rank < g.rank then f :: meld key a (g :: b) else if g.rank < f.rank then g :: meld key (f :: a) b else put key (Tr.link key f g) (meld key a b) := rfl
theorem meldN_cons (f g : Tr α) (a b : List (Tr α)) : meldN key (f :: a) (g :: b) = if f.rank < g.rank then meldN key a (g :: b) else if g.rank < f.rank then meldN key (f :: a) b else 1 + meldN key a b + putN key (Tr.link key f g) (meld key a b) := rfl
theorem meld_lt {f g : Tr α} (a b : List (Tr α)) (h : f.rank < g.rank) : meld key (f :: a) (g :: b) = f :: meld key a (g :: b) := by rw [meld_cons, if_pos h]
theorem meldN_lt {f g : Tr α} (a b : List (Tr α)) (h : f.rank < g.rank) : meldN key (f :: a) (g :: b) = meldN key a (g :: b) := by rw [meldN_cons, if_pos h]
theorem meld_gt {f g : Tr α} (a b : List (Tr α)) (h : g.rank < f.rank) : meld key (f :: a) (g :: b) = g :: meld key (f :: a) b := by rw [meld_cons, if_neg (by omega), if_pos h]
theorem meldN_gt {f g : Tr α} (a b : List (Tr α)) (h : g.rank < f.rank) : meldN key (f :: a) (g :: b) = meldN key (f :: a) b := by rw [meldN_cons, if_neg (by omega), if_pos h]
theorem meld_eq {f g : Tr α} (a b : List (Tr α)) (h : f.rank = g.rank) : meld key (f :: a) (g :: b) = put key (Tr.link key f g) (meld key a b) := by rw [meld_cons, if_neg (by omega), if_neg (by omega)]
theorem meldN_eq {f g : Tr α} (a b : List (Tr α)) (h : f.rank = g.rank) : meldN key (f :: a) (g :: b) = 1 + meldN key a b + putN key (Tr.link key f g) (meld key a b) := by rw [meldN_cons, if_neg (by omega), if_neg (by omega)]
/-- Melding by cases. -/
theorem meld_cases {p : List (Tr α) → List (Tr α) → Prop} (h1 : ∀ b, p [] b) (h2 : ∀ f a, p (f :: a) []) (h3 : ∀ f a g b, f.rank < g.rank → p a (g :: b) → p (f :: a) (g :: b))
    (h4 : ∀ f a g b, g.rank < f.rank → p (f :: a) b → p (f :: a) (g :: b)) (h5 : ∀ f a g b, f.rank = g.rank → p a b → p (f :: a) (g :: b)) : ∀ a b, p a b := by
  intro a
  induction a with
  | nil => exact h1
  | cons f a iha =>
    intro b
    induction b with
    | nil => exact h2 f a
    | cons g b ihb =>
      rcases Nat.lt_trichotomy f.rank g.rank with h | h | h
      · exact h3 f a g b h (iha _)
      · exact h5 f a g b h (iha _)
      · exact h4 f a g b h ihb
theorem meld_perm (a b : List (Tr α)) : (els (meld key a b)).Perm (els a ++ els b) := by
  refine meld_cases (p := fun a b => (els (meld key a b)).Perm (els a ++ els b)) (fun b => ?_) (fun f a => ?_) (fun f a g b h ih => ?_) (fun f a g b h ih => ?_) (fun f a g b h ih => ?_) a b
  · exact List.Perm.refl _
  · rw [meld_nil', els_nil, List.append_nil]
  · rw [meld_lt key a b h, els_cons, els_cons f a, List.append_assoc]
    exact ih.append_left _
  · rw [meld_gt key a b h, els_cons, els_cons g b]
    refine (ih.append_left _).trans ?_
    rw [← List.append_assoc, ← List.append_assoc]
    exact List.perm_append_comm.append_right _
  · rw [meld_eq key a b h, els_cons f a, els_cons g b]
    refine (put_perm key _ _).trans ?_
    refine ((Tr.link_perm key f g).append ih).trans ?_
    simp only [List.append_assoc]
    refine List.Perm.append_left _ ?_
    rw [← List.append_assoc, ← List.append_assoc]
    exact List.perm_append_comm.append_right _
theorem meld_size (a b : List (Tr α)) : size (meld key a b) = size a + size b := by
  unfold size; rw [(meld_perm key a b).length_eq, List.length_append]
theorem meld_ok : ∀ {a b : List (Tr α)}, ok key a → ok key b → ok key (meld key a b) := by
  intro a b
  refine meld_cases (p := fun a b => ok key a → ok key b → ok key (meld key a b)) (fun b => ?_) (fun f a => ?_) (fun f a g b h ih => ?_) (fun f a g b h ih => ?_) (fun f a g b h ih => ?_) a b
  · exact fun _ hb => hb
  · exact fun ha _ => by rw [meld_nil']; exact ha
  · intro ha hb s hs
    rw [meld_lt key a b h] at hs
    rcases List.mem_cons.1 hs with rfl | hs
    · exact ha _ (by simp)
    · exact ih (fun s hs => ha s (by simp [hs])) hb s hs
  · intro ha hb s hs
    rw [meld_gt key a b h] at hs
    rcases List.mem_cons.1 hs with rfl | hs
    · exact hb _ (by simp)
    · exact ih ha (fun s hs => hb s (by simp [hs])) s hs
  · intro ha hb
    rw [meld_eq key a b h]
    exact put_ok key (Tr.link_ok key (ha f (by simp)) (hb g (by simp))) (ih (fun s hs => ha s (by simp [hs])) fun s hs => hb s (by simp [hs]))
theorem meld_bare : ∀ {a b : List (Tr α)}, bare a → bare b → bare (meld key a b) := by
  intro a b
  refine meld_cases (p := fun a b => bare a → bare b → bare (meld key a b)) (fun b => ?_) (fun f a => ?_) (fun f a g b h ih => ?_) (fun f a g b h ih => ?_) (fun f a g b h ih => ?_) a b
  · exact fun _ hb => hb
  · exact fun ha _ => by rw [meld_nil']; exact ha
  · intro ha hb s hs
    rw [meld_lt key a b h] at hs
    rcases List.mem_cons.1 hs with rfl | hs
    · exact ha _ (by simp)
    · exact ih (fun s hs => ha s (by simp [hs])) hb s hs
  · intro ha hb s hs
    rw [meld_gt key a b h] at hs
    rcases List.mem_cons.1 hs with rfl | hs
    · exact hb _ (by simp)
    · exact ih ha (fun s hs => hb s (by simp [hs])) s hs
  · intro ha hb
    rw [meld_eq key a b h]
    exact put_bare key (Tr.link_bare key (ha f (by simp)) (hb g (by simp))) (ih (fun s hs => ha s (by simp [hs])) fun s hs => hb s (by simp [hs]))

/-- Which root is the least one of the first n + 1. -/
def leastAt (l : List (Tr α)) (d : α) : Nat → Nat
  | 0 => 0
  | n + 1 => if El.lt (key ((l[n + 1]?.map Tr.x).getD d)) (key ((l[leastAt l d n]?.map Tr.x).getD d)) then n + 1 else leastAt l d n
def least : List (Tr α) → Nat
  | [] => 0
  | t :: l => leastAt key (t :: l) t.x l.length
theorem leastAt_le (l : List (Tr α)) (d : α) (n : Nat) : leastAt key l d n ≤ n := by
  induction n with
  | zero => exact Nat.le_refl _
  | succ n ih => unfold leastAt; split <;> omega
/-- The root at a place. -/
def rootAt (l : List (Tr α)) (d : α) (i : Nat) : α := (l[i]?.map Tr.x).getD d
theorem leastAt_succ (l : List (Tr α)) (d : α) (n : Nat) : leastAt key l d (n + 1) = if El.lt (key (rootAt l d (n + 1))) (key (rootAt l d (leastAt key l d n))) then n + 1 else leastAt key l d n := rfl
theorem rootAt_get {l : List (Tr α)} {i : Nat} {t : Tr α} (d : α) (h : l[i]? = some t) : rootAt l d i = t.x := by simp [rootAt, h]
theorem leastAt_min (l : List (Tr α)) (d : α) (n : Nat) : ∀ i, i ≤ n → El.le (key (rootAt l d (leastAt key l d n))) (key (rootAt l d i)) := by
  induction n with
  | zero =>
    intro i hi
    have e : i = 0 := by omega
    rw [e]
    exact El.le_refl _
  | succ n ih =>
    intro i hi
    rw [leastAt_succ]
    by_cases h : El.lt (key (rootAt l d (n + 1))) (key (rootAt l d (leastAt key l d n))) = true
    · rw [if_pos h]
      by_cases hi2 : i = n + 1
      · subst hi2; exact El.le_refl _
      · exact El.le_trans (El.le_of_lt h) (ih i (by omega))
    · rw [if_neg h]
      by_cases hi2 : i = n + 1
      · subst hi2; unfold El.le; simpa using h
      · exact ih i (by omega)
theorem least_lt {l : List (Tr α)} (h : l ≠ []) : least key l < l.length := by
  cases l with
  | nil => exact absurd rfl h
  | cons t l =>
    have := leastAt_le key (t :: l) t.x l.length
    show leastAt key (t :: l) t.x l.length < l.length + 1
    omega
theorem least_min {l : List (Tr α)} {t : Tr α} (ht : l[least key l]? = some t) : ∀ s ∈ l, El.le (key t.x) (key s.x) := by
  intro s hs
  cases l with
  | nil => simp at hs
  | cons u l =>
    obtain ⟨i, hi⟩ := List.getElem?_of_mem hs
    have hil := (List.getElem?_eq_some_iff.1 hi).1
    have := leastAt_min key (u :: l) u.x l.length i (by simp at hil; omega)
    rw [rootAt_get u.x hi] at this
    rw [show leastAt key (u :: l) u.x l.length = least key (u :: l) from rfl, rootAt_get u.x ht] at this
    exact this
/-- The least thing. -/
def minT (l : List (Tr α)) : Option (Tr α) := l[least key l]?
def min? (l : List (Tr α)) : Option α := (minT key l).map Tr.x
theorem minT_none {l : List (Tr α)} (h : minT key l = none) : l = [] := by
  cases l with
  | nil => rfl
  | cons t l =>
    have := least_lt key (l := t :: l) (by simp)
    unfold minT at h
    rw [List.getElem?_eq_none_iff] at h
    omega
theorem min_none {l : List (Tr α)} (h : min? key l = none) : l = [] := minT_none key (by simpa [min?] using h)
theorem minT_nil : minT key ([] : List (Tr α)) = none := rfl
theorem getElem_cons_erase {β : Type} {l : List β} {i : Nat} (h : i < l.length) : (l[i] :: l.eraseIdx i).Perm l := by
  induction l generalizing i with
  | nil => simp at h
  | cons x l ih =>
    cases i with
    | zero => simp
    | succ i =>
      simp only [List.getElem_cons_succ, List.eraseIdx_cons_succ]
      exact (List.Perm.swap x _ _).trans ((ih (by simpa using h)).cons x)
theorem minT_perm {l : List (Tr α)} {t : Tr α} (h : minT key l = some t) : (t :: l.eraseIdx (least key l)).Perm l := by
  obtain ⟨hl, e⟩ := List.getElem?_eq_some_iff.1 (show l[least key l]? = some t from h)
  rw [← e]
  exact getElem_cons_erase hl
theorem minT_mem {l : List (Tr α)} {t : Tr α} (h : minT key l = some t) : t ∈ l := List.mem_of_getElem? (show l[least key l]? = some t from h)
theorem minT_least {l : List (Tr α)} {t : Tr α} (hl : ok key l) (h : minT key l = some t) : ∀ y ∈ els l, El.le (key t.x) (key y) := by
  intro y hy
  obtain ⟨s, hs, hy⟩ := List.mem_flatMap.1 hy
  exact El.le_trans (least_min key h s hs) (Tr.least_all key (hl s hs) y hy)
theorem ok_erase {l : List (Tr α)} (h : ok key l) (i : Nat) : ok key (l.eraseIdx i) := fun s hs => h s ((List.eraseIdx_sublist l i).subset hs)
theorem bare_erase {l : List (Tr α)} (h : bare l) (i : Nat) : bare (l.eraseIdx i) := fun s hs => h s ((List.eraseIdx_sublist l i).subset hs)
end Rw
end Go.Proofs.YteigmfkkeofcaaaGreatDoor
