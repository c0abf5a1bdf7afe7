/-
A region that draws its order, walked in one order that the prover picks: what is quiet under S is taken first, the rest where nothing else may come up.
-/
import Derived.OrdersHeld
import Derived.WalkKit
namespace Go.Proofs.YteigmfkkeofcaaaGreatDoor
open Go
set_option linter.unusedVariables false

section
variable {P : Program} {ops : Array Oper} {Q : Exit → Act → World → Prop} {S : World → Prop}

def wpOrd (P : Program) (ops : Array Oper) (Q : Exit → Act → World → Prop) (S : World → Prop) : List (Oper × Bool) → Act → World → Prop
  | [], a, w => Q .normal a w
  | (o, true) :: r, a, w => ∃ v, YieldsIf P ops S o v a ∧ (∀ c a w, Q (.panic c) (a.put o.dst v) w → Q (.panic c) a w) ∧ wpOrd P ops Q S r (a.put o.dst v) w
  | (o, false) :: r, a, w => if Region.wanted o (yielded ops a.tmps) then o.wp P a w (fun a' w' => S w' ∧ wpOrd P ops Q S r a' w') Q else wpOrd P ops Q S r (a.put o.dst undef) w

def ordB (ops : Array Oper) : List (Nat × Bool) → Array Bool → Bool
  | [], l => (Region.ready .any ops l).isEmpty
  | (i, true) :: r, l => (Region.ready .any ops l).contains i && Region.free .any ops l i && ordB ops r (l.setIfInBounds i true)
  | (i, false) :: r, l => decide (Region.ready .any ops l = [i]) && ordB ops r (l.setIfInBounds i true)

def ordOps (ops : List Oper) (r : List (Nat × Bool)) : List (Oper × Bool) := r.map fun x => (ops.getD x.1 default, x.2)

theorem ready_get {l : Array Bool} {i : Nat} (h : i ∈ Region.ready .any ops l) : ∃ o, ops[i]? = some o :=
  let ⟨_, o, ho, _⟩ := mem_ready.1 h
  ⟨o, ho⟩

theorem wpAnyH_of_ord (hs : Region.noSelect ops = true) : ∀ (r : List (Nat × Bool)) (l : Array Bool) (a : Act) (w : World), ordB ops r l = true → S w → wpOrd P ops Q S (ordOps ops.toList r) a w →
    wpAnyH P .any ops Q S r.length l a w
  | [], l, a, w, hb, _, h => ⟨by simpa [ordB] using hb, h⟩
  | (i, true) :: r, l, a, w, hb, hS, h => by
    simp only [ordB, Bool.and_eq_true] at hb
    obtain ⟨o, ho⟩ := ready_get (ops := ops) (l := l) (i := i) (by simpa using hb.1.1)
    have e : ops.toList.getD i default = o := by simp [List.getD_eq_getElem?_getD, ho]
    obtain ⟨v, hy, hq, h⟩ := (show ∃ v, _ from h)
    rw [e] at hy hq h
    exact wpAnyH_take ho hs hb.1.2 hb.1.1 hq hy hS (wpAnyH_of_ord hs r _ _ w hb.2 hS h)
  | (i, false) :: r, l, a, w, hb, hS, h => by
    simp only [ordB, Bool.and_eq_true, decide_eq_true_eq] at hb
    refine wpAnyH_all hb.1 (by simp) ?_
    intro j hj
    have : j = i := by simpa using hj
    subst this
    obtain ⟨o, ho⟩ := ready_get (ops := ops) (l := l) (i := j) (by rw [hb.1]; simp)
    have e : ops.toList.getD j default = o := by simp [List.getD_eq_getElem?_getD, ho]
    have h' : if Region.wanted o (yielded ops a.tmps) then o.wp P a w (fun a' w' => S w' ∧ wpOrd P ops Q S (ordOps ops.toList r) a' w') Q else wpOrd P ops Q S (ordOps ops.toList r) (a.put o.dst undef) w := by
      rw [← e]; exact h
    unfold wpOp
    simp only [ho]
    split
    · rename_i hw
      rw [if_pos hw] at h'
      exact .inl (Oper.wp_mono (fun a' w' h2 => ⟨h2.1, wpAnyH_of_ord hs r _ a' w' hb.2 h2.1 h2.2⟩) h')
    · rename_i hw
      rw [if_neg hw] at h'
      exact ⟨hS, wpAnyH_of_ord hs r _ _ w hb.2 hS h'⟩

theorem wp_region_ord {id : Nat} {a : Act} {w : World} {l : List Oper} (S : World → Prop) (r : List (Nat × Bool)) (hm : P.follows .mixedOrders = true)
    (hb : (Region.noSelect l.toArray && decide (r.length = l.toArray.size) && ordB l.toArray r (Array.replicate l.toArray.size false)) = true) (hS : S w.drew)
    (h : wpOrd P l.toArray Q S (ordOps l r) a w.drew) : (Code.region id l.toArray true).wp P Q a w := by
  simp only [Bool.and_eq_true, decide_eq_true_eq] at hb
  refine wp_region_held (S := S) hm ?_
  have := wpAnyH_of_ord hb.1.1 r _ a w.drew hb.2 hS h
  rw [hb.1.2] at this
  exact this

theorem wpOrd_nil {a : Act} {w : World} (h : Q .normal a w) : wpOrd P ops Q S [] a w := h

/-- An operation that its guard leaves out. -/
theorem wpOrd_skip {r : List (Oper × Bool)} {a : Act} {w : World} {o : Oper} (hg : Region.wanted o (yielded ops a.tmps) = false)
    (hq : ∀ c a w, Q (.panic c) (a.put o.dst undef) w → Q (.panic c) a w)
    (h : wpOrd P ops Q S r (a.put o.dst undef) w) : wpOrd P ops Q S ((o, true) :: r) a w :=
  ⟨undef, .inr ⟨hg, rfl⟩, hq, h⟩

/-- A quiet operation. -/
theorem wpOrd_quiet {r : List (Oper × Bool)} {a : Act} {w : World} {o : Oper} {v : Value} (hg : Region.wanted o (yielded ops a.tmps) = true)
    (hq : ∀ c a w, Q (.panic c) (a.put o.dst v) w → Q (.panic c) a w)
    (hy : ∀ w', S w' → (execOp a.eval o).run P w' = .ok (.value v) w') (h : wpOrd P ops Q S r (a.put o.dst v) w) : wpOrd P ops Q S ((o, true) :: r) a w :=
  ⟨v, .inl ⟨hg, hy⟩, hq, h⟩

theorem wpOrd_eff {r : List (Oper × Bool)} {a : Act} {w : World} {o : Oper} (hg : Region.wanted o (yielded ops a.tmps) = true)
    (h : ∀ K : Act → World → Prop, (∀ a' w', S w' → wpOrd P ops Q S r a' w' → K a' w') → o.wp P a w K Q) : wpOrd P ops Q S ((o, false) :: r) a w := by
  have := h (fun a' w' => S w' ∧ wpOrd P ops Q S r a' w') (fun _ _ h1 h2 => ⟨h1, h2⟩)
  show if _ then _ else _
  rw [if_pos hg]
  exact this

theorem wpOrd_effskip {r : List (Oper × Bool)} {a : Act} {w : World} {o : Oper} (hg : Region.wanted o (yielded ops a.tmps) = false)
    (h : wpOrd P ops Q S r (a.put o.dst undef) w) : wpOrd P ops Q S ((o, false) :: r) a w := by
  show if _ then _ else _
  rw [if_neg (by simp [hg])]
  exact h
end
end Go.Proofs.YteigmfkkeofcaaaGreatDoor
