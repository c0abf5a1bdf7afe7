/-
Lists that are never written, in the ghost heap.
-/
import Derived.Test.YteigmfkkeofcaaaGreatDoorGbTow
import Derived.RangeFuncNested
import Derived.RangeFuncBound
import Derived.RangeFuncCalls
import Derived.RangeFuncLeaves
import Derived.Shelf.Abstract
import Derived.Shelf.RegionOpen
import Derived.OwnWalkIn
import Derived.TacticsInMore
import Derived.LoopNIn
import Derived.LoopIn
import Derived.WalkSpells
import Derived.WalkLawsBesides
import Derived.IntWalk
namespace Go.Proofs.YteigmfkkeofcaaaGreatDoor
open Go Go.RowKit
set_option linter.unusedVariables false

/-- A list in the ghost heap: its things as cells hold them. -/
inductive ConsRep (T : TypeId) (H : GH) : Option Addr → List Value → Prop
  | nil : ConsRep T H none []
  | cons {b : Nat} {v : Value} {p : Option Addr} {vs : List Value} (h : H b = some (.cells #[v, .pointer p, .int .i64 ((vs.length : Int) + 1)] T)) (r : ConsRep T H p vs) : ConsRep T H (some ⟨b, 0, none⟩) (v :: vs)
theorem ConsRep.mono {T : TypeId} {H H' : GH} {p : Option Addr} {vs : List Value} (h : ConsRep T H p vs) (hl : H.le H') : ConsRep T H' p vs := by
  induction h with
  | nil => exact .nil
  | cons h _ ih => exact .cons (hl _ _ h) ih
theorem ConsRep.uniq {T : TypeId} {H : GH} {p : Option Addr} {vs us : List Value} (h : ConsRep T H p vs) (k : ConsRep T H p us) : vs = us := by
  induction h generalizing us with
  | nil => cases k; rfl
  | @cons b v p vs hb hr ih =>
    cases k with
    | cons hb' hr' =>
      rw [hb] at hb'
      simp only [Option.some.injEq, Obj.cells.injEq, Array.mk.injEq, List.cons.injEq, Value.pointer.injEq] at hb'
      obtain ⟨⟨rfl, rfl, _⟩, _⟩ := hb'
      rw [ih hr']
open Classical in
/-- How many are still to come. -/
noncomputable def consLeft (T : TypeId) (H : GH) (v : Value) : Nat :=
  if h : ∃ r : Option Addr × List Value, v = .pointer r.1 ∧ ConsRep T H r.1 r.2 then (Classical.choose h).2.length else 0
theorem consLeft_eq {T : TypeId} {H : GH} {q : Option Addr} {xs : List Value} (h : ConsRep T H q xs) : consLeft T H (.pointer q) = xs.length := by
  have hex : ∃ r : Option Addr × List Value, Value.pointer q = .pointer r.1 ∧ ConsRep T H r.1 r.2 := ⟨(q, xs), rfl, h⟩
  unfold consLeft
  rw [dif_pos hex]
  obtain ⟨e, hl⟩ := Classical.choose_spec hex
  have e' : q = (Classical.choose hex).1 := by simpa using e
  rw [← e'] at hl
  rw [ConsRep.uniq hl h]

/-- What a round keeps. -/
def KeepsH (H : GH) (A B : World) : Prop := Fits A H → Fits B H

/-- The cells of a settled slice, at whatever index. -/
theorem SliceRep.cell {w : World} {H : GH} {size n : Nat} {b off cap : Nat} {xs : List Value} (h : SliceRep H size (.slice (some ⟨b, off, none⟩) n cap) n xs) (hf : Fits w H) (j : Nat) {u : Value} (hj : xs[j]? = some u) : w.cell? ⟨b, off + j, none⟩ = some u := by
  rcases h.2 with ⟨h0, _⟩ | ⟨b', off', cap', cs, T, f, h1, h2, h3, h4, h5⟩
  · have h6 := h.1
    rw [h0, Nat.zero_mul] at h6
    rw [List.eq_nil_of_length_eq_zero h6] at hj
    simp at hj
  · simp only [Value.slice.injEq, Option.some.injEq, Addr.mk.injEq] at h1
    obtain ⟨⟨rfl, rfl, _⟩, _, _⟩ := h1
    rw [blk_cell (hf _ _ h4)]
    exact h5 j u hj
theorem SliceRep.ne_nil {H : GH} {size n : Nat} {v : Value} {xs : List Value} (h : SliceRep H size v n xs) (hn : 0 < n) : ∃ b off cap, v = .slice (some ⟨b, off, none⟩) n cap ∧ n ≤ cap ∧ cap ≤ maxLen := by
  rcases h.2 with ⟨h, _⟩ | ⟨b, off, cap, _, _, _, h1, h2, h3, _⟩
  · omega
  · exact ⟨b, off, cap, h1, h2, h3⟩
theorem SliceRep.nil_or {H : GH} {size n : Nat} {v : Value} {xs : List Value} (h : SliceRep H size v n xs) : ∃ a cap, v = .slice a n cap ∧ n ≤ cap ∧ cap ≤ maxLen := by
  rcases h.2 with ⟨h, a, cap, h1, h2⟩ | ⟨b, off, cap, _, _, _, h1, h2, h3, _⟩
  · exact ⟨a, cap, by rw [h1, h], by omega, h2⟩
  · exact ⟨_, cap, h1, h2, h3⟩

/-- A settled slice, from an index on: 's[k:]'. -/
theorem SliceRep.from {H : GH} {size n cap : Nat} {a : Option Addr} {xs : List Value} (h : SliceRep H size (.slice a n cap) n xs) (k : Nat) (hk : k ≤ n) :
    SliceRep H size (.slice (if cap = k then a else Option.map (fun x => x.add (k * size)) a) (n - k) (cap - k)) (n - k) (xs.drop (k * size)) := by
  refine ⟨by rw [List.length_drop, h.1, Nat.sub_mul], ?_⟩
  rcases h.2 with ⟨h0, a', cap', h1, h2⟩ | ⟨b, off, cap', cs, T, f, h1, h2, h3, h4, h5⟩
  · simp only [Value.slice.injEq] at h1
    obtain ⟨rfl, rfl, rfl⟩ := h1
    exact .inl ⟨by omega, _, cap - k, by rw [show 0 - k = 0 by omega], by omega⟩
  · simp only [Value.slice.injEq] at h1
    obtain ⟨rfl, _, rfl⟩ := h1
    by_cases hc : cap = k
    · rw [if_pos hc]
      have e : xs.drop (k * size) = [] := List.drop_eq_nil_of_le (by rw [h.1]; exact Nat.mul_le_mul_right _ (by omega))
      exact .inr ⟨b, off, cap - k, cs, T, f, rfl, by omega, by omega, h4, fun j u hj => by rw [e] at hj; simp at hj⟩
    · rw [if_neg hc]
      have e2 : Option.map (fun x : Addr => x.add (k * size)) (some ⟨b, off, none⟩) = some ⟨b, off + k * size, none⟩ := by
        simp only [Option.map_some, Addr.add]
        split <;> simp_all
      rw [e2]
      refine .inr ⟨b, off + k * size, cap - k, cs, T, f, rfl, by omega, by omega, h4, fun j u hj => ?_⟩
      rw [List.getElem?_drop] at hj
      rw [Nat.add_assoc]
      exact h5 _ u hj

/-- All of the heap is settled: where a law begins. -/
def wholeGH (w : World) : GH := fun b => w.heap[b]?
theorem fits_whole (w : World) : Fits w (wholeGH w) := fun _ _ h => h
/-- A slice that came in. -/
theorem rep_whole {w : World} {x : Addr} {n cap size : Nat} {xs : List Value} (hl : xs.length = n * size) (hs : 0 < size) (hn : n ≤ cap) (hc : cap ≤ maxLen) (hcell : ∀ j u, xs[j]? = some u → w.cell? (x.add j) = some u) :
    SliceRep (wholeGH w) size (.slice (some x) n cap) n xs := by
  refine ⟨hl, ?_⟩
  by_cases h0 : n = 0
  · subst h0; exact .inl ⟨rfl, _, _, rfl, hc⟩
  · have hpos : 0 < xs.length := by rw [hl]; exact Nat.mul_pos (by omega) hs
    have h1 := hcell 0 xs[0] (by simp [hpos])
    obtain ⟨b, off, spot⟩ := x
    simp only [Addr.add, ↓reduceIte] at h1
    unfold World.cell? at h1
    split at h1
    · rename_i cs T f hb
      cases spot with
      | some s => simp at h1
      | none =>
        refine .inr ⟨b, off, cap, cs, T, f, rfl, hn, hc, hb, fun j u hj => ?_⟩
        have h2 := hcell j u hj
        simp only [Addr.add] at h2
        split at h2
        · rename_i hj0
          subst hj0
          rw [blk_cell hb] at h2
          simpa using h2
        · rw [blk_cell hb] at h2
          exact h2
    · cases h1
end Go.Proofs.YteigmfkkeofcaaaGreatDoor
