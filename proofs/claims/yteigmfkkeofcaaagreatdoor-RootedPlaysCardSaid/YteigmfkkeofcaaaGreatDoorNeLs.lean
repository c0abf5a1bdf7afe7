/-
Lists of trees in memory.
-/
import Derived.Test.YteigmfkkeofcaaaGreatDoorHcTr
import Derived.Test.YteigmfkkeofcaaaGreatDoorOaRank
namespace Go.Proofs.YteigmfkkeofcaaaGreatDoor
open Go Go.RowKit
set_option linter.unusedVariables false

/-- A list of trees and where it lies. -/
def LsR (H : GH) (q : Option Addr) (l : List (Tr El)) : Prop := ∃ ps : List (Option Addr), ConsRep 133 H q (ps.map .pointer) ∧ RowR H ps l
theorem LsR.mono {H H' : GH} {q : Option Addr} {l : List (Tr El)} (h : LsR H q l) (hl : H.le H') : LsR H' q l := by
  obtain ⟨ps, h1, h2⟩ := h
  exact ⟨ps, h1.mono hl, h2.mono hl⟩
theorem LsR.nil (H : GH) : LsR H none [] := ⟨[], .nil, RowR.nil H⟩
theorem LsR.none_of {H : GH} {q : Option Addr} (h : LsR H q []) : q = none := by
  obtain ⟨ps, h1, h2⟩ := h
  obtain rfl := h2.nil_of
  cases h1
  rfl
theorem push_row (H : GH) (w : World) (q p : Option Addr) (t : Tr El) (l : List (Tr El)) (hn : Rw.size l < 1000000) (hf : Fits w H) (hl : LsR H q l) (ht : TrR H p t) :
    Calls Tryz.prog 48 #[.agg #[.pointer q], .pointer p] w fun e w' => ∃ q' H', e = .returned (.agg #[.pointer q']) ∧ Post w H none w' H' 0 0 ∧ LsR H' q' (t :: l) := by
  obtain ⟨ps, h1, h2⟩ := hl
  have hlen : ps.length < 1000000 := by have := h2.1; have := Rw.length_le l; omega
  refine (CTr.push_ok H w q (ps.map .pointer) p (by simpa using hlen) hf h1).mono ?_
  rintro e w' ⟨q', H', rfl, hp, hq⟩
  exact ⟨q', H', rfl, hp, p :: ps, hq, RowR.cons (ht.mono hp.le) (h2.mono hp.le)⟩
theorem first_row_nil (H : GH) (w : World) (q : Option Addr) (hf : Fits w H) (hl : LsR H q []) :
    Calls Tryz.prog 44 #[.agg #[.pointer q]] w fun e w' => e = .returned (.tuple #[.pointer none, .bool false]) ∧ Keep none w w' := by
  obtain rfl := hl.none_of
  exact CTr.first_nil H w hf
theorem first_row (H : GH) (q : Option Addr) (t : Tr El) (l : List (Tr El)) (hl : LsR H q (t :: l)) :
    ∃ p, TrR H p t ∧ ∀ w, Fits w H → Calls Tryz.prog 44 #[.agg #[.pointer q]] w fun e w' => e = .returned (.tuple #[.pointer p, .bool true]) ∧ Keep none w w' := by
  obtain ⟨ps, h1, h2⟩ := hl
  obtain ⟨p, rest, rfl, ht, hr⟩ := h2.uncons
  exact ⟨p, ht, fun w hf => CTr.first_cons H w q p (rest.map .pointer) hf h1⟩
theorem RowR.tail {H : GH} {ps : List (Option Addr)} {l : List (Tr El)} (h : RowR H ps l) : RowR H ps.tail l.tail := by
  cases l with
  | nil => obtain rfl := h.nil_of; exact RowR.nil H
  | cons t l => obtain ⟨p, rest, rfl, _, hr⟩ := h.uncons; exact hr
theorem RowR.drop {H : GH} {ps : List (Option Addr)} {l : List (Tr El)} (h : RowR H ps l) (n : Nat) : RowR H (ps.drop n) (l.drop n) := by
  induction n generalizing ps l with
  | zero => exact h
  | succ n ih => rw [← List.drop_tail, ← List.drop_tail]; exact ih h.tail
theorem rest_row (H : GH) (w : World) (q : Option Addr) (l : List (Tr El)) (hf : Fits w H) (hl : LsR H q l) :
    Calls Tryz.prog 45 #[.agg #[.pointer q]] w fun e w' => ∃ q', e = .returned (.agg #[.pointer q']) ∧ Keep none w w' ∧ LsR H q' l.tail := by
  obtain ⟨ps, h1, h2⟩ := hl
  refine (CTr.rest_ok H w q _ hf h1).mono ?_
  rintro e w' ⟨q', rfl, hk, hq⟩
  exact ⟨q', rfl, hk, ps.tail, by rw [← List.map_tail] at hq; exact hq, h2.tail⟩
theorem drop_row (H : GH) (w : World) (q : Option Addr) (l : List (Tr El)) (hf : Fits w H) (hl : LsR H q l) :
    Calls Tryz.prog 47 #[.agg #[.pointer q], .int .i64 2] w fun e w' => ∃ q', e = .returned (.agg #[.pointer q']) ∧ Keep none w w' ∧ LsR H q' (l.drop 2) := by
  obtain ⟨ps, h1, h2⟩ := hl
  refine (CTr.drop_ok H w q _ 2 (show (2 : Int) ≤ 9223372036854775807 by omega) hf h1).mono ?_
  rintro e w' ⟨q', rfl, hk, hq⟩
  exact ⟨q', rfl, hk, ps.drop 2, by rw [show (2 : Int).toNat = 2 from rfl, ← List.map_drop] at hq; exact hq, h2.drop 2⟩
end Go.Proofs.YteigmfkkeofcaaaGreatDoor
