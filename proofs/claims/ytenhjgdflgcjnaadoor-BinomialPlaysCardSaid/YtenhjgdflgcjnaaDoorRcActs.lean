/-
A row of acts that came in, opened.
-/
import Derived.Test.YtenhjgdflgcjnaaDoorRbOpen
import Derived.Test.YtenhjgdflgcjnaaDoorQkActs
namespace Go.Proofs.YtenhjgdflgcjnaaDoor
open Go Go.ChangeShapes Go.WideShapes Go.ChangeAt Go.RowKit Go.Joins Go.Deep
set_option linter.unusedVariables false
section
variable {H : Type} {enc : TypeId × Value → H} {W : World}
theorem open_els_cell {c : Value} {m : Nat} {y : DataW H × List MemPlace} (h : DataW.trod enc Tryd.prog W 0 (fun _ => true) true m 22 [c] = some y) :
    ∃ l : List El, ElRep (wholeGH W) c l ∧ ∀ x ∈ l, El.fits x := by
  obtain ⟨a0, len, cap, rfl⟩ : ∃ a0 len cap, c = .slice a0 len cap := by
    rcases open_slice Tryd.underlying22 h with ⟨hcs, _⟩ | ⟨a, len', cap', m, fu, D, Pl, hcs, _⟩
    · simp only [List.cons.injEq, and_true] at hcs
      exact ⟨_, _, _, hcs⟩
    · simp only [List.cons.injEq, and_true] at hcs
      exact ⟨_, _, _, hcs⟩
  obtain ⟨l, rfl, h1, h2⟩ := open_rows elC El.fits 2 (by omega) (fun _ => rfl) Tryd.underlying22 (by kernel_rfl) open_el h
  exact ⟨l, h2, h1⟩
theorem u8_nat {z : Int} (h : (Lit.int IntKind.u8 z).wf = true) : ∃ n : Nat, z = n ∧ n ≤ 255 := by
  have := bounds_u8 h
  exact ⟨z.toNat, by omega, by omega⟩
/-- An act's cells. -/
theorem open_act (cs : List Value) (m : Nat) (y : DataW H × List MemPlace) (hl : cs.length = 6) (h : DataW.trod enc Tryd.prog W 0 (fun _ => true) true m 49 cs = some y) : ∃ x : Play, x.ok (wholeGH W) ∧ cs = x.cells := by
  match cs, hl with
  | [c0, c1, c2, c3, c4, c5], _ =>
  obtain ⟨xs, n, rfl, _, _, hx, hf⟩ := DataW.trod_struct Tryd.underlying49 h
  have h0 := hf 0 _ rfl
  have h1 := hf 1 _ rfl
  have h2 := hf 2 _ rfl
  have h3 := hf 3 _ rfl
  have h4 := hf 4 _ rfl
  have hx : xs.length = 5 := hx
  have get : ∀ (i : Nat) (hi : i < xs.length), xs[i]? = some xs[i] := fun i hi => List.getElem?_eq_getElem hi
  rw [get 0 (by omega)] at h0
  rw [get 1 (by omega)] at h1
  rw [get 2 (by omega)] at h2
  rw [get 3 (by omega)] at h3
  rw [get 4 (by omega)] at h4
  have k1 : Tryd.prog.cellsOf 5 = 1 := by kernel_rfl
  have k2 : Tryd.prog.cellsOf 35 = 2 := by kernel_rfl
  have k3 : Tryd.prog.cellsOf 22 = 1 := by kernel_rfl
  obtain ⟨z0, e0, _, w0⟩ := DataW.trod_int (k := .u8) (by kernel_rfl) h0
  obtain ⟨z1, e1, _, w1⟩ := DataW.trod_int (k := .u8) (by kernel_rfl) h1
  obtain ⟨z2, e2, _, w2⟩ := DataW.trod_int (k := .u8) (by kernel_rfl) h2
  obtain rfl : c0 = .int .u8 z0 := by simpa [k1] using e0
  obtain rfl : c1 = .int .u8 z1 := by simpa [k1] using e1
  obtain rfl : c2 = .int .u8 z2 := by simpa [k1] using e2
  simp only [List.getElem_toArray, List.getElem_cons_zero, List.getElem_cons_succ, List.drop_succ_cons, List.drop_zero, k2, List.take_succ_cons, List.take_zero] at h3
  simp only [List.getElem_toArray, List.getElem_cons_zero, List.getElem_cons_succ, List.drop_succ_cons, List.drop_zero, k3, List.take_succ_cons, List.take_nil] at h4
  obtain ⟨x, hxf, hxe⟩ := open_el [c3, c4] _ _ rfl h3
  obtain ⟨l, hlr, hlf⟩ := open_els_cell (c := c5) h4
  obtain ⟨n0, rfl, b0⟩ := u8_nat w0
  obtain ⟨n1, rfl, b1⟩ := u8_nat w1
  obtain ⟨n2, rfl, b2⟩ := u8_nat w2
  simp only [elC, List.cons.injEq, and_true] at hxe
  obtain ⟨rfl, rfl⟩ := hxe
  exact ⟨⟨n0, n1, n2, x, c5, l⟩, ⟨b0, b1, b2, hxf, hlr, hlf⟩, rfl⟩
instance : Inhabited Play := ⟨⟨0, 0, 0, (0, 0), .slice none 0 0, []⟩⟩
/-- A row of acts that came in. -/
theorem open_acts {a0 : Option Addr} {len cap : Nat} {d : DataW H} {p : List MemPlace} (h : DataW.Trod enc Tryd.prog W 0 (fun _ => true) true 41 (.slice a0 len cap) d p) :
    ∃ l : List Play, PlayRep (wholeGH W) (.slice a0 len cap) l := by
  obtain ⟨fuel, hf⟩ := h
  obtain ⟨l, rfl, h1, h2⟩ := open_rows Play.cells (Play.ok (wholeGH W)) 6 (by omega) (fun _ => rfl) Tryd.underlying41 (by kernel_rfl) open_act hf
  exact ⟨l, h2, h1⟩
end
end Go.Proofs.YtenhjgdflgcjnaaDoor
