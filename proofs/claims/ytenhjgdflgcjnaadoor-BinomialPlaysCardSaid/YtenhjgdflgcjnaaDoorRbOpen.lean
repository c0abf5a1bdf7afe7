/-
The arguments of this seat's laws, opened.
-/
import Derived.Test.YtenhjgdflgcjnaaDoorRaLaid
import Derived.Lib.SmallJoins
namespace Go.Proofs.YtenhjgdflgcjnaaDoor
open Go Go.ChangeShapes Go.WideShapes Go.ChangeAt Go.RowKit Go.Joins Go.Deep
set_option linter.unusedVariables false
section
variable {H : Type} {enc : TypeId × Value → H} {W : World}
/-- An element's cells. -/
theorem open_el (cs : List Value) (m : Nat) (y : DataW H × List MemPlace) (hl : cs.length = 2) (h : DataW.trod enc Tryd.prog W 0 (fun _ => true) true m 35 cs = some y) : ∃ x : El, El.fits x ∧ cs = elC x := by
  match cs, hl with
  | [c0, c1], _ =>
  obtain ⟨xs, n, rfl, _, _, hx, hf⟩ := DataW.trod_struct Tryd.underlying35 h
  have h0 := hf 0 _ rfl
  have h1 := hf 1 _ rfl
  have hx : xs.length = 2 := hx
  have get : ∀ (i : Nat) (hi : i < xs.length), xs[i]? = some xs[i] := fun i hi => List.getElem?_eq_getElem hi
  rw [get 0 (by omega)] at h0
  rw [get 1 (by omega)] at h1
  obtain ⟨a, e0, _, w0⟩ := DataW.trod_int (k := .i64) (by kernel_rfl) h0
  obtain ⟨b, e1, _, w1⟩ := DataW.trod_int (k := .i64) (by kernel_rfl) h1
  have k2 : Tryd.prog.cellsOf 2 = 1 := by kernel_rfl
  obtain rfl : c0 = .int .i64 a := by simpa [k2] using e0
  obtain rfl : c1 = .int .i64 b := by simpa [k2] using e1
  exact ⟨(a, b), ⟨bounds_i64 w0, bounds_i64 w1⟩, rfl⟩
instance : Inhabited El := ⟨(0, 0)⟩
/-- A row of elements that came in. -/
theorem open_els {a0 : Option Addr} {len cap : Nat} {d : DataW H} {p : List MemPlace} (h : DataW.Trod enc Tryd.prog W 0 (fun _ => true) true 22 (.slice a0 len cap) d p) :
    ∃ l : List El, ElRep (wholeGH W) (.slice a0 len cap) l ∧ ∀ x ∈ l, El.fits x := by
  obtain ⟨fuel, hf⟩ := h
  obtain ⟨l, rfl, h1, h2⟩ := open_rows elC El.fits 2 (by omega) (fun _ => rfl) Tryd.underlying22 (by kernel_rfl) open_el hf
  exact ⟨l, h2, h1⟩
set_option maxRecDepth 100000 in
/-- An element that came in. -/
theorem open_elem {b0 : Nat} {v : Value} {d : DataW H} {p : List MemPlace} (hv : Value.okWide Tryd.prog W .any b0 35 v) (h : DataW.Trod enc Tryd.prog W 0 (fun _ => true) true 35 v d p) :
    ∃ x : El, v = elV x ∧ El.fits x := by
  obtain ⟨v0, v1, y0, y1, n, rfl, _, _, h0, h1⟩ := open_agg2 Tryd.underlying35 (by kernel_rfl) (by kernel_rfl) hv h
  obtain ⟨a, e0, _, w0⟩ := DataW.trod_int (k := .i64) (by kernel_rfl) h0
  obtain ⟨b, e1, _, w1⟩ := DataW.trod_int (k := .i64) (by kernel_rfl) h1
  obtain rfl : v0 = .int .i64 a := by simpa using e0
  obtain rfl : v1 = .int .i64 b := by simpa using e1
  exact ⟨(a, b), rfl, bounds_i64 w0, bounds_i64 w1⟩
end
end Go.Proofs.YtenhjgdflgcjnaaDoor
