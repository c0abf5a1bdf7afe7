/-
Slices that came in, opened: every element's cells, whatever its type.
-/
import Derived.Test.YteigmfkkeofcaaaGreatDoorGbUon
import Derived.Deep.Slices
import Derived.ChangeSame
import Derived.Test.YteigmfkkeofcaaaGreatDoorRows
import Derived.Test.YteigmfkkeofcaaaGreatDoorNcText
import Derived.ProofKit
import Derived.LaidMore
import Derived.OpenShut
import Derived.Stop.Joined
import Derived.Lib.LaidTab
import Derived.Lib.SmallJoins
import Derived.Test.YteigmfkkeofcaaaGreatDoorQkActs
namespace Go.Proofs.YteigmfkkeofcaaaGreatDoor
open Go Go.RowKit Go.ChangeShapes Go.WideShapes Go.Deep
set_option linter.unusedVariables false

theorem flat_length {α β : Type} (f : α → List β) (n : Nat) (l : List α) (h : ∀ x ∈ l, (f x).length = n) : (l.flatMap f).length = l.length * n := by
  induction l with
  | nil => simp
  | cons x l ih =>
    rw [List.flatMap_cons, List.length_append, ih fun y hy => h y (by simp [hy]), h x (by simp), List.length_cons, Nat.succ_mul]
    omega
theorem flat_get {α β : Type} (f : α → List β) (n : Nat) (l : List α) (h : ∀ x ∈ l, (f x).length = n) (j : Nat) (u : β) (hj : (l.flatMap f)[j]? = some u) :
    ∃ k i x, j = k * n + i ∧ i < n ∧ l[k]? = some x ∧ (f x)[i]? = some u := by
  induction l generalizing j with
  | nil => simp at hj
  | cons x l ih =>
    rw [List.flatMap_cons] at hj
    have hx := h x (by simp)
    by_cases hlt : j < n
    · rw [List.getElem?_append_left (by omega)] at hj
      exact ⟨0, j, x, by omega, hlt, rfl, hj⟩
    · rw [List.getElem?_append_right (by omega), hx] at hj
      obtain ⟨k, i, y, e, hi, hy, hu⟩ := ih (fun y hy => h y (by simp [hy])) (j - n) hj
      exact ⟨k + 1, i, y, by rw [Nat.succ_mul]; omega, hi, by simpa using hy, hu⟩

/-- A slice that came in: its elements, by what one element's cells read as. -/
theorem open_rows {H : Type} {enc : TypeId × Value → H} {P : Program} {w : World} {spare : Nat → Bool} {held : Bool} {α : Type} [Inhabited α] {t e : TypeId} {a0 : Option Addr} {len cap fuel : Nat} {x : DataW H × List MemPlace}
    (f : α → List Value) (ok : α → Prop) (n : Nat) (hn : 0 < n) (hf : ∀ x, (f x).length = n) (ht : P.underlying t = some (.slice e)) (hC : P.cellsOf e = n)
    (hel : ∀ cs m y, cs.length = n → DataW.trod enc P w 0 spare held m e cs = some y → ∃ x, ok x ∧ cs = f x)
    (h : DataW.trod enc P w 0 spare held fuel t [.slice a0 len cap] = some x) :
    ∃ ls : List α, len = ls.length ∧ (∀ a ∈ ls, ok a) ∧ SliceRep (wholeGH w) n (.slice a0 len cap) ls.length (ls.flatMap f) := by
  rcases open_slice ht h with ⟨hcs, _⟩ | ⟨a, len', cap', m, fu, D, Pl, hcs, _, hl, hm, hmm, _, hx⟩
  · simp only [List.cons.injEq, Value.slice.injEq, and_true] at hcs
    obtain ⟨rfl, rfl, rfl⟩ := hcs
    exact ⟨[], rfl, by simp, SliceRep.nil _ _⟩
  · simp only [List.cons.injEq, Value.slice.injEq, and_true] at hcs
    obtain ⟨rfl, rfl, rfl⟩ := hcs
    have hle : len ≤ m := by rw [hmm]; split <;> omega
    obtain ⟨F, hF⟩ := choose_lt (α := α) (n := len) (p := fun i x => ok x ∧ ∀ j u, j < n → (f x)[j]? = some u → w.cell? (a.add (i * n + j)) = some u) (fun i hi => by
      obtain ⟨cs', h1, h2⟩ := hx i (by omega)
      rw [hC] at h1
      obtain ⟨_, hlen, hat⟩ := World.cells?_some h1
      obtain ⟨y, hy, rfl⟩ := hel cs' _ _ hlen h2
      refine ⟨y, hy, fun j u hj hu => ?_⟩
      have := hat j hj
      rw [add_add, hu] at this
      exact this)
    have hlen : ((List.range len).map F).length = len := by simp
    refine ⟨(List.range len).map F, hlen.symm, fun y hy => ?_, ?_⟩
    · obtain ⟨i, hi, rfl⟩ := List.mem_map.1 hy
      exact (hF i (List.mem_range.1 hi)).1
    · rw [hlen]
      refine rep_whole (by rw [flat_length f n _ (fun y _ => hf y), hlen]) hn hl hm (fun j u hj => ?_)
      obtain ⟨k, i, y, rfl, hi, hy, hu⟩ := flat_get f n _ (fun y _ => hf y) j u hj
      rw [List.getElem?_map] at hy
      obtain ⟨k', hk', rfl⟩ := Option.map_eq_some_iff.1 hy
      obtain ⟨hk1, rfl⟩ := List.getElem?_eq_some_iff.1 hk'
      simp only [List.length_range] at hk1
      simp only [List.getElem_range] at hu
      exact (hF k hk1).2 i u hi hu
end Go.Proofs.YteigmfkkeofcaaaGreatDoor
/-
What the listed tables hold when the call begins, for every law of this seat.
-/
namespace Go.Proofs.YteigmfkkeofcaaaGreatDoor
open Go Go.ChangeShapes Go.WideShapes Go.ChangeAt Go.RowKit
set_option linter.unusedVariables false

theorem own : ownKnob Tryz.prog.godebug = none := by kernel_rfl
theorem laidOut : laidOutB Tryz.prog = true := by kernel_rfl
def laid3 : List (String × DataW Unit) := [("math/bits.deBruijn32tab", Rows.laid_math_bits_deBruijn32tab), ("math/bits.deBruijn64tab", Rows.laid_math_bits_deBruijn64tab), ("internal/strconv.uint64pow10", Rows.laid_internal_strconv_uint64pow10)]
theorem door_met (os : Os) (args : Array Value) : laidMetH Tryz.prog laid3 ((World.doorLaid Tryz.prog 24 os).forCall (fun _ _ => 0) ⟨#[], args, []⟩).memory :=
  laidMetH_of_parts3 (fuel := 8) (laidMet_of_run' 8 (by kernel_rfl) (by kernel_rfl)) (by kernel_rfl) (by kernel_rfl)
theorem tabH_whole {W : World} (h : Lib.TabIs Tryz.prog W "internal/strconv.uint64pow10" .u64 Lib.pow10Tab) : TabH (wholeGH W) := by
  unfold Lib.TabIs World.var? at h
  obtain ⟨g, hg, h⟩ := Option.bind_eq_some_iff.1 h
  split at h
  · rename_i cs T f hb
    obtain rfl := Option.some.inj h
    exact ⟨g, T, f, hg, hb⟩
  · cases h
theorem tabH_of_laid {W : World} (h : laidMetH Tryz.prog laid3 W) : TabH (wholeGH W) := by
  rw [MakeChecks.laidMetH_plain _ _ _ (by kernel_rfl)] at h
  obtain ⟨ps, ⟨_, _, _, _, _, _, _, _, _, _, ⟨_, _, _, _, _, _, _, _, _, _, ⟨g2, t2, cs2, f2, p2, q2, hg2, ht2, hv2, hd2, _, _⟩, _⟩, _⟩, _⟩ := h
  have gN : Tryz.prog.globalNamed "internal/strconv.uint64pow10" = some 0 := by kernel_rfl
  have tN : (Tryz.prog.globals[0]?).map (·.type) = some 175 := by kernel_rfl
  obtain rfl := Option.some.inj (gN.symm.trans hg2)
  obtain rfl := Option.some.inj (tN.symm.trans ht2)
  refine tabH_whole ?_
  unfold Lib.TabIs
  have e := Lib.cells_of_tab (k := .u64) (zs := Lib.pow10Tab) Tryz.underlying175 Tryz.underlying166 (by kernel_rfl) (by kernel_rfl) hd2
  rw [hv2, ← e]
end Go.Proofs.YteigmfkkeofcaaaGreatDoor
/-
The arguments of this seat's laws, opened.
-/
namespace Go.Proofs.YteigmfkkeofcaaaGreatDoor
open Go Go.ChangeShapes Go.WideShapes Go.ChangeAt Go.RowKit Go.Joins Go.Deep
set_option linter.unusedVariables false
section
variable {H : Type} {enc : TypeId × Value → H} {W : World}
/-- An element's cells. -/
theorem open_el (cs : List Value) (m : Nat) (y : DataW H × List MemPlace) (hl : cs.length = 2) (h : DataW.trod enc Tryz.prog W 0 (fun _ => true) true m 32 cs = some y) : ∃ x : El, El.fits x ∧ cs = elC x := by
  match cs, hl with
  | [c0, c1], _ =>
  obtain ⟨xs, n, rfl, _, _, hx, hf⟩ := DataW.trod_struct Tryz.underlying32 h
  have h0 := hf 0 _ rfl
  have h1 := hf 1 _ rfl
  have hx : xs.length = 2 := hx
  have get : ∀ (i : Nat) (hi : i < xs.length), xs[i]? = some xs[i] := fun i hi => List.getElem?_eq_getElem hi
  rw [get 0 (by omega)] at h0
  rw [get 1 (by omega)] at h1
  obtain ⟨a, e0, _, w0⟩ := DataW.trod_int (k := .i64) (by kernel_rfl) h0
  obtain ⟨b, e1, _, w1⟩ := DataW.trod_int (k := .i64) (by kernel_rfl) h1
  have k2 : Tryz.prog.cellsOf 2 = 1 := by kernel_rfl
  obtain rfl : c0 = .int .i64 a := by simpa [k2] using e0
  obtain rfl : c1 = .int .i64 b := by simpa [k2] using e1
  exact ⟨(a, b), ⟨bounds_i64 w0, bounds_i64 w1⟩, rfl⟩
instance : Inhabited El := ⟨(0, 0)⟩
/-- A row of elements that came in. -/
theorem open_els {a0 : Option Addr} {len cap : Nat} {d : DataW H} {p : List MemPlace} (h : DataW.Trod enc Tryz.prog W 0 (fun _ => true) true 39 (.slice a0 len cap) d p) :
    ∃ l : List El, ElRep (wholeGH W) (.slice a0 len cap) l ∧ ∀ x ∈ l, El.fits x := by
  obtain ⟨fuel, hf⟩ := h
  obtain ⟨l, rfl, h1, h2⟩ := open_rows elC El.fits 2 (by omega) (fun _ => rfl) Tryz.underlying39 (by kernel_rfl) open_el hf
  exact ⟨l, h2, h1⟩
set_option maxRecDepth 100000 in
/-- An element that came in. -/
theorem open_elem {b0 : Nat} {v : Value} {d : DataW H} {p : List MemPlace} (hv : Value.okWide Tryz.prog W .any b0 32 v) (h : DataW.Trod enc Tryz.prog W 0 (fun _ => true) true 32 v d p) :
    ∃ x : El, v = elV x ∧ El.fits x := by
  obtain ⟨v0, v1, y0, y1, n, rfl, _, _, h0, h1⟩ := open_agg2 Tryz.underlying32 (by kernel_rfl) (by kernel_rfl) hv h
  obtain ⟨a, e0, _, w0⟩ := DataW.trod_int (k := .i64) (by kernel_rfl) h0
  obtain ⟨b, e1, _, w1⟩ := DataW.trod_int (k := .i64) (by kernel_rfl) h1
  obtain rfl : v0 = .int .i64 a := by simpa using e0
  obtain rfl : v1 = .int .i64 b := by simpa using e1
  exact ⟨(a, b), rfl, bounds_i64 w0, bounds_i64 w1⟩
end
end Go.Proofs.YteigmfkkeofcaaaGreatDoor
/-
A row of acts that came in, opened.
-/
namespace Go.Proofs.YteigmfkkeofcaaaGreatDoor
open Go Go.ChangeShapes Go.WideShapes Go.ChangeAt Go.RowKit Go.Joins Go.Deep
set_option linter.unusedVariables false
section
variable {H : Type} {enc : TypeId × Value → H} {W : World}
theorem open_els_cell {c : Value} {m : Nat} {y : DataW H × List MemPlace} (h : DataW.trod enc Tryz.prog W 0 (fun _ => true) true m 39 [c] = some y) :
    ∃ l : List El, ElRep (wholeGH W) c l ∧ ∀ x ∈ l, El.fits x := by
  obtain ⟨a0, len, cap, rfl⟩ : ∃ a0 len cap, c = .slice a0 len cap := by
    rcases open_slice Tryz.underlying39 h with ⟨hcs, _⟩ | ⟨a, len', cap', m, fu, D, Pl, hcs, _⟩
    · simp only [List.cons.injEq, and_true] at hcs
      exact ⟨_, _, _, hcs⟩
    · simp only [List.cons.injEq, and_true] at hcs
      exact ⟨_, _, _, hcs⟩
  obtain ⟨l, rfl, h1, h2⟩ := open_rows elC El.fits 2 (by omega) (fun _ => rfl) Tryz.underlying39 (by kernel_rfl) open_el h
  exact ⟨l, h2, h1⟩
theorem u8_nat {z : Int} (h : (Lit.int IntKind.u8 z).wf = true) : ∃ n : Nat, z = n ∧ n ≤ 255 := by
  have := bounds_u8 h
  exact ⟨z.toNat, by omega, by omega⟩
/-- An act's cells. -/
theorem open_act (cs : List Value) (m : Nat) (y : DataW H × List MemPlace) (hl : cs.length = 6) (h : DataW.trod enc Tryz.prog W 0 (fun _ => true) true m 41 cs = some y) : ∃ x : Play, x.ok (wholeGH W) ∧ cs = x.cells := by
  match cs, hl with
  | [c0, c1, c2, c3, c4, c5], _ =>
  obtain ⟨xs, n, rfl, _, _, hx, hf⟩ := DataW.trod_struct Tryz.underlying41 h
  have h0 := hf 0 _ rfl
  have h1 := hf 1 _ rfl
  have h2 := hf 2 _ rfl
  have h3 := hf 3 _ rfl
  have h4 := hf 4 _ rfl
  have hx : xs.length = 5 := hx
  have get : ∀ (i : Nat) (hi : i < xs.length), xs[i]? = some xs[i] := fun i hi => List.getElem?_eq_getElem hi
  rw [get 0 (by omega)] at h0
  rw [get 1 (by omega)] at h1
  rw [get 2 (by omega)] at h2
  rw [get 3 (by omega)] at h3
  rw [get 4 (by omega)] at h4
  have k1 : Tryz.prog.cellsOf 5 = 1 := by kernel_rfl
  have k2 : Tryz.prog.cellsOf 32 = 2 := by kernel_rfl
  have k3 : Tryz.prog.cellsOf 39 = 1 := by kernel_rfl
  obtain ⟨z0, e0, _, w0⟩ := DataW.trod_int (k := .u8) (by kernel_rfl) h0
  obtain ⟨z1, e1, _, w1⟩ := DataW.trod_int (k := .u8) (by kernel_rfl) h1
  obtain ⟨z2, e2, _, w2⟩ := DataW.trod_int (k := .u8) (by kernel_rfl) h2
  obtain rfl : c0 = .int .u8 z0 := by simpa [k1] using e0
  obtain rfl : c1 = .int .u8 z1 := by simpa [k1] using e1
  obtain rfl : c2 = .int .u8 z2 := by simpa [k1] using e2
  simp only [List.getElem_toArray, List.getElem_cons_zero, List.getElem_cons_succ, List.drop_succ_cons, List.drop_zero, k2, List.take_succ_cons, List.take_zero] at h3
  simp only [List.getElem_toArray, List.getElem_cons_zero, List.getElem_cons_succ, List.drop_succ_cons, List.drop_zero, k3, List.take_succ_cons, List.take_nil] at h4
  obtain ⟨x, hxf, hxe⟩ := open_el [c3, c4] _ _ rfl h3
  obtain ⟨l, hlr, hlf⟩ := open_els_cell (c := c5) h4
  obtain ⟨n0, rfl, b0⟩ := u8_nat w0
  obtain ⟨n1, rfl, b1⟩ := u8_nat w1
  obtain ⟨n2, rfl, b2⟩ := u8_nat w2
  simp only [elC, List.cons.injEq, and_true] at hxe
  obtain ⟨rfl, rfl⟩ := hxe
  exact ⟨⟨n0, n1, n2, x, c5, l⟩, ⟨b0, b1, b2, hxf, hlr, hlf⟩, rfl⟩
instance : Inhabited Play := ⟨⟨0, 0, 0, (0, 0), .slice none 0 0, []⟩⟩
/-- A row of acts that came in. -/
theorem open_acts {a0 : Option Addr} {len cap : Nat} {d : DataW H} {p : List MemPlace} (h : DataW.Trod enc Tryz.prog W 0 (fun _ => true) true 22 (.slice a0 len cap) d p) :
    ∃ l : List Play, PlayRep (wholeGH W) (.slice a0 len cap) l := by
  obtain ⟨fuel, hf⟩ := h
  obtain ⟨l, rfl, h1, h2⟩ := open_rows Play.cells (Play.ok (wholeGH W)) 6 (by omega) (fun _ => rfl) Tryz.underlying22 (by kernel_rfl) open_act hf
  exact ⟨l, h2, h1⟩
end
end Go.Proofs.YteigmfkkeofcaaaGreatDoor
