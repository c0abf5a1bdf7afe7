/-
ConsPlays: the row (the shape of the wrap is the kit's own skeleton's).
-/
import Derived.Test.YtallllpjjhcaoaaKfPlays
import Derived.Test.YtallllpjjhcaoaaLaOpen
import Derived.WalkKit
import Derived.ProofKit
import Derived.OpenShut
import Derived.ChangeOld
import Derived.Below
namespace Go.Proofs.Ytallllpjjhcaoaa.consPlays
open Go.ChangeShapes Go.WideShapes Go.ChangeAt Go.RowKit
set_option linter.unusedVariables false

theorem own : ownKnob Try.prog.godebug = none := by kernel_rfl
theorem laidOut : laidOutB Try.prog = true := by kernel_rfl
instance : Inhabited Play := ⟨⟨0, 0, 0, 0⟩⟩

section
variable {H : Type} {enc : TypeId × Value → H} {W : World}
/-- One act's cells. -/
theorem open_play (cs : List Value) (m : Nat) (y : DataW H × List MemPlace) (hl : cs.length = 4) (h : DataW.trod enc Try.prog W 0 (fun _ => true) true m 40 cs = some y) : ∃ x : Play, x.ok ∧ cs = x.cells := by
  match cs, hl with
  | [c0, c1, c2, c3], _ =>
  obtain ⟨xs, n, rfl, _, _, _, hf⟩ := DataW.trod_struct Try.underlying40 h
  have h0 := hf 0 _ rfl
  have h1 := hf 1 _ rfl
  have h2 := hf 2 _ rfl
  have h3 := hf 3 _ rfl
  have get : ∀ (i : Nat) (hi : i < xs.length), xs[i]? = some xs[i] := fun i hi => List.getElem?_eq_getElem hi
  have hx : xs.length = 4 := by assumption
  rw [get 0 (by omega)] at h0
  rw [get 1 (by omega)] at h1
  rw [get 2 (by omega)] at h2
  rw [get 3 (by omega)] at h3
  obtain ⟨a, e0, _, w0⟩ := DataW.trod_int (k := .u8) (by kernel_rfl) h0
  obtain ⟨b, e1, _, w1⟩ := DataW.trod_int (k := .u8) (by kernel_rfl) h1
  obtain ⟨c, e2, _, w2⟩ := DataW.trod_int (k := .u8) (by kernel_rfl) h2
  obtain ⟨d, e3, _, w3⟩ := DataW.trod_int (k := .i64) (by kernel_rfl) h3
  have k5 : Try.prog.cellsOf 5 = 1 := by kernel_rfl
  have k3 : Try.prog.cellsOf 3 = 1 := by kernel_rfl
  obtain rfl : c0 = .int .u8 a := by simpa [k5] using e0
  obtain rfl : c1 = .int .u8 b := by simpa [k5] using e1
  obtain rfl : c2 = .int .u8 c := by simpa [k5] using e2
  obtain rfl : c3 = .int .i64 d := by simpa [k3] using e3
  have b0 := bounds_u8 w0
  have b1 := bounds_u8 w1
  have b2 := bounds_u8 w2
  have b3 := bounds_i64 w3
  refine ⟨⟨a.toNat, b.toNat, c.toNat, d⟩, ⟨by show a.toNat ≤ _; omega, by show b.toNat ≤ _; omega, by show c.toNat ≤ _; omega, by show d ≤ _; omega⟩, ?_⟩
  show _ = [Value.int .u8 (a.toNat : Int), .int .u8 (b.toNat : Int), .int .u8 (c.toNat : Int), .int .i64 d]
  rw [Int.toNat_of_nonneg b0.1, Int.toNat_of_nonneg b1.1, Int.toNat_of_nonneg b2.1]
theorem open_int1 (cs : List Value) (m : Nat) (y : DataW H × List MemPlace) (h : DataW.trod enc Try.prog W 0 (fun _ => true) true m 3 cs = some y) : ∃ x : Int, True ∧ cs = [.int .i64 x] := by
  obtain ⟨a, e0, _, _⟩ := DataW.trod_int Try.underlying3 h
  exact ⟨a, trivial, e0⟩
end

set_option maxRecDepth 100000 in
theorem lifted (os : Os) (started : os.Started) (H : Type) (enc : TypeId × Value → H) :
    ReturnsInHanded {} Try.checked os 4 .any (Rows.consPlaysSpec.pre6 enc Try.prog Try.f4 Rows.consPlaysRow.domain false) (Rows.consPlaysSpec.post enc Try.prog Try.f4 false true false false) := by
  refine returnsInHanded_of_change (C := Try.checked) own started (by kernel_rfl) Try.func4
    (ChangeSpec.witness6 (enc := enc) (C := Try.checked) false ⟨#[], #[.slice none 0 0, .slice none 0 0], []⟩ 8 (by kernel_rfl) (by kernel_rfl) (by kernel_rfl) (by kernel_rfl)) ?_
  intro W base args ds gs before hval0 hW hcnd _
  have hval : ∀ (j : Nat) t v, Try.f4.params[j]? = some t → args[j]? = some v → Value.okWide Try.prog W .any base t v := hval0
  have hW' := hW
  obtain ⟨p, q, hA0, hV, rfl, hfz, hnd⟩ := hW
  have hA : DataW.TrodAll enc Try.prog W 0 (fun _ => true) true Try.f4.params.toList args.toList ds p := hA0
  rw [Try.params4] at hA hval
  obtain ⟨v0, vs0, d0, ds0, p0, q0, hargs, rfl, rfl, h0, r0⟩ := trodAll_cons hA
  obtain ⟨v1, vs1, d1, ds1, p1, q1, rfl, rfl, rfl, h1, r1⟩ := trodAll_cons r0
  obtain ⟨rfl, rfl, rfl⟩ := trodAll_nil r1
  obtain rfl : args = #[v0, v1] := by cases args; simp_all
  obtain ⟨rfl, rfl⟩ := trodVars_none hV
  obtain ⟨a0, len0, cap0, rfl⟩ := okWide_slice Try.underlying22 (hval 0 22 v0 rfl rfl)
  obtain ⟨a1, len1, cap1, rfl⟩ := okWide_slice Try.underlying36 (hval 1 36 v1 rfl rfl)
  have k0 := h0
  have k1 := h1
  have lt0 : ∀ x ∈ p0, x.block < W.heap.size := by obtain ⟨m, hm⟩ := k0; exact DataW.trod_lt m _ _ _ hm
  have lt1 : ∀ x ∈ p1, x.block < W.heap.size := by obtain ⟨m, hm⟩ := k1; exact DataW.trod_lt m _ _ _ hm
  obtain ⟨z0, e0, _, w0⟩ : ∃ Xs : List Int, len0 = Xs.length ∧ (∀ x ∈ Xs, True) ∧ SliceRep (wholeGH W) 1 (.slice a0 len0 cap0) Xs.length (Xs.flatMap fun x => [.int .i64 x]) := by
    obtain ⟨fuel, hf⟩ := h0
    exact open_rows _ _ 1 (by omega) (fun _ => rfl) Try.underlying22 (by kernel_rfl) (fun cs m y _ h => open_int1 cs m y h) hf
  obtain ⟨z1, e1, hok, w1⟩ : ∃ Xs : List Play, len1 = Xs.length ∧ (∀ x ∈ Xs, x.ok) ∧ PlayRep (wholeGH W) (.slice a1 len1 cap1) Xs := by
    obtain ⟨fuel, hf⟩ := h1
    exact open_rows _ _ 4 (by omega) (fun _ => rfl) Try.underlying36 (by kernel_rfl) open_play hf
  have w0' : IntRep (wholeGH W) (.slice a0 len0 cap0) z0 := by
    unfold IntRep
    have hfm : ∀ l : List Int, (l.flatMap fun x => [Value.int .i64 x]) = l.map (Value.int .i64) := fun l => by induction l <;> simp_all [List.flatMap_cons]
    rw [hfm] at w0
    exact w0
  clear hA0 hval0
  refine (plays_walk (wholeGH W) W _ _ z0 z1 hok (fits_whole W) w0' w1).mono fun e W' ⟨he, hk⟩ => ?_
  have bel := hk.below
  subst he
  exact ⟨_, rfl, _, _, _, [], _, [], hW', trodAll_mk1 (shut_bool Try.underlying4 _), (trodAll_cons_mk (Below.trod laidOut (by kernel_rfl) (of_decide_eq_true (by kernel_rfl)) k0 bel lt0) (trodAll_cons_mk (Below.trod laidOut (by kernel_rfl) (of_decide_eq_true (by kernel_rfl)) k1 bel lt1) trodAll_mk0)), rfl, bel.frame _, fun h => by cases h⟩

theorem over : Rows.consPlaysRow.holds Try.pinned (OpenSpec.ofChange Rows.consPlaysSpec) :=
  OpenClaim.holds_of_wide 4 Try.f4 rfl rfl rfl rfl rfl rfl rfl ⟨rfl, rfl, rfl, rfl, rfl⟩ rfl rfl rfl rfl rfl (by kernel_rfl) Try.func4 (by kernel_rfl)
    (of_decide_eq_true (by kernel_rfl)) (by unfold Func.isWrapper; first | (rw [if_pos (by decide +kernel)]; kernel_rfl) | (rw [if_neg (by decide +kernel)]; exact ⟨rfl, rfl⟩))
    (fun os started H enc _ => lifted os started H enc)

/-- ████ THE STATEMENT ████ -/
theorem proved : Rows.ConsPlaysSaid := over
#print axioms proved
end Go.Proofs.Ytallllpjjhcaoaa.consPlays
