/-
An element as a text.
-/
import Derived.Test.YteigmfkkeofcaaaGreatDoorNaElem
import Derived.Test.YteigmfkkeofcaaaGreatDoorKbRow
import Derived.Test.YteigmfkkeofcaaaGreatDoorNsShelf
import Derived.Lib.ItoaLen
namespace Go.Proofs.YteigmfkkeofcaaaGreatDoor
open Go Go.RowKit
set_option linter.unusedVariables false

/-- A number that 64 bits hold, both. -/
def El.fits (a : El) : Prop := (-9223372036854775808 ≤ a.1 ∧ a.1 ≤ 9223372036854775807) ∧ (-9223372036854775808 ≤ a.2 ∧ a.2 ≤ 9223372036854775807)
def El.text (a : El) : List UInt8 := Lib.itoa a.1 ++ 58 :: Lib.itoa a.2
theorem El.text_len {a : El} (h : a.fits) : (El.text a).length ≤ 43 := by
  have h1 := Lib.itoa_length_le a.1 h.1.1 h.1.2
  have h2 := Lib.itoa_length_le a.2 h.2.1 h.2.2
  simp [El.text]; omega
/-- The library's table of powers lies among what is settled. -/
def TabH (H : GH) : Prop := ∃ (g : Nat) (T : TypeId) (f : Nat × Nat), Tryz.prog.globalNamed "internal/strconv.uint64pow10" = some g ∧ H g = some (.cells (Lib.pow10Tab.map fun z => Value.int .u64 z).toArray T f)
theorem TabH.mono {H H' : GH} (h : TabH H) (hl : H.le H') : TabH H' := by
  obtain ⟨g, T, f, h1, h2⟩ := h
  exact ⟨g, T, f, h1, hl _ _ h2⟩
theorem TabH.tab {H : GH} {w : World} (h : TabH H) (hf : Fits w H) : Lib.TabIs Tryz.prog w "internal/strconv.uint64pow10" .u64 Lib.pow10Tab := by
  obtain ⟨g, T, f, h1, h2⟩ := h
  unfold Lib.TabIs World.var?
  rw [h1, Option.bind_some, hf _ _ h2]
theorem formatInt_ok (H : GH) (w : World) (n : Int) (h0 : -9223372036854775808 ≤ n) (h1 : n ≤ 9223372036854775807) (hf : Fits w H) (ht : TabH H) :
    Calls Tryz.prog 68 #[.int .i64 n, .int .i64 10] w fun e w' => e = .returned (.string ⟨(Lib.itoa n).toArray⟩) ∧ Keep none w w' :=
  (Tryz.strconv_FormatInt_10 n h0 h1 w (ht.tab hf)).mono fun e w' ⟨h, k, os, hw⟩ => ⟨h, by
    subst hw
    refine ⟨rfl, rfl, rfl, ?_, fun i hi _ => ?_⟩
    · show w.heap.size ≤ (w.heap ++ os).size
      rw [Array.size_append]; omega
    · show (w.heap ++ os)[i]? = w.heap[i]?
      rw [Array.getElem?_append_left hi]⟩

set_option maxRecDepth 100000 in
set_option maxHeartbeats 1000000 in
theorem etext_ok (H : GH) (w : World) (a : El) (ha : a.fits) (hf : Fits w H) (ht : TabH H) :
    Calls Tryz.prog 35 #[elV a] w fun e w' => e = .returned (.string ⟨(El.text a).toArray⟩) ∧ Keep none w w' := by
  have hpre : Pre w H none 0 0 := Pre.none hf 0 0
  obtain ⟨s1, hs1⟩ : ∃ s, Hid (Lib.itoa a.1 = s) := ⟨Lib.itoa a.1, show _ = _ from rfl⟩
  obtain ⟨s2, hs2⟩ : ∃ s, Hid (Lib.itoa a.2 = s) := ⟨Lib.itoa a.2, show _ = _ from rfl⟩
  have l1 : s1.length ≤ 21 := by rw [← hs1.out]; exact Lib.itoa_length_le a.1 ha.1.1 ha.1.2
  have l2 : s2.length ≤ 21 := by rw [← hs2.out]; exact Lib.itoa_length_le a.2 ha.2.1 ha.2.2
  have l3 : ¬ 9223372036854775807 < s1.length + 1 := by omega
  have l4 : ¬ 9223372036854775807 < s1.length + 1 + s2.length := by omega
  go_enter Tryz.func35, Tryz.ntmps35
  have h0 := St.start hpre
  refine wp_seq ?_
  refine wp_region_lit ?_
  refine wpList_plainQ rfl (fun K Q' hK => ?_); go_simp
  refine h0.k_alloc (fun w1 h1 => ?_)
  refine hK _ _ ?_; clear hK K; try clear Q'
  iterate 1 (refine wpList_plainQ rfl (fun K Q' hK => ?_); go_simp; refine hK _ _ ?_; clear hK K; try clear Q')
  refine wpList_nil ?_
  show Code.wp _ _ _ _ _
  refine wp_seq ?_
  refine h1.region [0] [(0, true), (1, true), (4, true), (5, true), (2, false), (3, true), (6, false), (7, true), (8, true)] (by kernel_rfl) (by kernel_rfl) (fun w2 h2 => ?_)
  refine wpOrd_hide (fun _ _ d _ _ h => by cases d <;> exact h) (fun QR hQn hQp => ?_)
  simp only [ordOps, List.map_cons, List.map_nil, List.getD_cons_zero, List.getD_cons_succ]
  iterate 4 (refine wpOrd_quiet (v := ?_) rfl (fun _ _ _ => hQp _ _ _ _ _) ?_ ?_; rotate_left; (intro w' hS; have c_0_0 := hS.cell 0 rfl 0 rfl; have c_0_1 := hS.cell 0 rfl 1 rfl; (first | (go_simp; done) | (go_simp; with_reducible rfl))); simp only [Act.put, List.setIfInBounds_toArray, List.set_cons_zero, List.set_cons_succ])
  -- stops at: eff:call (Go.Op.call {'callee': (Go.Callee.value (Go.Operand.func 68)), 'args': [(Go.Operand.tmp 4), (Go.Operand.const (Go.Value.int Go.IntKind.i64 10))], 'argTypes': [2 slot 5
  refine wpOrd_effQ rfl (fun K Q' hK => ?_); go_simp
  refine (formatInt_ok H _ a.1 ha.1.1 ha.1.2 h2.fits ht).mono ?_
  rintro e wA ⟨rfl, hkA⟩
  rw [hs1.out]
  have h3 := h2.callk hkA
  refine hK _ _ (h3.sat' (GH.le_refl _) [0] (by kernel_rfl)) ?_; clear hK K; try clear Q'
  iterate 1 (refine wpOrd_quiet (v := ?_) rfl (fun _ _ _ => hQp _ _ _ _ _) ?_ ?_; rotate_left; (intro w' hS; (first | (go_simp; done) | (go_simp; with_reducible rfl))); simp only [Act.put, List.setIfInBounds_toArray, List.set_cons_zero, List.set_cons_succ])
  -- stops at: eff:call (Go.Op.call {'callee': (Go.Callee.value (Go.Operand.func 68)), 'args': [(Go.Operand.tmp 8), (Go.Operand.const (Go.Value.int Go.IntKind.i64 10))], 'argTypes': [2 slot 9
  refine wpOrd_effQ rfl (fun K Q' hK => ?_); go_simp
  refine (formatInt_ok H _ a.2 ha.2.1 ha.2.2 h3.fits ht).mono ?_
  rintro e wB ⟨rfl, hkB⟩
  rw [hs2.out]
  have h4 := h3.callk hkB
  refine hK _ _ (h4.sat' (GH.le_refl _) [0] (by kernel_rfl)) ?_; clear hK K; try clear Q'
  iterate 2 (refine wpOrd_quiet (v := ?_) rfl (fun _ _ _ => hQp _ _ _ _ _) ?_ ?_; rotate_left; (intro w' hS; (first | (go_simp; done) | (go_simp; with_reducible rfl))); simp only [Act.put, List.setIfInBounds_toArray, List.set_cons_zero, List.set_cons_succ])
  refine wpOrd_nil (hQn _ _ ?_); clear hQn hQp QR
  show Code.wp _ _ _ _ _
  -- stops at: ret
  refine wp_ret ?_
  go_ret
  refine ⟨?_, h4.post.keep⟩
  unfold El.text
  rw [hs1.out, hs2.out]
  show Ending.returned (.string ((⟨s1.toArray⟩ ++ ⟨#[58]⟩ : ByteArray) ++ ⟨s2.toArray⟩)) = _
  rw [show ((⟨s1.toArray⟩ ++ ⟨#[58]⟩ : ByteArray) ++ ⟨s2.toArray⟩) = ⟨(s1 ++ 58 :: s2).toArray⟩ from ByteArray.ext (by simp)]
end Go.Proofs.YteigmfkkeofcaaaGreatDoor
