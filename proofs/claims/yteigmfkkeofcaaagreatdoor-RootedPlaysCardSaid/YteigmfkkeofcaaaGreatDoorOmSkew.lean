/-
Skew heaps as texts.
-/
import Derived.Test.YteigmfkkeofcaaaGreatDoorOlSkew
import Derived.Test.YteigmfkkeofcaaaGreatDoorOdRank
namespace Go.Proofs.YteigmfkkeofcaaaGreatDoor
open Go Go.RowKit
set_option linter.unusedVariables false

/-- A heap's text. -/
def Rw.text (l : List (Tr El)) : List UInt8 := if l = [] then [46] else Lib.join (l.map Tr.text) [32]
theorem text_sum (l : List (Tr El)) (h : ∀ a ∈ Rw.els l, El.fits a) : Lib.lens (l.map Tr.text) + (l.map Tr.text).length ≤ 60 * Rw.size l := by
  induction l with
  | nil => simp [Lib.lens, Rw.size, Rw.els]
  | cons t l ih =>
    have h1 := ih fun a ha => h a (by rw [Rw.els_cons]; simp [ha])
    have h2 := RT.sh_sum (.node t.x t.b t.k .nil) fun a ha => h a (by rw [Rw.els_cons]; exact List.mem_append_left _ (by simpa [RT.els, Tr.els] using ha))
    rw [Rw.size_cons]
    have e : (RT.node t.x t.b t.k .nil).els.length = t.size := by simp [RT.els, Tr.size, Tr.els]
    rw [e] at h2
    have e2 : RT.sh (.node t.x t.b t.k .nil) = [Tr.text t] := by simp [RT.sh, Tr.text]
    rw [e2] at h2
    simp [Lib.lens] at h1 h2 ⊢
    omega

set_option maxRecDepth 100000 in
set_option maxHeartbeats 4000000 in
theorem skshow_ok (H : GH) (w : World) (p : Option Addr) (l : List (Tr El)) (hf : Fits w H) (htab : TabH H) (hn : Rw.size l < 900000) (hfit : ∀ a ∈ Rw.els l, El.fits a) (hl : LsR H p l) :
    Calls Tryz.prog 36 #[hV p] w fun e w' => ∃ H', e = .returned (.string ⟨(Rw.text l).toArray⟩) ∧ Post w H none w' H' 0 0 := by
  have hpre : Pre w H none 0 0 := Pre.none hf 0 0
  obtain ⟨ps, hcons, hrow⟩ := hl
  have hlb : ps.length < 1000000 := by have := hrow.1; have := Rw.length_le l; omega
  have hsum := text_sum l hfit
  obtain ⟨nn, hnn⟩ : ∃ nn, Hid (ps.length = nn) := ⟨_, show _ = _ from rfl⟩
  have hnb : nn < 1000000 := by have := hnn.out; omega
  obtain ⟨ss, hss⟩ : ∃ ss, Hid (l.map Tr.text = ss) := ⟨_, show _ = _ from rfl⟩
  have hssl : Hid (ss.length = nn) := by show _ = _; rw [← hss.out, List.length_map, ← hrow.1, hnn.out]
  rw [hss.out] at hsum
  go_enter Tryz.func36, Tryz.ntmps36
  have h0 := St.start hpre
  refine wp_seq ?_
  refine wp_region_lit ?_
  refine wpList_plainQ rfl (fun K Q' hK => ?_); go_simp
  refine h0.k_alloc (fun w1 h1 => ?_)
  refine hK _ _ ?_; clear hK K; try clear Q'
  iterate 1 (refine wpList_plainQ rfl (fun K Q' hK => ?_); go_simp; refine hK _ _ ?_; clear hK K; try clear Q')
  refine wpList_nil ?_
  show Code.wp _ _ _ _ _
  refine wp_seq ?_
  refine wp_region_lit ?_
  iterate 1 (refine wpList_plainQ rfl (fun K Q' hK => ?_); go_simp; refine hK _ _ ?_; clear hK K; try clear Q')
  refine wpList_nil ?_
  show Code.wp _ _ _ _ _
  refine wp_seq ?_
  refine wp_seq ?_
  refine wp_region_lit ?_
  have c_0_0 := h1.cell 0 rfl 0 rfl
  iterate 2 (refine wpList_plainQ rfl (fun K Q' hK => ?_); go_simp; refine hK _ _ ?_; clear hK K; try clear Q')
  clear c_0_0
  -- stops at: eff:call (Go.Op.call {'callee': (Go.Callee.value (Go.Operand.func 54)), 'args': [(Go.Operand.tmp 7)], 'argTypes': [71]}) slot 8
  refine wpList_plainQ rfl (fun K Q' hK => ?_); go_simp
  refine (CTr.all_ok H _ p ps hlb h1.fits hcons).mono ?_
  rintro e wB ⟨v, rfl, hpB⟩
  obtain ⟨H5, h55, rA, leA⟩ := (h1.callrow hpB).settleRow 0 rfl
  rw [hnn.out] at rA
  obtain ⟨aA, cA, rfl, _, _⟩ := rA.nil_or
  refine hK _ _ ?_; clear hK K; try clear Q'
  iterate 2 (refine wpList_plainQ rfl (fun K Q' hK => ?_); go_simp; refine hK _ _ ?_; clear hK K; try clear Q')
  refine wpList_nil ?_
  show Code.wp _ _ _ _ _
  refine wp_block ?_
  -- stops at: loop
  have h90 := h55.row0 9 1
  go_loopw [3, 10] (fun v3 v10 wr => ∃ j : Nat, j ≤ nn ∧ v10 = .int .i64 j ∧ St w H none 0 0 wr H5 [(w.heap.size, .cells #[.pointer p] 73)] [⟨v3, 9, 1, j, (ss.take j).map strV⟩]) (fun _ v10 _ => nn - (intOf v10).toNat)
  case atStart => exact ⟨0, by omega, rfl, by simpa using h90⟩
  case round =>
    obtain ⟨j, hj, rfl, hs⟩ := hrel
    obtain ⟨a3, c3, rfl⟩ := hs.row_form 0 rfl
    by_cases hlt : j < nn
    · obtain ⟨b9, o9, cap9, e9, _⟩ := rA.ne_nil (by omega)
      simp only [Value.slice.injEq, true_and] at e9
      obtain ⟨rfl, rfl⟩ := e9
      obtain ⟨pj, hpj⟩ : ∃ pj, ps[j]? = some pj := ⟨ps[j]'(by have := hnn.out; omega), by simp⟩
      obtain ⟨tj, htj⟩ : ∃ tj, l[j]? = some tj := ⟨l[j]'(by have := hnn.out; have := hrow.1; omega), by simp⟩
      have trj := hrow.2 _ _ _ hpj htj
      have gj : (ps.map Value.pointer)[j]? = some (.pointer pj) := by simp [hpj]
      have e8 : IntKind.i64.wrap ((j : Int) + 1) = (j : Int) + 1 := IntWalk.i64_in _ (by omega)
      have hftj : ∀ a ∈ tj.els, El.fits a := fun a ha => hfit a (List.mem_flatMap.2 ⟨tj, List.mem_of_getElem? htj, ha⟩)
      have htjs : tj.size < 900000 := by have := size_mem htj; omega
      obtain ⟨s, hs1⟩ : ∃ s, Hid (Tr.text tj = s) := ⟨_, show _ = _ from rfl⟩
      have hsj : Hid (ss.take (j + 1) = ss.take j ++ [s]) := by
        show _ = _
        rw [List.take_add_one, ← hss.out, List.getElem?_map, htj]
        simp [hs1.out]
      refine wp_seq ?_
      refine wp_region_lit ?_
      iterate 1 (refine wpList_plainQ rfl (fun K Q' hK => ?_); go_simp; refine hK _ _ ?_; clear hK K; try clear Q')
      refine wpList_nil ?_
      show Code.wp _ _ _ _ _
      refine wp_seq ?_
      -- stops at: cond
      refine wp_cond_true (rfl) ?_
      refine wp_skip ?_
      show Code.wp _ _ _ _ _
      refine wp_seq ?_
      refine wp_block ?_
      refine wp_seq ?_
      refine wp_region_lit ?_
      iterate 1 (refine wpList_plainQ rfl (fun K Q' hK => ?_); go_simp; refine hK _ _ ?_; clear hK K; try clear Q')
      -- stops at: load (Go.Op.load 94 (Go.Operand.tmp 12)) slot 13
      have ce := rA.cell hs.fits _ gj
      iterate 1 (refine wpList_plainQ rfl (fun K Q' hK => ?_); go_simp; refine hK _ _ ?_; clear hK K; try clear Q')
      clear ce
      iterate 1 (refine wpList_plainQ rfl (fun K Q' hK => ?_); go_simp; refine hK _ _ ?_; clear hK K; try clear Q')
      refine wpList_nil ?_
      show Code.wp _ _ _ _ _
      refine wp_region_lit ?_
      iterate 2 (refine wpList_plainQ rfl (fun K Q' hK => ?_); go_simp; refine hK _ _ ?_; clear hK K; try clear Q')
      -- stops at: eff:call (Go.Op.call {'callee': (Go.Callee.value (Go.Operand.func 69)), 'args': [(Go.Operand.tmp 15)], 'argTypes': [94]}) slot 16
      refine wpList_plainQ rfl (fun K Q' hK => ?_); go_simp
      refine (tshow_ok H5 _ pj tj hs.fits (htab.mono leA) (trj.mono leA) hftj htjs).mono ?_
      rintro e wC ⟨rfl, hkC⟩
      rw [hs1.out]
      have h3 := hs.callk hkC
      refine hK _ _ ?_; clear hK K; try clear Q'
      refine wpList_plainQ rfl (fun K Q' hK => ?_); go_simp
      refine h3.k_alloc (fun w4 h4 => ?_)
      refine hK _ _ ?_; clear hK K; try clear Q'
      -- stops at: eff:Builtin.append (Go.Op.call {'callee': (Go.Callee.builtin Go.Builtin.append), 'args': [(Go.Operand.tmp 14), (Go.Operand.tmp 17)], 'argTypes': [124, 124]}) slot 18
      refine wpList_plainQ rfl (fun K Q' hK => ?_)
      refine h4.op_append 0 rfl rfl einfoS rfl [.string ⟨s.toArray⟩] rfl rfl (fun q u hj => ?_) (by simp [Value.oneCell']) (by omega) (by unfold maxLen; omega) (fun v' wF hF oF hnF => ?_)
      · match q, hj with
        | 0, hj => exact h4.cell 1 rfl 0 hj
      obtain ⟨g', cap', rfl⟩ := hF.row_some 0 rfl (by omega)
      refine hK _ _ ?_; clear hK K; try clear Q'
      iterate 1 (refine wpList_plainQ rfl (fun K Q' hK => ?_); go_simp; refine hK _ _ ?_; clear hK K; try clear Q')
      refine wpList_nil ?_
      show Code.wp _ _ _ _ _
      refine wp_region_lit ?_
      iterate 2 (refine wpList_plainQ rfl (fun K Q' hK => ?_); go_simp; refine hK _ _ ?_; clear hK K; try clear Q')
      refine wpList_nil ?_
      -- stops at: end ('roundend',)
      show _ ∧ _
      go_roundw
      case rel =>
        refine ⟨j + 1, by omega, by simp, ?_⟩
        rw [hsj.out, show (ss.take j ++ [s]).map strV = (ss.take j).map strV ++ [.string ⟨s.toArray⟩] by simp [strV]]
        exact hF.take 1
      case measure => simp [intOf]; omega
    · obtain rfl : j = nn := by omega
      have htake : ss.take j = ss := List.take_of_length_le (by have := hssl.out; omega)
      rw [htake] at hs
      clear htake
      by_cases h0 : j = 0
      · have hl0 : l = [] := List.eq_nil_of_length_eq_zero (by rw [← hrow.1, hnn.out]; exact h0)
        have e : Rw.text l = [46] := by rw [Rw.text, if_pos hl0]
        have d1 : ((j : Int) == 0) = true := by rw [h0]; rfl
        clear h0
        refine wp_seq ?_
        refine wp_region_lit ?_
        iterate 1 (refine wpList_plainQ rfl (fun K Q' hK => ?_); go_simp; refine hK _ _ ?_; clear hK K; try clear Q')
        refine wpList_nil ?_
        show Code.wp _ _ _ _ _
        refine wp_seq ?_
        -- stops at: cond
        refine wp_cond_false (rfl) ?_
        refine wp_exit ?_
        show Code.wp _ _ _ _ _
        refine wp_seq ?_
        refine wp_seq ?_
        refine wp_region_lit ?_
        iterate 3 (refine wpList_plainQ rfl (fun K Q' hK => ?_); go_simp; refine hK _ _ ?_; clear hK K; try clear Q')
        refine wpList_nil ?_
        show Code.wp _ _ _ _ _
        -- stops at: cond
        refine wp_cond_true (rfl) ?_
        refine wp_seq ?_
        refine wp_region_lit ?_
        iterate 1 (refine wpList_plainQ rfl (fun K Q' hK => ?_); go_simp; refine hK _ _ ?_; clear hK K; try clear Q')
        refine wpList_nil ?_
        show Code.wp _ _ _ _ _
        -- stops at: ret
        refine wp_ret ?_
        go_ret
        exact ⟨H5, by rw [e]; rfl, hs.post⟩
      · have hl0 : l ≠ [] := fun e => h0 (by rw [← hnn.out, hrow.1, e]; rfl)
        have d1 : ((j : Int) == 0) = false := beq_eq_false_iff_ne.2 (by omega)
        obtain ⟨x0, xs0, hx0⟩ : ∃ x0 xs0, ss = x0 :: xs0 := by
          cases hs0 : ss with
          | nil => rw [hs0] at hssl; exact absurd hssl.out.symm h0
          | cons x0 xs0 => exact ⟨x0, xs0, rfl⟩
        have hjl : (Lib.join ss [32]).length ≤ 100000000 := by
          rw [hx0] at hsum ⊢
          have := Lib.join_length x0 xs0 [32]
          rw [this]
          simp [Lib.lens] at hsum ⊢
          omega
        obtain ⟨jt, hjt⟩ : ∃ s, Hid (Lib.join ss [32] = s) := ⟨_, show _ = _ from rfl⟩
        have e : Rw.text l = jt := by rw [Rw.text, if_neg hl0, hss.out, hjt.out]
        clear hx0
        obtain ⟨g3, cc3, ee⟩ := hs.row_some 0 rfl (by omega)
        simp only [Value.slice.injEq, true_and] at ee
        obtain ⟨rfl, rfl⟩ := ee
        refine wp_seq ?_
        refine wp_region_lit ?_
        iterate 1 (refine wpList_plainQ rfl (fun K Q' hK => ?_); go_simp; refine hK _ _ ?_; clear hK K; try clear Q')
        refine wpList_nil ?_
        show Code.wp _ _ _ _ _
        refine wp_seq ?_
        -- stops at: cond
        refine wp_cond_false (rfl) ?_
        refine wp_exit ?_
        show Code.wp _ _ _ _ _
        refine wp_seq ?_
        refine wp_seq ?_
        refine wp_region_lit ?_
        iterate 3 (refine wpList_plainQ rfl (fun K Q' hK => ?_); go_simp; refine hK _ _ ?_; clear hK K; try clear Q')
        refine wpList_nil ?_
        show Code.wp _ _ _ _ _
        -- stops at: cond
        refine wp_cond_false (rfl) ?_
        refine wp_skip ?_
        show Code.wp _ _ _ _ _
        refine wp_seq ?_
        refine wp_region_lit ?_
        iterate 1 (refine wpList_plainQ rfl (fun K Q' hK => ?_); go_simp; refine hK _ _ ?_; clear hK K; try clear Q')
        -- stops at: eff:call (Go.Op.call {'callee': (Go.Callee.value (Go.Operand.func 70)), 'args': [(Go.Operand.tmp 23), (Go.Operand.const (Go.Value.string {'data': [32]}))], 'argTypes': [ slot 24
        obtain ⟨H9, h99, rS, leS⟩ := hs.settleRow 0 rfl
        refine wpList_plainQ rfl (fun K Q' hK => ?_); go_simp
        refine (join_ok H9 _ _ _ _ _ ss [32] h99.fits rS hssl.out.symm (by omega) (by omega) (by omega)).mono ?_
        rintro e wJ ⟨rfl, hkJ⟩
        rw [hjt.out]
        have h6 := h99.callk hkJ
        refine hK _ _ ?_; clear hK K; try clear Q'
        iterate 1 (refine wpList_plainQ rfl (fun K Q' hK => ?_); go_simp; refine hK _ _ ?_; clear hK K; try clear Q')
        refine wpList_nil ?_
        show Code.wp _ _ _ _ _
        -- stops at: ret
        refine wp_ret ?_
        go_ret
        exact ⟨H9, by rw [e]; rfl, h6.post⟩
end Go.Proofs.YteigmfkkeofcaaaGreatDoor
