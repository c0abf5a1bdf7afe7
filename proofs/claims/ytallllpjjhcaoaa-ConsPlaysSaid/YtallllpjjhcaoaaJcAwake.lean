/-
The document's example of layer 3.
-/
import Derived.Test.YtallllpjjhcaoaaIcRef
namespace Go.Proofs.Ytallllpjjhcaoaa
open Go Go.RowKit
def noGH : GH := fun _ => none
theorem fits_no (w : World) : Fits w noGH := fun _ _ h => nomatch h

set_option maxRecDepth 100000 in
set_option maxHeartbeats 2000000 in
theorem awake_ok (w : World) : Calls Try.prog 6 #[] w fun e w' => e = .returned (.bool true) ∧ Keep none w w' := by
  have hpre : Pre w noGH none 0 0 := Pre.none (fits_no w) 0 0
  go_enter Try.func6, Try.ntmps6
  have h0 := St.start hpre
  refine wp_seq ?_
  refine wp_region_lit ?_
  iterate 1 (refine wpList_plain rfl (fun K hK => ?_); go_simp; refine hK _ _ ?_; clear hK K)
  refine wpList_nil ?_
  show Code.wp _ _ _ _ _
  refine wp_seq ?_
  refine wp_region_lit ?_
  refine wpList_plain rfl (fun K hK => ?_); go_simp
  refine h0.k_alloc (fun w1 h1 => ?_)
  refine hK _ _ ?_; clear hK K
  -- stops at: eff:call (Go.Op.call {'callee': (Go.Callee.value (Go.Operand.func 7)), 'args': [(Go.Operand.tmp 7)], 'argTypes': [22]}) slot 8
  obtain ⟨H1, hA, rA, leA⟩ := (h1.rowOf 0 rfl 1 2 rfl (by unfold maxLen; omega)).settleRow 0 rfl
  refine wpList_plain rfl (fun K hK => ?_); go_simp
  refine (CInt.of_ok H1 _ _ [1, 2] (by simp) hA.fits rA).mono ?_
  rintro e wB ⟨q, H2, rfl, hp2, hq⟩
  have h2 := hA.call0 hp2
  refine hK _ _ ?_; clear hK K
  refine wpList_plain rfl (fun K hK => ?_); go_simp
  refine h2.k_alloc (fun w3 h3 => ?_)
  refine hK _ _ ?_; clear hK K
  have c_0 := h3.cell 0 rfl 0 rfl
  have f_0 := h3.free 0 rfl 0
  refine wpList_plain rfl (fun K hK => ?_); go_simp
  clear c_0 f_0
  refine h3.k_set 0 rfl (fun w4 h4 => ?_)
  refine hK _ _ ?_; clear hK K
  refine wpList_nil ?_
  show Code.wp _ _ _ _ _
  refine wp_seq ?_
  refine wp_region_lit ?_
  have c_0_0 := h4.cell 0 rfl 0 rfl
  iterate 1 (refine wpList_plain rfl (fun K hK => ?_); go_simp; refine hK _ _ ?_; clear hK K)
  clear c_0_0
  -- stops at: eff:call (Go.Op.call {'callee': (Go.Callee.value (Go.Operand.func 14)), 'args': [(Go.Operand.tmp 9), (Go.Operand.const (Go.Value.int Go.IntKind.i64 0))], 'argTypes': [26 slot 10
  refine wpList_plain rfl (fun K hK => ?_); go_simp
  refine (CInt.push_ok H2 _ _ _ 0 (by simp) h4.fits hq).mono ?_
  rintro e wC ⟨q2, H3, rfl, hp3, hq2⟩
  have h5 := h4.call0 hp3
  have hq_5 := hq.mono hp3.le
  refine hK _ _ ?_; clear hK K
  refine wpList_plain rfl (fun K hK => ?_); go_simp
  refine h5.k_alloc (fun w6 h6 => ?_)
  refine hK _ _ ?_; clear hK K
  have c_0 := h6.cell 1 rfl 0 rfl
  have f_0 := h6.free 1 rfl 0
  refine wpList_plain rfl (fun K hK => ?_); go_simp
  clear c_0 f_0
  refine h6.k_set 1 rfl (fun w7 h7 => ?_)
  refine hK _ _ ?_; clear hK K
  refine wpList_nil ?_
  show Code.wp _ _ _ _ _
  refine wp_seq ?_
  refine wp_region_lit ?_
  have c_1_0 := h7.cell 1 rfl 0 rfl
  iterate 1 (refine wpList_plain rfl (fun K hK => ?_); go_simp; refine hK _ _ ?_; clear hK K)
  clear c_1_0
  -- stops at: eff:call (Go.Op.call {'callee': (Go.Callee.value (Go.Operand.func 12)), 'args': [(Go.Operand.tmp 12)], 'argTypes': [26]}) slot 13
  refine wpList_plain rfl (fun K hK => ?_); go_simp
  refine (CInt.first_cons H3 _ _ 0 _ h7.fits hq2).mono ?_
  rintro e wD ⟨rfl, hk⟩
  have h8 := h7.callk hk
  refine hK _ _ ?_; clear hK K
  iterate 5 (refine wpList_plain rfl (fun K hK => ?_); go_simp; refine hK _ _ ?_; clear hK K)
  refine wpList_nil ?_
  show Code.wp _ _ _ _ _
  refine wp_seq ?_
  refine wp_region_lit ?_
  iterate 1 (refine wpList_plain rfl (fun K hK => ?_); go_simp; refine hK _ _ ?_; clear hK K)
  -- stops at: eff:call (Go.Op.call {'callee': (Go.Callee.value (Go.Operand.func 12)), 'args': [(Go.Operand.tmp 17)], 'argTypes': [26]}) slot 18
  refine wpList_plain rfl (fun K hK => ?_); go_simp
  refine (CInt.first_nil H3 _ h8.fits).mono ?_
  rintro e wE ⟨rfl, hk2⟩
  have h9 := h8.callk hk2
  refine hK _ _ ?_; clear hK K
  iterate 5 (refine wpList_plain rfl (fun K hK => ?_); go_simp; refine hK _ _ ?_; clear hK K)
  refine wpList_nil ?_
  show Code.wp _ _ _ _ _
  refine wp_seq ?_
  refine wp_region_lit ?_
  have c_1_0 := h9.cell 1 rfl 0 rfl
  iterate 1 (refine wpList_plain rfl (fun K hK => ?_); go_simp; refine hK _ _ ?_; clear hK K)
  clear c_1_0
  -- stops at: eff:call (Go.Op.call {'callee': (Go.Callee.value (Go.Operand.func 17)), 'args': [(Go.Operand.tmp 21)], 'argTypes': [26]}) slot 22
  refine wpList_plain rfl (fun K hK => ?_); go_simp
  refine (CInt.rev_ok H3 _ _ [0, 1, 2] (by simp) h9.fits hq2).mono ?_
  rintro e wF ⟨q3, H4, rfl, hp4, hq3⟩
  have h10 := h9.call0 hp4
  have hq_10 := hq_5.mono hp4.le
  have hq2_10 := hq2.mono hp4.le
  refine hK _ _ ?_; clear hK K
  -- stops at: eff:call (Go.Op.call {'callee': (Go.Callee.value (Go.Operand.func 10)), 'args': [(Go.Operand.tmp 22)], 'argTypes': [26]}) slot 23
  refine wpList_plain rfl (fun K hK => ?_); go_simp
  refine (CInt.all_ok H4 _ _ [2, 1, 0] (by simp) h10.fits hq3).mono ?_
  rintro e wG ⟨v, rfl, hp5⟩
  obtain ⟨H5, hG, rG, leG⟩ := (h10.callrow hp5).settleRow 0 rfl
  have hq_11 := hq_10.mono leG
  have hq2_11 := hq2_10.mono leG
  have hq3_11 := hq3.mono leG
  refine hK _ _ ?_; clear hK K
  refine wpList_plain rfl (fun K hK => ?_); go_simp
  refine hG.k_alloc (fun w12 h12 => ?_)
  refine hK _ _ ?_; clear hK K
  -- stops at: eff:call (Go.Op.call {'callee': (Go.Callee.value (Go.Operand.func 9)), 'args': [(Go.Operand.tmp 23), (Go.Operand.tmp 24)], 'argTypes': [22, 22]}) slot 25
  obtain ⟨H6, hI, rI, leI⟩ := (h12.rowOf 2 rfl 1 3 rfl (by unfold maxLen; omega)).settleRow 0 rfl
  have hq_13 := hq_11.mono leI
  have hq2_13 := hq2_11.mono leI
  have hq3_13 := hq3_11.mono leI
  refine wpList_plain rfl (fun K hK => ?_); go_simp
  refine (same_ok H6 _ _ _ [2, 1, 0] [2, 1, 0] (by simp) (by simp) hI.fits (rG.mono leI) rI).mono ?_
  rintro e wJ ⟨rfl, hkJ⟩
  simp only [decide_true]
  have h14 := hI.callk hkJ
  refine hK _ _ ?_; clear hK K
  iterate 1 (refine wpList_plain rfl (fun K hK => ?_); go_simp; refine hK _ _ ?_; clear hK K)
  have c_0_0 := h14.cell 0 rfl 0 rfl
  first | go_skip | (iterate 1 (refine wpList_step (o := { dst := _, op := _, type := _, pos := _, after := _, guard := some (5, true) }) (fun K hK => ?_); go_simp; refine hK _ _ ?_; clear hK K)) | skip
  clear c_0_0
  -- stops at: eff:call (Go.Op.call {'callee': (Go.Callee.value (Go.Operand.func 11)), 'args': [(Go.Operand.tmp 27)], 'argTypes': [26]}) slot 28
  refine wpList_step (fun K hK => ?_); go_simp
  refine (CInt.len_ok H6 _ _ _ h14.fits hq_13).mono ?_
  rintro e wK ⟨rfl, hkK⟩
  have h15 := h14.callk hkK
  refine hK _ _ ?_; clear hK K
  first | go_skip | (iterate 1 (refine wpList_step (o := { dst := _, op := _, type := _, pos := _, after := _, guard := some (5, true) }) (fun K hK => ?_); go_simp; refine hK _ _ ?_; clear hK K)) | skip
  iterate 2 (refine wpList_plain rfl (fun K hK => ?_); go_simp; refine hK _ _ ?_; clear hK K)
  first | go_skip | (iterate 2 (refine wpList_step (o := { dst := _, op := _, type := _, pos := _, after := _, guard := some (10, true) }) (fun K hK => ?_); go_simp; refine hK _ _ ?_; clear hK K)) | skip
  iterate 2 (refine wpList_plain rfl (fun K hK => ?_); go_simp; refine hK _ _ ?_; clear hK K)
  first | go_skip | (iterate 1 (refine wpList_step (o := { dst := _, op := _, type := _, pos := _, after := _, guard := some (14, true) }) (fun K hK => ?_); go_simp; refine hK _ _ ?_; clear hK K)) | skip
  iterate 2 (refine wpList_plain rfl (fun K hK => ?_); go_simp; refine hK _ _ ?_; clear hK K)
  first | go_skip | (iterate 2 (refine wpList_step (o := { dst := _, op := _, type := _, pos := _, after := _, guard := some (17, true) }) (fun K hK => ?_); go_simp; refine hK _ _ ?_; clear hK K)) | skip
  iterate 2 (refine wpList_plain rfl (fun K hK => ?_); go_simp; refine hK _ _ ?_; clear hK K)
  have c_1_0 := h15.cell 1 rfl 0 rfl
  first | go_skip | (iterate 1 (refine wpList_step (o := { dst := _, op := _, type := _, pos := _, after := _, guard := some (21, true) }) (fun K hK => ?_); go_simp; refine hK _ _ ?_; clear hK K)) | skip
  clear c_1_0
  -- stops at: eff:call (Go.Op.call {'callee': (Go.Callee.value (Go.Operand.func 13)), 'args': [(Go.Operand.tmp 43)], 'argTypes': [26]}) slot 44
  refine wpList_step (fun K hK => ?_); go_simp
  refine (CInt.rest_ok H6 _ _ _ h15.fits hq2_13).mono ?_
  rintro e wL ⟨q5, rfl, hkL, hqL⟩
  have h16 := h15.callk hkL
  refine hK _ _ ?_; clear hK K
  -- stops at: eff:call (Go.Op.call {'callee': (Go.Callee.value (Go.Operand.func 11)), 'args': [(Go.Operand.tmp 44)], 'argTypes': [26]}) slot 45
  refine wpList_step (fun K hK => ?_); go_simp
  refine (CInt.len_ok H6 _ _ _ h16.fits hqL).mono ?_
  rintro e wM ⟨rfl, hkM⟩
  have h17 := h16.callk hkM
  refine hK _ _ ?_; clear hK K
  first | go_skip | (iterate 1 (refine wpList_step (o := { dst := _, op := _, type := _, pos := _, after := _, guard := some (21, true) }) (fun K hK => ?_); go_simp; refine hK _ _ ?_; clear hK K)) | skip
  iterate 2 (refine wpList_plain rfl (fun K hK => ?_); go_simp; refine hK _ _ ?_; clear hK K)
  refine wpList_nil ?_
  show Code.wp _ _ _ _ _
  -- stops at: ret
  refine wp_ret ?_
  go_ret
  exact ⟨rfl, h17.post.keep⟩
end Go.Proofs.Ytallllpjjhcaoaa
