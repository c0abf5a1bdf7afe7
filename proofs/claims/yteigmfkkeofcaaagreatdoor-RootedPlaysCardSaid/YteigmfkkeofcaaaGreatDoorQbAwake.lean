/-
The document's example of pairing heaps.
-/
import Derived.Test.YteigmfkkeofcaaaGreatDoorQaDrain
namespace Go.Proofs.YteigmfkkeofcaaaGreatDoor
open Go Go.RowKit
set_option linter.unusedVariables false

def aw0 : Hp := Hp.ofL [(2, 0), (1, 0), (3, 0)]
theorem aw_min : Hp.min? aw0 = some (1, 0) := by kernel_rfl
theorem aw_min1 : Hp.min? (Hp.pop aw0) = some (2, 0) := by kernel_rfl
theorem aw_text : Hp.text aw0 = [49, 58, 48, 32, 40, 51, 58, 48, 41, 32, 40, 50, 58, 48, 41] := by kernel_rfl
theorem aw_size : Hp.size aw0 = 3 := by kernel_rfl
theorem aw_size1 : Hp.size (Hp.pop aw0) = 2 := by kernel_rfl
theorem aw_steps : IntKind.i64.wrap (0 + (Hp.ofC [(2, 0), (1, 0), (3, 0)] : Nat) + (0 + (Hp.ofD [(2, 0), (1, 0), (3, 0)] : Nat))) = 7 := by kernel_rfl

set_option maxRecDepth 100000 in
set_option maxHeartbeats 4000000 in
theorem awake_ok (H : GH) (w : World) (hf : Fits w H) (htab : TabH H) :
    Calls Tryz.prog 4 #[] w fun e w' => ∃ H', e = .returned (.bool true) ∧ Post w H none w' H' 0 0 := by
  have hpre : Pre w H none 0 0 := Pre.none hf 0 0
  go_enter Tryz.func4, Tryz.ntmps4
  have h0 := St.start hpre
  refine wp_seq ?_
  repeat (first | simp only [List.nil_append] at h0 | simp only [List.cons_append] at h0 | simp only [List.set_cons_zero] at h0 | simp only [List.set_cons_succ] at h0 | simp only [List.eraseIdx_zero] at h0 | simp only [List.tail_cons] at h0 | simp only [List.eraseIdx_cons_zero] at h0 | simp only [List.eraseIdx_cons_succ] at h0 | simp only [List.setIfInBounds_toArray] at h0)
  refine wp_region_lit ?_
  iterate 1 (refine wpList_plainQ rfl (fun K Q' hK => ?_); go_simp; refine hK _ _ ?_; clear hK K; try clear Q')
  refine wpList_nil ?_
  show Code.wp _ _ _ _ _
  refine wp_seq ?_
  refine wp_region_lit ?_
  -- stops at: eff:call (Go.Op.call {'callee': (Go.Callee.value (Go.Operand.func 6)), 'args': [], 'argTypes': []}) slot 12
  refine wpList_plainQ rfl (fun K Q' hK => ?_); go_simp
  refine (new_ok H _ h0.fits).mono ?_
  rintro e wA ⟨b, rfl, hkA, hbA, hoA⟩
  have hA := h0.callnew hkA hbA hoA rfl
  refine hK _ _ ?_; clear hK K; try clear Q'
  iterate 1 (refine wpList_plainQ rfl (fun K Q' hK => ?_); go_simp; refine hK _ _ ?_; clear hK K; try clear Q')
  refine wpList_nil ?_
  show Code.wp _ _ _ _ _
  refine wp_seq ?_
  repeat (first | simp only [List.nil_append] at hA | simp only [List.cons_append] at hA | simp only [List.set_cons_zero] at hA | simp only [List.set_cons_succ] at hA | simp only [List.eraseIdx_zero] at hA | simp only [List.tail_cons] at hA | simp only [List.eraseIdx_cons_zero] at hA | simp only [List.eraseIdx_cons_succ] at hA | simp only [List.setIfInBounds_toArray] at hA)
  refine wp_region_lit ?_
  iterate 4 (refine wpList_plainQ rfl (fun K Q' hK => ?_); go_simp; refine hK _ _ ?_; clear hK K; try clear Q')
  refine wpList_plainQ rfl (fun K Q' hK => ?_); go_simp
  refine hA.k_alloc (fun w1 h1 => ?_)
  refine hK _ _ ?_; clear hK K; try clear Q'
  -- stops at: eff:call (Go.Op.call {'callee': (Go.Callee.value (Go.Operand.func 14)), 'args': [(Go.Operand.tmp 13), (Go.Operand.tmp 17)], 'argTypes': [25, 39]}) slot 18
  obtain ⟨H1, h11, rA, leA⟩ := (h1.rowOf 1 rfl 2 3 rfl (by unfold maxLen; omega)).settleRow 0 rfl
  have htab_2 := htab.mono leA
  have rA' : ElRep H1 _ [(2, 0), (1, 0), (3, 0)] := rA
  refine wpList_plainQ rfl (fun K Q' hK => ?_); go_simp
  refine (hof_ok (m := some b) (c := 0) (d := 0) (xs := [(2, 0), (1, 0), (3, 0)]) (by simp [El.fits]) (h11.pre_at (i := 0) rfl) (by decide) rA').mono ?_
  rintro e wB ⟨r, H2, rfl, hpB, hrB'⟩
  have hrB : HpR H2 r aw0 := hrB'
  have h3 := h11.call_at (i := 0) rfl hpB
  have htab_3 := htab_2.mono hpB.le
  refine hK _ _ ?_; clear hK K; try clear Q'
  refine wpList_plainQ rfl (fun K Q' hK => ?_); go_simp
  refine h3.k_alloc (fun w4 h4 => ?_)
  refine hK _ _ ?_; clear hK K; try clear Q'
  have c_0 := h4.cell 1 rfl 0 rfl
  have f_0 := h4.free 1 rfl 0
  refine wpList_plainQ rfl (fun K Q' hK => ?_); go_simp
  clear c_0 f_0
  refine h4.k_set 1 rfl (fun w5 h5 => ?_)
  refine hK _ _ ?_; clear hK K; try clear Q'
  refine wpList_nil ?_
  show Code.wp _ _ _ _ _
  refine wp_seq ?_
  repeat (first | simp only [List.nil_append] at h5 | simp only [List.cons_append] at h5 | simp only [List.set_cons_zero] at h5 | simp only [List.set_cons_succ] at h5 | simp only [List.eraseIdx_zero] at h5 | simp only [List.tail_cons] at h5 | simp only [List.eraseIdx_cons_zero] at h5 | simp only [List.eraseIdx_cons_succ] at h5 | simp only [List.setIfInBounds_toArray] at h5)
  refine wp_region_lit ?_
  iterate 1 (refine wpList_plainQ rfl (fun K Q' hK => ?_); go_simp; refine hK _ _ ?_; clear hK K; try clear Q')
  -- stops at: eff:call (Go.Op.call {'callee': (Go.Callee.value (Go.Operand.func 15)), 'args': [(Go.Operand.tmp 19)], 'argTypes': [25]}) slot 20
  refine wpList_plainQ rfl (fun K Q' hK => ?_); go_simp
  refine (steps_ok H2 _ b _ _ (h5.pre_at (i := 0) rfl)).mono ?_
  rintro e wC ⟨rfl, hpC⟩
  rw [aw_steps]
  have h6 := h5.call_at (i := 0) rfl hpC
  have htab_6 := htab_3.mono hpC.le
  have hrB_6 := hrB.mono hpC.le
  refine hK _ _ ?_; clear hK K; try clear Q'
  iterate 1 (refine wpList_plainQ rfl (fun K Q' hK => ?_); go_simp; refine hK _ _ ?_; clear hK K; try clear Q')
  refine wpList_nil ?_
  show Code.wp _ _ _ _ _
  refine wp_seq ?_
  repeat (first | simp only [List.nil_append] at h6 | simp only [List.cons_append] at h6 | simp only [List.set_cons_zero] at h6 | simp only [List.set_cons_succ] at h6 | simp only [List.eraseIdx_zero] at h6 | simp only [List.tail_cons] at h6 | simp only [List.eraseIdx_cons_zero] at h6 | simp only [List.eraseIdx_cons_succ] at h6 | simp only [List.setIfInBounds_toArray] at h6)
  refine wp_region_lit ?_
  have c_1_0 := h6.cell 1 rfl 0 rfl
  iterate 2 (refine wpList_plainQ rfl (fun K Q' hK => ?_); go_simp; refine hK _ _ ?_; clear hK K; try clear Q')
  clear c_1_0
  -- stops at: eff:call (Go.Op.call {'callee': (Go.Callee.value (Go.Operand.func 16)), 'args': [(Go.Operand.tmp 22), (Go.Operand.tmp 23)], 'argTypes': [29, 25]}) slot 24
  refine wpList_plainQ rfl (fun K Q' hK => ?_); go_simp
  refine (hmin_ok (h6.pre_at (i := 0) rfl) (by rw [aw_size]; decide) hrB_6).mono ?_
  rintro e wD ⟨H3, rfl, hpD⟩
  simp only [aw_min, Option.getD_some, Option.isSome_some]
  have h7 := h6.call_at (i := 0) rfl hpD
  have htab_7 := htab_6.mono hpD.le
  have hrB_7 := hrB_6.mono hpD.le
  refine hK _ _ ?_; clear hK K; try clear Q'
  iterate 3 (refine wpList_plainQ rfl (fun K Q' hK => ?_); go_simp; refine hK _ _ ?_; clear hK K; try clear Q')
  refine wpList_plainQ rfl (fun K Q' hK => ?_); go_simp
  refine h7.k_alloc (fun w8 h8 => ?_)
  refine hK _ _ ?_; clear hK K; try clear Q'
  have c_0 := h8.cell 2 rfl 0 rfl
  have f_0 := h8.free 2 rfl 0
  have c_1 := h8.cell 2 rfl 1 rfl
  have f_1 := h8.free 2 rfl 1
  refine wpList_plainQ rfl (fun K Q' hK => ?_); go_simp
  clear c_0 f_0 c_1 f_1
  refine (h8.set (i := 2) rfl 0 _).k_set 2 rfl (fun w9 h9 => ?_)
  refine hK _ _ ?_; clear hK K; try clear Q'
  iterate 1 (refine wpList_plainQ rfl (fun K Q' hK => ?_); go_simp; refine hK _ _ ?_; clear hK K; try clear Q')
  refine wpList_nil ?_
  show Code.wp _ _ _ _ _
  refine wp_seq ?_
  repeat (first | simp only [List.nil_append] at h9 | simp only [List.cons_append] at h9 | simp only [List.set_cons_zero] at h9 | simp only [List.set_cons_succ] at h9 | simp only [List.eraseIdx_zero] at h9 | simp only [List.tail_cons] at h9 | simp only [List.eraseIdx_cons_zero] at h9 | simp only [List.eraseIdx_cons_succ] at h9 | simp only [List.setIfInBounds_toArray] at h9)
  refine wp_region_lit ?_
  have c_1_0 := h9.cell 1 rfl 0 rfl
  iterate 2 (refine wpList_plainQ rfl (fun K Q' hK => ?_); go_simp; refine hK _ _ ?_; clear hK K; try clear Q')
  clear c_1_0
  -- stops at: eff:call (Go.Op.call {'callee': (Go.Callee.value (Go.Operand.func 12)), 'args': [(Go.Operand.tmp 28), (Go.Operand.tmp 29)], 'argTypes': [29, 25]}) slot 30
  refine wpList_plainQ rfl (fun K Q' hK => ?_); go_simp
  refine (hpop_ok (h9.pre_at (i := 0) rfl) (by rw [aw_size]; decide) hrB_7).mono ?_
  rintro e wE ⟨r1, H4, rfl, hpE, hrE⟩
  simp only [aw_min, Option.isSome_some]
  have h10 := h9.call_at (i := 0) rfl hpE
  have htab_10 := htab_7.mono hpE.le
  have hrB_10 := hrB_7.mono hpE.le
  refine hK _ _ ?_; clear hK K; try clear Q'
  iterate 3 (refine wpList_plainQ rfl (fun K Q' hK => ?_); go_simp; refine hK _ _ ?_; clear hK K; try clear Q')
  refine wpList_plainQ rfl (fun K Q' hK => ?_); go_simp
  refine h10.k_alloc (fun w11 h11 => ?_)
  refine hK _ _ ?_; clear hK K; try clear Q'
  have c_0 := h11.cell 3 rfl 0 rfl
  have f_0 := h11.free 3 rfl 0
  refine wpList_plainQ rfl (fun K Q' hK => ?_); go_simp
  clear c_0 f_0
  refine h11.k_set 3 rfl (fun w12 h12 => ?_)
  refine hK _ _ ?_; clear hK K; try clear Q'
  iterate 1 (refine wpList_plainQ rfl (fun K Q' hK => ?_); go_simp; refine hK _ _ ?_; clear hK K; try clear Q')
  refine wpList_nil ?_
  show Code.wp _ _ _ _ _
  refine wp_seq ?_
  repeat (first | simp only [List.nil_append] at h12 | simp only [List.cons_append] at h12 | simp only [List.set_cons_zero] at h12 | simp only [List.set_cons_succ] at h12 | simp only [List.eraseIdx_zero] at h12 | simp only [List.tail_cons] at h12 | simp only [List.eraseIdx_cons_zero] at h12 | simp only [List.eraseIdx_cons_succ] at h12 | simp only [List.setIfInBounds_toArray] at h12)
  refine wp_region_lit ?_
  have c_3_0 := h12.cell 3 rfl 0 rfl
  iterate 2 (refine wpList_plainQ rfl (fun K Q' hK => ?_); go_simp; refine hK _ _ ?_; clear hK K; try clear Q')
  clear c_3_0
  -- stops at: eff:call (Go.Op.call {'callee': (Go.Callee.value (Go.Operand.func 16)), 'args': [(Go.Operand.tmp 34), (Go.Operand.tmp 35)], 'argTypes': [29, 25]}) slot 36
  refine wpList_plainQ rfl (fun K Q' hK => ?_); go_simp
  refine (hmin_ok (h12.pre_at (i := 0) rfl) (by rw [aw_size1]; decide) hrE).mono ?_
  rintro e wF ⟨H5, rfl, hpF⟩
  simp only [aw_min1, Option.getD_some, Option.isSome_some]
  have h13 := h12.call_at (i := 0) rfl hpF
  have htab_13 := htab_10.mono hpF.le
  have hrB_13 := hrB_10.mono hpF.le
  have hrE_13 := hrE.mono hpF.le
  refine hK _ _ ?_; clear hK K; try clear Q'
  iterate 3 (refine wpList_plainQ rfl (fun K Q' hK => ?_); go_simp; refine hK _ _ ?_; clear hK K; try clear Q')
  refine wpList_plainQ rfl (fun K Q' hK => ?_); go_simp
  refine h13.k_alloc (fun w14 h14 => ?_)
  refine hK _ _ ?_; clear hK K; try clear Q'
  have c_0 := h14.cell 4 rfl 0 rfl
  have f_0 := h14.free 4 rfl 0
  have c_1 := h14.cell 4 rfl 1 rfl
  have f_1 := h14.free 4 rfl 1
  refine wpList_plainQ rfl (fun K Q' hK => ?_); go_simp
  clear c_0 f_0 c_1 f_1
  refine (h14.set (i := 4) rfl 0 _).k_set 4 rfl (fun w15 h15 => ?_)
  refine hK _ _ ?_; clear hK K; try clear Q'
  iterate 1 (refine wpList_plainQ rfl (fun K Q' hK => ?_); go_simp; refine hK _ _ ?_; clear hK K; try clear Q')
  refine wpList_nil ?_
  show Code.wp _ _ _ _ _
  refine wp_seq ?_
  repeat (first | simp only [List.nil_append] at h15 | simp only [List.cons_append] at h15 | simp only [List.set_cons_zero] at h15 | simp only [List.set_cons_succ] at h15 | simp only [List.eraseIdx_zero] at h15 | simp only [List.tail_cons] at h15 | simp only [List.eraseIdx_cons_zero] at h15 | simp only [List.eraseIdx_cons_succ] at h15 | simp only [List.setIfInBounds_toArray] at h15)
  refine wp_region_lit ?_
  iterate 2 (refine wpList_plainQ rfl (fun K Q' hK => ?_); go_simp; refine hK _ _ ?_; clear hK K; try clear Q')
  -- stops at: eff:call (Go.Op.call {'callee': (Go.Callee.value (Go.Operand.func 12)), 'args': [(Go.Operand.tmp 40), (Go.Operand.tmp 41)], 'argTypes': [29, 25]}) slot 42
  refine wpList_plainQ rfl (fun K Q' hK => ?_); go_simp
  refine (hpop_ok (t := Hp.nil) (h15.pre_at (i := 0) rfl) (by decide) (HpR.nil _)).mono ?_
  rintro e wG ⟨r2, H6, rfl, hpG, hrG⟩
  simp only [Hp.min_nil, Option.isSome_none]
  have h16 := h15.call_at (i := 0) rfl hpG
  have htab_16 := htab_13.mono hpG.le
  have hrB_16 := hrB_13.mono hpG.le
  have hrE_16 := hrE_13.mono hpG.le
  refine hK _ _ ?_; clear hK K; try clear Q'
  iterate 3 (refine wpList_plainQ rfl (fun K Q' hK => ?_); go_simp; refine hK _ _ ?_; clear hK K; try clear Q')
  refine wpList_plainQ rfl (fun K Q' hK => ?_); go_simp
  refine h16.k_alloc (fun w17 h17 => ?_)
  refine hK _ _ ?_; clear hK K; try clear Q'
  have c_0 := h17.cell 5 rfl 0 rfl
  have f_0 := h17.free 5 rfl 0
  refine wpList_plainQ rfl (fun K Q' hK => ?_); go_simp
  clear c_0 f_0
  refine h17.k_set 5 rfl (fun w18 h18 => ?_)
  refine hK _ _ ?_; clear hK K; try clear Q'
  iterate 1 (refine wpList_plainQ rfl (fun K Q' hK => ?_); go_simp; refine hK _ _ ?_; clear hK K; try clear Q')
  refine wpList_nil ?_
  show Code.wp _ _ _ _ _
  refine wp_seq ?_
  repeat (first | simp only [List.nil_append] at h18 | simp only [List.cons_append] at h18 | simp only [List.set_cons_zero] at h18 | simp only [List.set_cons_succ] at h18 | simp only [List.eraseIdx_zero] at h18 | simp only [List.tail_cons] at h18 | simp only [List.eraseIdx_cons_zero] at h18 | simp only [List.eraseIdx_cons_succ] at h18 | simp only [List.setIfInBounds_toArray] at h18)
  refine wp_region_lit ?_
  have c_1_0 := h18.cell 1 rfl 0 rfl
  iterate 1 (refine wpList_plainQ rfl (fun K Q' hK => ?_); go_simp; refine hK _ _ ?_; clear hK K; try clear Q')
  clear c_1_0
  -- stops at: eff:call (Go.Op.call {'callee': (Go.Callee.value (Go.Operand.func 18)), 'args': [(Go.Operand.tmp 45)], 'argTypes': [29]}) slot 46
  refine wpList_plainQ rfl (fun K Q' hK => ?_); go_simp
  refine (hshow_ok htab_16 h18.fits (by rw [aw_size]; decide) hrB_16).mono ?_
  rintro e wH ⟨H7, rfl, hpH⟩
  rw [aw_text]
  have h19 := h18.call0 hpH
  have htab_19 := htab_16.mono hpH.le
  have hrB_19 := hrB_16.mono hpH.le
  have hrE_19 := hrE_16.mono hpH.le
  refine hK _ _ ?_; clear hK K; try clear Q'
  iterate 2 (refine wpList_plainQ rfl (fun K Q' hK => ?_); go_simp; refine hK _ _ ?_; clear hK K; try clear Q')
  first | go_skip | (iterate 2 (refine wpList_stepQ (o := { dst := _, op := _, type := _, pos := _, after := _, guard := some (3, true) }) (fun K Q' hK => ?_); go_simp; refine hK _ _ ?_; clear hK K; try clear Q')) | skip
  iterate 2 (refine wpList_plainQ rfl (fun K Q' hK => ?_); go_simp; refine hK _ _ ?_; clear hK K; try clear Q')
  have c_2_0 := h19.cell 2 rfl 0 rfl
  first | go_skip | (iterate 3 (refine wpList_stepQ (o := { dst := _, op := _, type := _, pos := _, after := _, guard := some (7, true) }) (fun K Q' hK => ?_); go_simp; refine hK _ _ ?_; clear hK K; try clear Q')) | skip
  clear c_2_0
  iterate 2 (refine wpList_plainQ rfl (fun K Q' hK => ?_); go_simp; refine hK _ _ ?_; clear hK K; try clear Q')
  first | go_skip | (iterate 1 (refine wpList_stepQ (o := { dst := _, op := _, type := _, pos := _, after := _, guard := some (12, true) }) (fun K Q' hK => ?_); go_simp; refine hK _ _ ?_; clear hK K; try clear Q')) | skip
  iterate 2 (refine wpList_plainQ rfl (fun K Q' hK => ?_); go_simp; refine hK _ _ ?_; clear hK K; try clear Q')
  first | go_skip | (iterate 1 (refine wpList_stepQ (o := { dst := _, op := _, type := _, pos := _, after := _, guard := some (15, true) }) (fun K Q' hK => ?_); go_simp; refine hK _ _ ?_; clear hK K; try clear Q')) | skip
  iterate 2 (refine wpList_plainQ rfl (fun K Q' hK => ?_); go_simp; refine hK _ _ ?_; clear hK K; try clear Q')
  have c_4_0 := h19.cell 4 rfl 0 rfl
  first | go_skip | (iterate 3 (refine wpList_stepQ (o := { dst := _, op := _, type := _, pos := _, after := _, guard := some (18, true) }) (fun K Q' hK => ?_); go_simp; refine hK _ _ ?_; clear hK K; try clear Q')) | skip
  clear c_4_0
  iterate 2 (refine wpList_plainQ rfl (fun K Q' hK => ?_); go_simp; refine hK _ _ ?_; clear hK K; try clear Q')
  first | go_skip | (iterate 1 (refine wpList_stepQ (o := { dst := _, op := _, type := _, pos := _, after := _, guard := some (23, true) }) (fun K Q' hK => ?_); go_simp; refine hK _ _ ?_; clear hK K; try clear Q')) | skip
  iterate 2 (refine wpList_plainQ rfl (fun K Q' hK => ?_); go_simp; refine hK _ _ ?_; clear hK K; try clear Q')
  first | go_skip | (iterate 2 (refine wpList_stepQ (o := { dst := _, op := _, type := _, pos := _, after := _, guard := some (26, true) }) (fun K Q' hK => ?_); go_simp; refine hK _ _ ?_; clear hK K; try clear Q')) | skip
  iterate 2 (refine wpList_plainQ rfl (fun K Q' hK => ?_); go_simp; refine hK _ _ ?_; clear hK K; try clear Q')
  have c_1_0 := h19.cell 1 rfl 0 rfl
  first | go_skip | (iterate 1 (refine wpList_stepQ (o := { dst := _, op := _, type := _, pos := _, after := _, guard := some (30, true) }) (fun K Q' hK => ?_); go_simp; refine hK _ _ ?_; clear hK K; try clear Q')) | skip
  clear c_1_0
  -- stops at: eff:call (Go.Op.call {'callee': (Go.Callee.value (Go.Operand.func 20)), 'args': [(Go.Operand.tmp 76)], 'argTypes': [29]}) slot 77
  refine wpList_stepQ (fun K Q' hK => ?_); go_simp
  refine (hsize_ok h19.fits (by rw [aw_size]; decide) hrB_19).mono ?_
  rintro e wI ⟨H8, rfl, hpI⟩
  rw [aw_size]
  have h20 := h19.call0 hpI
  have htab_20 := htab_19.mono hpI.le
  have hrB_20 := hrB_19.mono hpI.le
  have hrE_20 := hrE_19.mono hpI.le
  refine hK _ _ ?_; clear hK K; try clear Q'
  first | go_skip | (iterate 1 (refine wpList_stepQ (o := { dst := _, op := _, type := _, pos := _, after := _, guard := some (30, true) }) (fun K Q' hK => ?_); go_simp; refine hK _ _ ?_; clear hK K; try clear Q')) | skip
  iterate 2 (refine wpList_plainQ rfl (fun K Q' hK => ?_); go_simp; refine hK _ _ ?_; clear hK K; try clear Q')
  have c_3_0 := h20.cell 3 rfl 0 rfl
  first | go_skip | (iterate 1 (refine wpList_stepQ (o := { dst := _, op := _, type := _, pos := _, after := _, guard := some (35, true) }) (fun K Q' hK => ?_); go_simp; refine hK _ _ ?_; clear hK K; try clear Q')) | skip
  clear c_3_0
  -- stops at: eff:call (Go.Op.call {'callee': (Go.Callee.value (Go.Operand.func 20)), 'args': [(Go.Operand.tmp 81)], 'argTypes': [29]}) slot 82
  refine wpList_stepQ (fun K Q' hK => ?_); go_simp
  refine (hsize_ok h20.fits (by rw [aw_size1]; decide) hrE_20).mono ?_
  rintro e wJ ⟨H9, rfl, hpJ⟩
  rw [aw_size1]
  have h21 := h20.call0 hpJ
  have htab_21 := htab_20.mono hpJ.le
  have hrB_21 := hrB_20.mono hpJ.le
  have hrE_21 := hrE_20.mono hpJ.le
  refine hK _ _ ?_; clear hK K; try clear Q'
  first | go_skip | (iterate 1 (refine wpList_stepQ (o := { dst := _, op := _, type := _, pos := _, after := _, guard := some (35, true) }) (fun K Q' hK => ?_); go_simp; refine hK _ _ ?_; clear hK K; try clear Q')) | skip
  iterate 2 (refine wpList_plainQ rfl (fun K Q' hK => ?_); go_simp; refine hK _ _ ?_; clear hK K; try clear Q')
  refine wpList_nil ?_
  show Code.wp _ _ _ _ _
  -- stops at: ret
  refine wp_ret ?_
  go_ret
  exact ⟨H9, rfl, h21.post⟩
end Go.Proofs.YteigmfkkeofcaaaGreatDoor
