/-
Sorts: its walk.
-/
import Derived.Test.YtceamdacacacjaaDoorQbAwake
namespace Go.Proofs.YtceamdacacacjaaDoor
open Go Go.RowKit
set_option linter.unusedVariables false

set_option maxRecDepth 100000 in
set_option maxHeartbeats 16000000 in
theorem sorts_walk (H : GH) (w : World) (v : Value) (a : List El) (u : Value) (b : List El) (hf : Fits w H) (htab : TabH H) (ha : ElRep H v a) (fa : ∀ x ∈ a, El.fits x) (hb : ElRep H u b) (fb : ∀ x ∈ b, El.fits x) :
    Calls Tryd.prog 3 #[v, u] w fun e w' => e = .returned (.bool true) ∧ Keep none w w' := by
  have hpre : Pre w H none 0 0 := Pre.none hf 0 0
  obtain ⟨aa, ca, rfl, _, _⟩ := ha.nil_or
  obtain ⟨ab, cb, rfl, _, _⟩ := hb.nil_or
  by_cases hl : a.length ≤ 60
  · have hl1 : decide ((60 : Int) < (a.length : Int)) = false := by simp; omega
    by_cases hm : b.length ≤ 60
    · have hl2 : decide ((60 : Int) < (b.length : Int)) = false := by simp; omega
      have e1 : IntKind.i64.wrap ((a.length : Int) + (b.length : Int)) = (a.length : Int) + (b.length : Int) := IntWalk.i64_in _ (by omega)
      have e2 : IntKind.i64.wrap (2 * (a.length : Int)) = 2 * (a.length : Int) := IntWalk.i64_in _ (by omega)
      go_enter Tryd.func3, Tryd.ntmps3
      have h0 := St.start hpre
      refine wp_seq ?_
      repeat (first | simp only [List.nil_append] at h0 | simp only [List.cons_append] at h0 | simp only [List.set_cons_zero] at h0 | simp only [List.set_cons_succ] at h0 | simp only [List.eraseIdx_zero] at h0 | simp only [List.tail_cons] at h0 | simp only [List.eraseIdx_cons_zero] at h0 | simp only [List.eraseIdx_cons_succ] at h0 | simp only [List.setIfInBounds_toArray] at h0)
      refine wp_region_lit ?_
      iterate 1 (refine wpList_plainQ rfl (fun K Q' hK => ?_); go_simp; refine hK _ _ ?_; clear hK K; try clear Q')
      refine wpList_nil ?_
      show Code.wp _ _ _ _ _
      refine wp_seq ?_
      refine wp_region_lit ?_
      -- stops at: eff:call (Go.Op.call {'callee': (Go.Callee.value (Go.Operand.func 13)), 'args': [], 'argTypes': []}) slot 16
      refine wpList_plainQ rfl (fun K Q' hK => ?_); go_simp
      refine (awake_ok H _ h0.fits htab).mono ?_
      rintro e wAw ⟨HAw, rfl, hpAw⟩
      have h1 := h0.call0 hpAw
      have htab_1 := htab.mono hpAw.le
      have ha_1 := ha.mono hpAw.le
      have hb_1 := hb.mono hpAw.le
      refine hK _ _ ?_; clear hK K; try clear Q'
      iterate 1 (refine wpList_plainQ rfl (fun K Q' hK => ?_); go_simp; refine hK _ _ ?_; clear hK K; try clear Q')
      refine wpList_nil ?_
      show Code.wp _ _ _ _ _
      refine wp_seq ?_
      refine wp_seq ?_
      repeat (first | simp only [List.nil_append] at h1 | simp only [List.cons_append] at h1 | simp only [List.set_cons_zero] at h1 | simp only [List.set_cons_succ] at h1 | simp only [List.eraseIdx_zero] at h1 | simp only [List.tail_cons] at h1 | simp only [List.eraseIdx_cons_zero] at h1 | simp only [List.eraseIdx_cons_succ] at h1 | simp only [List.setIfInBounds_toArray] at h1)
      refine wp_region_lit ?_
      iterate 2 (refine wpList_plainQ rfl (fun K Q' hK => ?_); go_simp; refine hK _ _ ?_; clear hK K; try clear Q')
      refine wpList_nil ?_
      show Code.wp _ _ _ _ _
      -- stops at: cond
      refine wp_cond_false (rfl) ?_
      refine wp_skip ?_
      show Code.wp _ _ _ _ _
      refine wp_seq ?_
      refine wp_seq ?_
      refine wp_region_lit ?_
      iterate 4 (refine wpList_plainQ rfl (fun K Q' hK => ?_); go_simp; refine hK _ _ ?_; clear hK K; try clear Q')
      first | go_skip | (iterate 3 (refine wpList_stepQ (o := { dst := _, op := _, type := _, pos := _, after := _, guard := some (3, false) }) (fun K Q' hK => ?_); go_simp; refine hK _ _ ?_; clear hK K; try clear Q')) | skip
      iterate 1 (refine wpList_plainQ rfl (fun K Q' hK => ?_); go_simp; refine hK _ _ ?_; clear hK K; try clear Q')
      refine wpList_nil ?_
      show Code.wp _ _ _ _ _
      -- stops at: cond
      refine wp_cond_false (rfl) ?_
      refine wp_skip ?_
      show Code.wp _ _ _ _ _
      refine wp_seq ?_
      refine wp_region_lit ?_
      iterate 1 (refine wpList_plainQ rfl (fun K Q' hK => ?_); go_simp; refine hK _ _ ?_; clear hK K; try clear Q')
      -- stops at: eff:call (Go.Op.call {'callee': (Go.Callee.value (Go.Operand.func 14)), 'args': [(Go.Operand.const (Go.Value.pointer none)), (Go.Operand.tmp 27)], 'argTypes': [36, 22]}) slot 28
      refine wpList_plainQ rfl (fun K Q' hK => ?_); go_simp
      refine (hof_ok (m := none) (xs := a) fa h1.pre (by omega) ha_1).mono ?_
      rintro e wXx ⟨rXx, HXx, rfl, hpXx, hXx⟩
      obtain ⟨Xx, eXx⟩ : ∃ hp0, Hid (Hp.ofL a = hp0) := ⟨_, show _ = _ from rfl⟩
      rw [eXx.out] at hXx
      have oXx := hXx.ok
      have pXx : Hid ((Hp.els Xx).Perm (a)) := by rw [← eXx.out]; exact Hp.els_ofL _
      have sXx : Hp.size Xx = (a).length := pXx.out.length_eq
      have h2 := h1.call0 hpXx
      have htab_2 := htab_1.mono hpXx.le
      have ha_2 := ha_1.mono hpXx.le
      have hb_2 := hb_1.mono hpXx.le
      refine hK _ _ ?_; clear hK K; try clear Q'
      refine wpList_plainQ rfl (fun K Q' hK => ?_); go_simp
      refine h2.k_alloc (fun w3 h3 => ?_)
      refine hK _ _ ?_; clear hK K; try clear Q'
      have c_0 := h3.cell 0 rfl 0 rfl
      have f_0 := h3.free 0 rfl 0
      refine wpList_plainQ rfl (fun K Q' hK => ?_); go_simp
      clear c_0 f_0
      refine h3.k_set 0 rfl (fun w4 h4 => ?_)
      refine hK _ _ ?_; clear hK K; try clear Q'
      refine wpList_nil ?_
      show Code.wp _ _ _ _ _
      refine wp_seq ?_
      repeat (first | simp only [List.nil_append] at h4 | simp only [List.cons_append] at h4 | simp only [List.set_cons_zero] at h4 | simp only [List.set_cons_succ] at h4 | simp only [List.eraseIdx_zero] at h4 | simp only [List.tail_cons] at h4 | simp only [List.eraseIdx_cons_zero] at h4 | simp only [List.eraseIdx_cons_succ] at h4 | simp only [List.setIfInBounds_toArray] at h4)
      refine wp_region_lit ?_
      iterate 1 (refine wpList_plainQ rfl (fun K Q' hK => ?_); go_simp; refine hK _ _ ?_; clear hK K; try clear Q')
      -- stops at: eff:call (Go.Op.call {'callee': (Go.Callee.value (Go.Operand.func 14)), 'args': [(Go.Operand.const (Go.Value.pointer none)), (Go.Operand.tmp 29)], 'argTypes': [36, 22]}) slot 30
      refine wpList_plainQ rfl (fun K Q' hK => ?_); go_simp
      refine (hof_ok (m := none) (xs := b) fb h4.pre (by omega) hb_2).mono ?_
      rintro e wXy ⟨rXy, HXy, rfl, hpXy, hXy⟩
      obtain ⟨Xy, eXy⟩ : ∃ hp0, Hid (Hp.ofL b = hp0) := ⟨_, show _ = _ from rfl⟩
      rw [eXy.out] at hXy
      have oXy := hXy.ok
      have pXy : Hid ((Hp.els Xy).Perm (b)) := by rw [← eXy.out]; exact Hp.els_ofL _
      have sXy : Hp.size Xy = (b).length := pXy.out.length_eq
      have h5 := h4.call0 hpXy
      have htab_5 := htab_2.mono hpXy.le
      have ha_5 := ha_2.mono hpXy.le
      have hb_5 := hb_2.mono hpXy.le
      have hXx_5 := hXx.mono hpXy.le
      refine hK _ _ ?_; clear hK K; try clear Q'
      refine wpList_plainQ rfl (fun K Q' hK => ?_); go_simp
      refine h5.k_alloc (fun w6 h6 => ?_)
      refine hK _ _ ?_; clear hK K; try clear Q'
      have c_0 := h6.cell 1 rfl 0 rfl
      have f_0 := h6.free 1 rfl 0
      refine wpList_plainQ rfl (fun K Q' hK => ?_); go_simp
      clear c_0 f_0
      refine h6.k_set 1 rfl (fun w7 h7 => ?_)
      refine hK _ _ ?_; clear hK K; try clear Q'
      refine wpList_nil ?_
      show Code.wp _ _ _ _ _
      refine wp_seq ?_
      repeat (first | simp only [List.nil_append] at h7 | simp only [List.cons_append] at h7 | simp only [List.set_cons_zero] at h7 | simp only [List.set_cons_succ] at h7 | simp only [List.eraseIdx_zero] at h7 | simp only [List.tail_cons] at h7 | simp only [List.eraseIdx_cons_zero] at h7 | simp only [List.eraseIdx_cons_succ] at h7 | simp only [List.setIfInBounds_toArray] at h7)
      refine wp_region_lit ?_
      have c_0_0 := h7.cell 0 rfl 0 rfl
      have c_1_0 := h7.cell 1 rfl 0 rfl
      iterate 2 (refine wpList_plainQ rfl (fun K Q' hK => ?_); go_simp; refine hK _ _ ?_; clear hK K; try clear Q')
      clear c_0_0 c_1_0
      -- stops at: eff:call (Go.Op.call {'callee': (Go.Callee.value (Go.Operand.func 15)), 'args': [(Go.Operand.tmp 31), (Go.Operand.const (Go.Value.pointer none)), (Go.Operand.tmp 32)], ' slot 33
      refine wpList_plainQ rfl (fun K Q' hK => ?_); go_simp
      refine (hmeld_ok (m := none) h7.pre (by omega) hXx_5 hXy).mono ?_
      rintro e wXz ⟨rXz, HXz, rfl, hpXz, hXz⟩
      obtain ⟨Xz, eXz⟩ : ∃ hp0, Hid (Hp.meld Xx Xy = hp0) := ⟨_, show _ = _ from rfl⟩
      rw [eXz.out] at hXz
      have oXz := hXz.ok
      have pXz : Hid ((Hp.els Xz).Perm (a ++ b)) := by
        rw [← eXz.out]
        exact (Hp.els_meld oXx oXy).trans (pXx.out.append pXy.out)
      have sXz : Hp.size Xz = a.length + b.length := by
        rw [Hp.size_eq, pXz.out.length_eq]; simp; try omega
      have h8 := h7.call0 hpXz
      have htab_8 := htab_5.mono hpXz.le
      have ha_8 := ha_5.mono hpXz.le
      have hb_8 := hb_5.mono hpXz.le
      have hXx_8 := hXx_5.mono hpXz.le
      have hXy_8 := hXy.mono hpXz.le
      refine hK _ _ ?_; clear hK K; try clear Q'
      refine wpList_plainQ rfl (fun K Q' hK => ?_); go_simp
      refine h8.k_alloc (fun w9 h9 => ?_)
      refine hK _ _ ?_; clear hK K; try clear Q'
      have c_0 := h9.cell 2 rfl 0 rfl
      have f_0 := h9.free 2 rfl 0
      refine wpList_plainQ rfl (fun K Q' hK => ?_); go_simp
      clear c_0 f_0
      refine h9.k_set 2 rfl (fun w10 h10 => ?_)
      refine hK _ _ ?_; clear hK K; try clear Q'
      refine wpList_nil ?_
      show Code.wp _ _ _ _ _
      refine wp_seq ?_
      repeat (first | simp only [List.nil_append] at h10 | simp only [List.cons_append] at h10 | simp only [List.set_cons_zero] at h10 | simp only [List.set_cons_succ] at h10 | simp only [List.eraseIdx_zero] at h10 | simp only [List.tail_cons] at h10 | simp only [List.eraseIdx_cons_zero] at h10 | simp only [List.eraseIdx_cons_succ] at h10 | simp only [List.setIfInBounds_toArray] at h10)
      refine wp_region_lit ?_
      have c_0_0 := h10.cell 0 rfl 0 rfl
      iterate 2 (refine wpList_plainQ rfl (fun K Q' hK => ?_); go_simp; refine hK _ _ ?_; clear hK K; try clear Q')
      clear c_0_0
      -- stops at: eff:call (Go.Op.call {'callee': (Go.Callee.value (Go.Operand.func 15)), 'args': [(Go.Operand.tmp 34), (Go.Operand.const (Go.Value.pointer none)), (Go.Operand.tmp 35)], ' slot 36
      refine wpList_plainQ rfl (fun K Q' hK => ?_); go_simp
      refine (hmeld_ok (m := none) h10.pre (by omega) hXx_8 hXx_8).mono ?_
      rintro e wXt ⟨rXt, HXt, rfl, hpXt, hXt⟩
      obtain ⟨Xt, eXt⟩ : ∃ hp0, Hid (Hp.meld Xx Xx = hp0) := ⟨_, show _ = _ from rfl⟩
      rw [eXt.out] at hXt
      have oXt := hXt.ok
      have pXt : Hid ((Hp.els Xt).Perm (a ++ a)) := by
        rw [← eXt.out]
        exact (Hp.els_meld oXx oXx).trans (pXx.out.append pXx.out)
      have sXt : Hp.size Xt = 2 * a.length := by
        rw [Hp.size_eq, pXt.out.length_eq]; simp; try omega
      have h11 := h10.call0 hpXt
      have htab_11 := htab_8.mono hpXt.le
      have ha_11 := ha_8.mono hpXt.le
      have hb_11 := hb_8.mono hpXt.le
      have hXx_11 := hXx_8.mono hpXt.le
      have hXy_11 := hXy_8.mono hpXt.le
      have hXz_11 := hXz.mono hpXt.le
      refine hK _ _ ?_; clear hK K; try clear Q'
      refine wpList_plainQ rfl (fun K Q' hK => ?_); go_simp
      refine h11.k_alloc (fun w12 h12 => ?_)
      refine hK _ _ ?_; clear hK K; try clear Q'
      have c_0 := h12.cell 3 rfl 0 rfl
      have f_0 := h12.free 3 rfl 0
      refine wpList_plainQ rfl (fun K Q' hK => ?_); go_simp
      clear c_0 f_0
      refine h12.k_set 3 rfl (fun w13 h13 => ?_)
      refine hK _ _ ?_; clear hK K; try clear Q'
      refine wpList_nil ?_
      show Code.wp _ _ _ _ _
      refine wp_seq ?_
      repeat (first | simp only [List.nil_append] at h13 | simp only [List.cons_append] at h13 | simp only [List.set_cons_zero] at h13 | simp only [List.set_cons_succ] at h13 | simp only [List.eraseIdx_zero] at h13 | simp only [List.tail_cons] at h13 | simp only [List.eraseIdx_cons_zero] at h13 | simp only [List.eraseIdx_cons_succ] at h13 | simp only [List.setIfInBounds_toArray] at h13)
      refine wp_region_lit ?_
      iterate 1 (refine wpList_plainQ rfl (fun K Q' hK => ?_); go_simp; refine hK _ _ ?_; clear hK K; try clear Q')
      -- stops at: eff:call (Go.Op.call {'callee': (Go.Callee.value (Go.Operand.func 16)), 'args': [(Go.Operand.tmp 37)], 'argTypes': [22]}) slot 38
      refine wpList_plainQ rfl (fun K Q' hK => ?_); go_simp
      refine (rsort_ok _ _ _ a (by first | omega | simp) h13.fits ha_11).mono ?_
      rintro e wSp ⟨vSp, HSp, rfl, hpSp, dSp⟩
      have h14 := h13.call0 hpSp
      have htab_14 := htab_11.mono hpSp.le
      have ha_14 := ha_11.mono hpSp.le
      have hb_14 := hb_11.mono hpSp.le
      have hXx_14 := hXx_11.mono hpSp.le
      have hXy_14 := hXy_11.mono hpSp.le
      have hXz_14 := hXz_11.mono hpSp.le
      have hXt_14 := hXt.mono hpSp.le
      refine hK _ _ ?_; clear hK K; try clear Q'
      iterate 1 (refine wpList_plainQ rfl (fun K Q' hK => ?_); go_simp; refine hK _ _ ?_; clear hK K; try clear Q')
      refine wpList_nil ?_
      show Code.wp _ _ _ _ _
      refine wp_seq ?_
      repeat (first | simp only [List.nil_append] at h14 | simp only [List.cons_append] at h14 | simp only [List.set_cons_zero] at h14 | simp only [List.set_cons_succ] at h14 | simp only [List.eraseIdx_zero] at h14 | simp only [List.tail_cons] at h14 | simp only [List.eraseIdx_cons_zero] at h14 | simp only [List.eraseIdx_cons_succ] at h14 | simp only [List.setIfInBounds_toArray] at h14)
      refine wp_region_lit ?_
      iterate 1 (refine wpList_plainQ rfl (fun K Q' hK => ?_); go_simp; refine hK _ _ ?_; clear hK K; try clear Q')
      -- stops at: eff:call (Go.Op.call {'callee': (Go.Callee.value (Go.Operand.func 16)), 'args': [(Go.Operand.tmp 39)], 'argTypes': [22]}) slot 40
      refine wpList_plainQ rfl (fun K Q' hK => ?_); go_simp
      refine (rsort_ok _ _ _ b (by first | omega | simp) h14.fits hb_14).mono ?_
      rintro e wSq ⟨vSq, HSq, rfl, hpSq, dSq⟩
      have h15 := h14.call0 hpSq
      have htab_15 := htab_14.mono hpSq.le
      have ha_15 := ha_14.mono hpSq.le
      have hb_15 := hb_14.mono hpSq.le
      have hXx_15 := hXx_14.mono hpSq.le
      have hXy_15 := hXy_14.mono hpSq.le
      have hXz_15 := hXz_14.mono hpSq.le
      have hXt_15 := hXt_14.mono hpSq.le
      have dSp_15 := dSp.mono hpSq.le
      refine hK _ _ ?_; clear hK K; try clear Q'
      iterate 1 (refine wpList_plainQ rfl (fun K Q' hK => ?_); go_simp; refine hK _ _ ?_; clear hK K; try clear Q')
      refine wpList_nil ?_
      show Code.wp _ _ _ _ _
      refine wp_seq ?_
      repeat (first | simp only [List.nil_append] at h15 | simp only [List.cons_append] at h15 | simp only [List.set_cons_zero] at h15 | simp only [List.set_cons_succ] at h15 | simp only [List.eraseIdx_zero] at h15 | simp only [List.tail_cons] at h15 | simp only [List.eraseIdx_cons_zero] at h15 | simp only [List.eraseIdx_cons_succ] at h15 | simp only [List.setIfInBounds_toArray] at h15)
      refine wp_region_lit ?_
      have c_2_0 := h15.cell 2 rfl 0 rfl
      iterate 1 (refine wpList_plainQ rfl (fun K Q' hK => ?_); go_simp; refine hK _ _ ?_; clear hK K; try clear Q')
      clear c_2_0
      -- stops at: eff:call (Go.Op.call {'callee': (Go.Callee.value (Go.Operand.func 17)), 'args': [(Go.Operand.tmp 41), (Go.Operand.const (Go.Value.int Go.IntKind.i64 300))], 'argTypes':  slot 42
      refine wpList_plainQ rfl (fun K Q' hK => ?_); go_simp
      refine (drain_ok _ _ _ Xz 300 (by omega) (by omega) h15.fits hXz_15).mono ?_
      rintro e wDs ⟨vDs, HDs, rfl, hpDs, dDs⟩
      rw [drainL_all 300 Xz oXz (by omega), sortE_congr pXz.out] at dDs
      have h16 := h15.call0 hpDs
      have htab_16 := htab_15.mono hpDs.le
      have ha_16 := ha_15.mono hpDs.le
      have hb_16 := hb_15.mono hpDs.le
      have hXx_16 := hXx_15.mono hpDs.le
      have hXy_16 := hXy_15.mono hpDs.le
      have hXz_16 := hXz_15.mono hpDs.le
      have hXt_16 := hXt_15.mono hpDs.le
      have dSp_16 := dSp_15.mono hpDs.le
      have dSq_16 := dSq.mono hpDs.le
      refine hK _ _ ?_; clear hK K; try clear Q'
      iterate 1 (refine wpList_plainQ rfl (fun K Q' hK => ?_); go_simp; refine hK _ _ ?_; clear hK K; try clear Q')
      refine wpList_nil ?_
      show Code.wp _ _ _ _ _
      refine wp_seq ?_
      repeat (first | simp only [List.nil_append] at h16 | simp only [List.cons_append] at h16 | simp only [List.set_cons_zero] at h16 | simp only [List.set_cons_succ] at h16 | simp only [List.eraseIdx_zero] at h16 | simp only [List.tail_cons] at h16 | simp only [List.eraseIdx_cons_zero] at h16 | simp only [List.eraseIdx_cons_succ] at h16 | simp only [List.setIfInBounds_toArray] at h16)
      refine wp_region_lit ?_
      have c_3_0 := h16.cell 3 rfl 0 rfl
      iterate 1 (refine wpList_plainQ rfl (fun K Q' hK => ?_); go_simp; refine hK _ _ ?_; clear hK K; try clear Q')
      clear c_3_0
      -- stops at: eff:call (Go.Op.call {'callee': (Go.Callee.value (Go.Operand.func 17)), 'args': [(Go.Operand.tmp 43), (Go.Operand.const (Go.Value.int Go.IntKind.i64 300))], 'argTypes':  slot 44
      refine wpList_plainQ rfl (fun K Q' hK => ?_); go_simp
      refine (drain_ok _ _ _ Xt 300 (by omega) (by omega) h16.fits hXt_16).mono ?_
      rintro e wDt ⟨vDt, HDt, rfl, hpDt, dDt⟩
      rw [drainL_all 300 Xt oXt (by omega), sortE_congr pXt.out] at dDt
      have h17 := h16.call0 hpDt
      have htab_17 := htab_16.mono hpDt.le
      have ha_17 := ha_16.mono hpDt.le
      have hb_17 := hb_16.mono hpDt.le
      have hXx_17 := hXx_16.mono hpDt.le
      have hXy_17 := hXy_16.mono hpDt.le
      have hXz_17 := hXz_16.mono hpDt.le
      have hXt_17 := hXt_16.mono hpDt.le
      have dSp_17 := dSp_16.mono hpDt.le
      have dSq_17 := dSq_16.mono hpDt.le
      have dDs_17 := dDs.mono hpDt.le
      refine hK _ _ ?_; clear hK K; try clear Q'
      iterate 1 (refine wpList_plainQ rfl (fun K Q' hK => ?_); go_simp; refine hK _ _ ?_; clear hK K; try clear Q')
      refine wpList_nil ?_
      show Code.wp _ _ _ _ _
      refine wp_seq ?_
      repeat (first | simp only [List.nil_append] at h17 | simp only [List.cons_append] at h17 | simp only [List.set_cons_zero] at h17 | simp only [List.set_cons_succ] at h17 | simp only [List.eraseIdx_zero] at h17 | simp only [List.tail_cons] at h17 | simp only [List.eraseIdx_cons_zero] at h17 | simp only [List.eraseIdx_cons_succ] at h17 | simp only [List.setIfInBounds_toArray] at h17)
      refine wp_region_lit ?_
      have c_0_0 := h17.cell 0 rfl 0 rfl
      iterate 1 (refine wpList_plainQ rfl (fun K Q' hK => ?_); go_simp; refine hK _ _ ?_; clear hK K; try clear Q')
      clear c_0_0
      -- stops at: eff:call (Go.Op.call {'callee': (Go.Callee.value (Go.Operand.func 17)), 'args': [(Go.Operand.tmp 45), (Go.Operand.const (Go.Value.int Go.IntKind.i64 300))], 'argTypes':  slot 46
      refine wpList_plainQ rfl (fun K Q' hK => ?_); go_simp
      refine (drain_ok _ _ _ Xx 300 (by omega) (by omega) h17.fits hXx_17).mono ?_
      rintro e wDu ⟨vDu, HDu, rfl, hpDu, dDu⟩
      rw [drainL_all 300 Xx oXx (by omega), sortE_congr pXx.out] at dDu
      have h18 := h17.call0 hpDu
      have htab_18 := htab_17.mono hpDu.le
      have ha_18 := ha_17.mono hpDu.le
      have hb_18 := hb_17.mono hpDu.le
      have hXx_18 := hXx_17.mono hpDu.le
      have hXy_18 := hXy_17.mono hpDu.le
      have hXz_18 := hXz_17.mono hpDu.le
      have hXt_18 := hXt_17.mono hpDu.le
      have dSp_18 := dSp_17.mono hpDu.le
      have dSq_18 := dSq_17.mono hpDu.le
      have dDs_18 := dDs_17.mono hpDu.le
      have dDt_18 := dDt.mono hpDu.le
      refine hK _ _ ?_; clear hK K; try clear Q'
      iterate 1 (refine wpList_plainQ rfl (fun K Q' hK => ?_); go_simp; refine hK _ _ ?_; clear hK K; try clear Q')
      refine wpList_nil ?_
      show Code.wp _ _ _ _ _
      refine wp_seq ?_
      repeat (first | simp only [List.nil_append] at h18 | simp only [List.cons_append] at h18 | simp only [List.set_cons_zero] at h18 | simp only [List.set_cons_succ] at h18 | simp only [List.eraseIdx_zero] at h18 | simp only [List.tail_cons] at h18 | simp only [List.eraseIdx_cons_zero] at h18 | simp only [List.eraseIdx_cons_succ] at h18 | simp only [List.setIfInBounds_toArray] at h18)
      refine wp_region_lit ?_
      have c_1_0 := h18.cell 1 rfl 0 rfl
      iterate 1 (refine wpList_plainQ rfl (fun K Q' hK => ?_); go_simp; refine hK _ _ ?_; clear hK K; try clear Q')
      clear c_1_0
      -- stops at: eff:call (Go.Op.call {'callee': (Go.Callee.value (Go.Operand.func 17)), 'args': [(Go.Operand.tmp 47), (Go.Operand.const (Go.Value.int Go.IntKind.i64 300))], 'argTypes':  slot 48
      refine wpList_plainQ rfl (fun K Q' hK => ?_); go_simp
      refine (drain_ok _ _ _ Xy 300 (by omega) (by omega) h18.fits hXy_18).mono ?_
      rintro e wDv ⟨vDv, HDv, rfl, hpDv, dDv⟩
      rw [drainL_all 300 Xy oXy (by omega), sortE_congr pXy.out] at dDv
      have h19 := h18.call0 hpDv
      have htab_19 := htab_18.mono hpDv.le
      have ha_19 := ha_18.mono hpDv.le
      have hb_19 := hb_18.mono hpDv.le
      have hXx_19 := hXx_18.mono hpDv.le
      have hXy_19 := hXy_18.mono hpDv.le
      have hXz_19 := hXz_18.mono hpDv.le
      have hXt_19 := hXt_18.mono hpDv.le
      have dSp_19 := dSp_18.mono hpDv.le
      have dSq_19 := dSq_18.mono hpDv.le
      have dDs_19 := dDs_18.mono hpDv.le
      have dDt_19 := dDt_18.mono hpDv.le
      have dDu_19 := dDu.mono hpDv.le
      refine hK _ _ ?_; clear hK K; try clear Q'
      iterate 1 (refine wpList_plainQ rfl (fun K Q' hK => ?_); go_simp; refine hK _ _ ?_; clear hK K; try clear Q')
      refine wpList_nil ?_
      show Code.wp _ _ _ _ _
      refine wp_seq ?_
      repeat (first | simp only [List.nil_append] at h19 | simp only [List.cons_append] at h19 | simp only [List.set_cons_zero] at h19 | simp only [List.set_cons_succ] at h19 | simp only [List.eraseIdx_zero] at h19 | simp only [List.tail_cons] at h19 | simp only [List.eraseIdx_cons_zero] at h19 | simp only [List.eraseIdx_cons_succ] at h19 | simp only [List.setIfInBounds_toArray] at h19)
      refine wp_region_lit ?_
      iterate 3 (refine wpList_plainQ rfl (fun K Q' hK => ?_); go_simp; refine hK _ _ ?_; clear hK K; try clear Q')
      -- stops at: eff:call (Go.Op.call {'callee': (Go.Callee.value (Go.Operand.func 19)), 'args': [(Go.Operand.tmp 50), (Go.Operand.tmp 51)], 'argTypes': [22, 22]}) slot 52
      have lel : ∀ l : List El, l.length ≤ 120 → l.length < 1000000 := fun _ h => by omega
      refine wpList_plainQ rfl (fun K Q' hK => ?_); go_simp
      refine (rsum_ok _ _ _ _ _ _ (by simp only [sortE_length]; omega) h19.fits dSp_19 dSq_19).mono ?_
      rintro e wSu ⟨vSu, HSu, rfl, hpSu, dSu⟩
      have h20 := h19.call0 hpSu
      have htab_20 := htab_19.mono hpSu.le
      have ha_20 := ha_19.mono hpSu.le
      have hb_20 := hb_19.mono hpSu.le
      have hXx_20 := hXx_19.mono hpSu.le
      have hXy_20 := hXy_19.mono hpSu.le
      have hXz_20 := hXz_19.mono hpSu.le
      have hXt_20 := hXt_19.mono hpSu.le
      have dSp_20 := dSp_19.mono hpSu.le
      have dSq_20 := dSq_19.mono hpSu.le
      have dDs_20 := dDs_19.mono hpSu.le
      have dDt_20 := dDt_19.mono hpSu.le
      have dDu_20 := dDu_19.mono hpSu.le
      have dDv_20 := dDv.mono hpSu.le
      refine hK _ _ ?_; clear hK K; try clear Q'
      -- stops at: eff:call (Go.Op.call {'callee': (Go.Callee.value (Go.Operand.func 18)), 'args': [(Go.Operand.tmp 49), (Go.Operand.tmp 52)], 'argTypes': [22, 22]}) slot 53
      refine wpList_plainQ rfl (fun K Q' hK => ?_); go_simp
      refine (rsame_ok _ _ _ _ _ _ (by simp only [sortE_length, List.length_append]; omega) (by simp only [sumE_length, sortE_length]; omega) h20.fits dDs_20 dSu).mono ?_
      rintro e wE1 ⟨rfl, hkE1⟩
      rw [decide_eq_true ((sumE_sort2 a b).symm)]
      have h21 := h20.callk hkE1
      refine hK _ _ ?_; clear hK K; try clear Q'
      iterate 1 (refine wpList_plainQ rfl (fun K Q' hK => ?_); go_simp; refine hK _ _ ?_; clear hK K; try clear Q')
      first | go_skip | (iterate 3 (refine wpList_stepQ (o := { dst := _, op := _, type := _, pos := _, after := _, guard := some (5, true) }) (fun K Q' hK => ?_); go_simp; refine hK _ _ ?_; clear hK K; try clear Q')) | skip
      -- stops at: eff:call (Go.Op.call {'callee': (Go.Callee.value (Go.Operand.func 19)), 'args': [(Go.Operand.tmp 56), (Go.Operand.tmp 57)], 'argTypes': [22, 22]}) slot 58
      refine wpList_stepQ (fun K Q' hK => ?_); go_simp
      refine (rsum_ok _ _ _ _ _ _ (by simp only [sortE_length]; omega) h21.fits dSp_20 dSp_20).mono ?_
      rintro e wSv ⟨vSv, HSv, rfl, hpSv, dSv⟩
      have h22 := h21.call0 hpSv
      have htab_22 := htab_20.mono hpSv.le
      have ha_22 := ha_20.mono hpSv.le
      have hb_22 := hb_20.mono hpSv.le
      have hXx_22 := hXx_20.mono hpSv.le
      have hXy_22 := hXy_20.mono hpSv.le
      have hXz_22 := hXz_20.mono hpSv.le
      have hXt_22 := hXt_20.mono hpSv.le
      have dSp_22 := dSp_20.mono hpSv.le
      have dSq_22 := dSq_20.mono hpSv.le
      have dDs_22 := dDs_20.mono hpSv.le
      have dDt_22 := dDt_20.mono hpSv.le
      have dDu_22 := dDu_20.mono hpSv.le
      have dDv_22 := dDv_20.mono hpSv.le
      have dSu_22 := dSu.mono hpSv.le
      refine hK _ _ ?_; clear hK K; try clear Q'
      -- stops at: eff:call (Go.Op.call {'callee': (Go.Callee.value (Go.Operand.func 18)), 'args': [(Go.Operand.tmp 55), (Go.Operand.tmp 58)], 'argTypes': [22, 22]}) slot 59
      refine wpList_stepQ (fun K Q' hK => ?_); go_simp
      refine (rsame_ok _ _ _ _ _ _ (by simp only [sortE_length, List.length_append]; omega) (by simp only [sumE_length, sortE_length]; omega) h22.fits dDt_22 dSv).mono ?_
      rintro e wE2 ⟨rfl, hkE2⟩
      rw [decide_eq_true ((sumE_sort2 a a).symm)]
      have h23 := h22.callk hkE2
      refine hK _ _ ?_; clear hK K; try clear Q'
      iterate 2 (refine wpList_plainQ rfl (fun K Q' hK => ?_); go_simp; refine hK _ _ ?_; clear hK K; try clear Q')
      first | go_skip | (iterate 2 (refine wpList_stepQ (o := { dst := _, op := _, type := _, pos := _, after := _, guard := some (12, true) }) (fun K Q' hK => ?_); go_simp; refine hK _ _ ?_; clear hK K; try clear Q')) | skip
      -- stops at: eff:call (Go.Op.call {'callee': (Go.Callee.value (Go.Operand.func 18)), 'args': [(Go.Operand.tmp 62), (Go.Operand.tmp 63)], 'argTypes': [22, 22]}) slot 64
      refine wpList_stepQ (fun K Q' hK => ?_); go_simp
      refine (rsame_ok _ _ _ _ _ _ (by simp only [sortE_length]; omega) (by simp only [sortE_length]; omega) h23.fits dDu_22 dSp_22).mono ?_
      rintro e wE3 ⟨rfl, hkE3⟩
      rw [decide_eq_true (rfl)]
      have h24 := h23.callk hkE3
      refine hK _ _ ?_; clear hK K; try clear Q'
      iterate 2 (refine wpList_plainQ rfl (fun K Q' hK => ?_); go_simp; refine hK _ _ ?_; clear hK K; try clear Q')
      first | go_skip | (iterate 2 (refine wpList_stepQ (o := { dst := _, op := _, type := _, pos := _, after := _, guard := some (17, true) }) (fun K Q' hK => ?_); go_simp; refine hK _ _ ?_; clear hK K; try clear Q')) | skip
      -- stops at: eff:call (Go.Op.call {'callee': (Go.Callee.value (Go.Operand.func 18)), 'args': [(Go.Operand.tmp 67), (Go.Operand.tmp 68)], 'argTypes': [22, 22]}) slot 69
      refine wpList_stepQ (fun K Q' hK => ?_); go_simp
      refine (rsame_ok _ _ _ _ _ _ (by simp only [sortE_length]; omega) (by simp only [sortE_length]; omega) h24.fits dDv_22 dSq_22).mono ?_
      rintro e wE4 ⟨rfl, hkE4⟩
      rw [decide_eq_true (rfl)]
      have h25 := h24.callk hkE4
      refine hK _ _ ?_; clear hK K; try clear Q'
      iterate 2 (refine wpList_plainQ rfl (fun K Q' hK => ?_); go_simp; refine hK _ _ ?_; clear hK K; try clear Q')
      have c_2_0 := h25.cell 2 rfl 0 rfl
      first | go_skip | (iterate 1 (refine wpList_stepQ (o := { dst := _, op := _, type := _, pos := _, after := _, guard := some (22, true) }) (fun K Q' hK => ?_); go_simp; refine hK _ _ ?_; clear hK K; try clear Q')) | skip
      clear c_2_0
      -- stops at: eff:call (Go.Op.call {'callee': (Go.Callee.value (Go.Operand.func 20)), 'args': [(Go.Operand.tmp 72)], 'argTypes': [26]}) slot 73
      refine wpList_stepQ (fun K Q' hK => ?_); go_simp
      refine (hsize_ok h25.fits (by omega) hXz_22).mono ?_
      rintro e wZ1 ⟨HZ1, rfl, hpZ1⟩
      rw [sXz]
      have h26 := h25.call0 hpZ1
      have htab_26 := htab_22.mono hpZ1.le
      have ha_26 := ha_22.mono hpZ1.le
      have hb_26 := hb_22.mono hpZ1.le
      have hXx_26 := hXx_22.mono hpZ1.le
      have hXy_26 := hXy_22.mono hpZ1.le
      have hXz_26 := hXz_22.mono hpZ1.le
      have hXt_26 := hXt_22.mono hpZ1.le
      have dSp_26 := dSp_22.mono hpZ1.le
      have dSq_26 := dSq_22.mono hpZ1.le
      have dDs_26 := dDs_22.mono hpZ1.le
      have dDt_26 := dDt_22.mono hpZ1.le
      have dDu_26 := dDu_22.mono hpZ1.le
      have dDv_26 := dDv_22.mono hpZ1.le
      have dSu_26 := dSu_22.mono hpZ1.le
      have dSv_26 := dSv.mono hpZ1.le
      refine hK _ _ ?_; clear hK K; try clear Q'
      first | go_skip | (iterate 6 (refine wpList_stepQ (o := { dst := _, op := _, type := _, pos := _, after := _, guard := some (22, true) }) (fun K Q' hK => ?_); go_simp; refine hK _ _ ?_; clear hK K; try clear Q')) | skip
      iterate 2 (refine wpList_plainQ rfl (fun K Q' hK => ?_); go_simp; refine hK _ _ ?_; clear hK K; try clear Q')
      have c_3_0 := h26.cell 3 rfl 0 rfl
      first | go_skip | (iterate 1 (refine wpList_stepQ (o := { dst := _, op := _, type := _, pos := _, after := _, guard := some (32, true) }) (fun K Q' hK => ?_); go_simp; refine hK _ _ ?_; clear hK K; try clear Q')) | skip
      clear c_3_0
      -- stops at: eff:call (Go.Op.call {'callee': (Go.Callee.value (Go.Operand.func 20)), 'args': [(Go.Operand.tmp 82)], 'argTypes': [26]}) slot 83
      refine wpList_stepQ (fun K Q' hK => ?_); go_simp
      refine (hsize_ok h26.fits (by omega) hXt_26).mono ?_
      rintro e wZ2 ⟨HZ2, rfl, hpZ2⟩
      rw [sXt]
      have h27 := h26.call0 hpZ2
      have htab_27 := htab_26.mono hpZ2.le
      have ha_27 := ha_26.mono hpZ2.le
      have hb_27 := hb_26.mono hpZ2.le
      have hXx_27 := hXx_26.mono hpZ2.le
      have hXy_27 := hXy_26.mono hpZ2.le
      have hXz_27 := hXz_26.mono hpZ2.le
      have hXt_27 := hXt_26.mono hpZ2.le
      have dSp_27 := dSp_26.mono hpZ2.le
      have dSq_27 := dSq_26.mono hpZ2.le
      have dDs_27 := dDs_26.mono hpZ2.le
      have dDt_27 := dDt_26.mono hpZ2.le
      have dDu_27 := dDu_26.mono hpZ2.le
      have dDv_27 := dDv_26.mono hpZ2.le
      have dSu_27 := dSu_26.mono hpZ2.le
      have dSv_27 := dSv_26.mono hpZ2.le
      refine hK _ _ ?_; clear hK K; try clear Q'
      first | go_skip | (iterate 4 (refine wpList_stepQ (o := { dst := _, op := _, type := _, pos := _, after := _, guard := some (32, true) }) (fun K Q' hK => ?_); go_simp; refine hK _ _ ?_; clear hK K; try clear Q')) | skip
      iterate 2 (refine wpList_plainQ rfl (fun K Q' hK => ?_); go_simp; refine hK _ _ ?_; clear hK K; try clear Q')
      refine wpList_nil ?_
      show Code.wp _ _ _ _ _
      -- stops at: ret
      refine wp_ret ?_
      go_ret
      exact ⟨rfl, h27.post.keep⟩
    · have hl2 : decide ((60 : Int) < (b.length : Int)) = true := by simp; omega
      go_enter Tryd.func3, Tryd.ntmps3
      have h0 := St.start hpre
      refine wp_seq ?_
      repeat (first | simp only [List.nil_append] at h0 | simp only [List.cons_append] at h0 | simp only [List.set_cons_zero] at h0 | simp only [List.set_cons_succ] at h0 | simp only [List.eraseIdx_zero] at h0 | simp only [List.tail_cons] at h0 | simp only [List.eraseIdx_cons_zero] at h0 | simp only [List.eraseIdx_cons_succ] at h0 | simp only [List.setIfInBounds_toArray] at h0)
      refine wp_region_lit ?_
      iterate 1 (refine wpList_plainQ rfl (fun K Q' hK => ?_); go_simp; refine hK _ _ ?_; clear hK K; try clear Q')
      refine wpList_nil ?_
      show Code.wp _ _ _ _ _
      refine wp_seq ?_
      refine wp_region_lit ?_
      -- stops at: eff:call (Go.Op.call {'callee': (Go.Callee.value (Go.Operand.func 13)), 'args': [], 'argTypes': []}) slot 16
      refine wpList_plainQ rfl (fun K Q' hK => ?_); go_simp
      refine (awake_ok H _ h0.fits htab).mono ?_
      rintro e wAw ⟨HAw, rfl, hpAw⟩
      have h1 := h0.call0 hpAw
      have htab_1 := htab.mono hpAw.le
      refine hK _ _ ?_; clear hK K; try clear Q'
      iterate 1 (refine wpList_plainQ rfl (fun K Q' hK => ?_); go_simp; refine hK _ _ ?_; clear hK K; try clear Q')
      refine wpList_nil ?_
      show Code.wp _ _ _ _ _
      refine wp_seq ?_
      refine wp_seq ?_
      repeat (first | simp only [List.nil_append] at h1 | simp only [List.cons_append] at h1 | simp only [List.set_cons_zero] at h1 | simp only [List.set_cons_succ] at h1 | simp only [List.eraseIdx_zero] at h1 | simp only [List.tail_cons] at h1 | simp only [List.eraseIdx_cons_zero] at h1 | simp only [List.eraseIdx_cons_succ] at h1 | simp only [List.setIfInBounds_toArray] at h1)
      refine wp_region_lit ?_
      iterate 2 (refine wpList_plainQ rfl (fun K Q' hK => ?_); go_simp; refine hK _ _ ?_; clear hK K; try clear Q')
      refine wpList_nil ?_
      show Code.wp _ _ _ _ _
      -- stops at: cond
      refine wp_cond_false (rfl) ?_
      refine wp_skip ?_
      show Code.wp _ _ _ _ _
      refine wp_seq ?_
      refine wp_seq ?_
      refine wp_region_lit ?_
      iterate 4 (refine wpList_plainQ rfl (fun K Q' hK => ?_); go_simp; refine hK _ _ ?_; clear hK K; try clear Q')
      first | go_skip | (iterate 3 (refine wpList_stepQ (o := { dst := _, op := _, type := _, pos := _, after := _, guard := some (3, false) }) (fun K Q' hK => ?_); go_simp; refine hK _ _ ?_; clear hK K; try clear Q')) | skip
      iterate 1 (refine wpList_plainQ rfl (fun K Q' hK => ?_); go_simp; refine hK _ _ ?_; clear hK K; try clear Q')
      refine wpList_nil ?_
      show Code.wp _ _ _ _ _
      -- stops at: cond
      refine wp_cond_true (rfl) ?_
      refine wp_seq ?_
      refine wp_region_lit ?_
      iterate 1 (refine wpList_plainQ rfl (fun K Q' hK => ?_); go_simp; refine hK _ _ ?_; clear hK K; try clear Q')
      refine wpList_nil ?_
      show Code.wp _ _ _ _ _
      -- stops at: ret
      refine wp_ret ?_
      go_ret
      exact ⟨rfl, h1.post.keep⟩
  · have hl1 : decide ((60 : Int) < (a.length : Int)) = true := by simp; omega
    go_enter Tryd.func3, Tryd.ntmps3
    have h0 := St.start hpre
    refine wp_seq ?_
    repeat (first | simp only [List.nil_append] at h0 | simp only [List.cons_append] at h0 | simp only [List.set_cons_zero] at h0 | simp only [List.set_cons_succ] at h0 | simp only [List.eraseIdx_zero] at h0 | simp only [List.tail_cons] at h0 | simp only [List.eraseIdx_cons_zero] at h0 | simp only [List.eraseIdx_cons_succ] at h0 | simp only [List.setIfInBounds_toArray] at h0)
    refine wp_region_lit ?_
    iterate 1 (refine wpList_plainQ rfl (fun K Q' hK => ?_); go_simp; refine hK _ _ ?_; clear hK K; try clear Q')
    refine wpList_nil ?_
    show Code.wp _ _ _ _ _
    refine wp_seq ?_
    refine wp_region_lit ?_
    -- stops at: eff:call (Go.Op.call {'callee': (Go.Callee.value (Go.Operand.func 13)), 'args': [], 'argTypes': []}) slot 16
    refine wpList_plainQ rfl (fun K Q' hK => ?_); go_simp
    refine (awake_ok H _ h0.fits htab).mono ?_
    rintro e wAw ⟨HAw, rfl, hpAw⟩
    have h1 := h0.call0 hpAw
    have htab_1 := htab.mono hpAw.le
    refine hK _ _ ?_; clear hK K; try clear Q'
    iterate 1 (refine wpList_plainQ rfl (fun K Q' hK => ?_); go_simp; refine hK _ _ ?_; clear hK K; try clear Q')
    refine wpList_nil ?_
    show Code.wp _ _ _ _ _
    refine wp_seq ?_
    refine wp_seq ?_
    repeat (first | simp only [List.nil_append] at h1 | simp only [List.cons_append] at h1 | simp only [List.set_cons_zero] at h1 | simp only [List.set_cons_succ] at h1 | simp only [List.eraseIdx_zero] at h1 | simp only [List.tail_cons] at h1 | simp only [List.eraseIdx_cons_zero] at h1 | simp only [List.eraseIdx_cons_succ] at h1 | simp only [List.setIfInBounds_toArray] at h1)
    refine wp_region_lit ?_
    iterate 2 (refine wpList_plainQ rfl (fun K Q' hK => ?_); go_simp; refine hK _ _ ?_; clear hK K; try clear Q')
    refine wpList_nil ?_
    show Code.wp _ _ _ _ _
    -- stops at: cond
    refine wp_cond_false (rfl) ?_
    refine wp_skip ?_
    show Code.wp _ _ _ _ _
    refine wp_seq ?_
    refine wp_seq ?_
    refine wp_region_lit ?_
    iterate 4 (refine wpList_plainQ rfl (fun K Q' hK => ?_); go_simp; refine hK _ _ ?_; clear hK K; try clear Q')
    first | go_skip | (iterate 3 (refine wpList_stepQ (o := { dst := _, op := _, type := _, pos := _, after := _, guard := some (3, false) }) (fun K Q' hK => ?_); go_simp; refine hK _ _ ?_; clear hK K; try clear Q')) | skip
    iterate 1 (refine wpList_plainQ rfl (fun K Q' hK => ?_); go_simp; refine hK _ _ ?_; clear hK K; try clear Q')
    refine wpList_nil ?_
    show Code.wp _ _ _ _ _
    -- stops at: cond
    refine wp_cond_true (rfl) ?_
    refine wp_seq ?_
    refine wp_region_lit ?_
    iterate 1 (refine wpList_plainQ rfl (fun K Q' hK => ?_); go_simp; refine hK _ _ ?_; clear hK K; try clear Q')
    refine wpList_nil ?_
    show Code.wp _ _ _ _ _
    -- stops at: ret
    refine wp_ret ?_
    go_ret
    exact ⟨rfl, h1.post.keep⟩
end Go.Proofs.YtceamdacacacjaaDoor
