/-
Commutes: its walk.
-/
import Derived.Test.YtceamdacacacjaaDoorQbAwake
namespace Go.Proofs.YtceamdacacacjaaDoor
open Go Go.RowKit
set_option linter.unusedVariables false

set_option maxRecDepth 100000 in
set_option maxHeartbeats 16000000 in
theorem commutes_walk (H : GH) (w : World) (v : Value) (a : List El) (u : Value) (b : List El) (t : Value) (c : List El) (hf : Fits w H) (htab : TabH H) (ha : ElRep H v a) (fa : ∀ x ∈ a, El.fits x) (hb : ElRep H u b) (fb : ∀ x ∈ b, El.fits x) (hc : ElRep H t c) (fc : ∀ x ∈ c, El.fits x) :
    Calls Tryd.prog 5 #[v, u, t] w fun e w' => e = .returned (.bool true) ∧ Keep none w w' := by
  have hpre : Pre w H none 0 0 := Pre.none hf 0 0
  obtain ⟨aa, ca, rfl, _, _⟩ := ha.nil_or
  obtain ⟨ab, cb, rfl, _, _⟩ := hb.nil_or
  obtain ⟨ac, cc, rfl, _, _⟩ := hc.nil_or
  by_cases hl : a.length ≤ 30
  · have hl1 : decide ((30 : Int) < (a.length : Int)) = false := by simp; omega
    by_cases hm : b.length ≤ 30
    · have hl2 : decide ((30 : Int) < (b.length : Int)) = false := by simp; omega
      by_cases hn : c.length ≤ 30
      · have hl3 : decide ((30 : Int) < (c.length : Int)) = false := by simp; omega
        have e1 : IntKind.i64.wrap ((a.length : Int) + (b.length : Int)) = (a.length : Int) + (b.length : Int) := IntWalk.i64_in _ (by omega)
        have e2 : IntKind.i64.wrap ((a.length : Int) + (b.length : Int) + (c.length : Int)) = (a.length : Int) + (b.length : Int) + (c.length : Int) := IntWalk.i64_in _ (by omega)
        go_enter Tryd.func5, Tryd.ntmps5
        have h0 := St.start hpre
        refine wp_seq ?_
        repeat (first | simp only [List.nil_append] at h0 | simp only [List.cons_append] at h0 | simp only [List.set_cons_zero] at h0 | simp only [List.set_cons_succ] at h0 | simp only [List.eraseIdx_zero] at h0 | simp only [List.tail_cons] at h0 | simp only [List.eraseIdx_cons_zero] at h0 | simp only [List.eraseIdx_cons_succ] at h0 | simp only [List.setIfInBounds_toArray] at h0)
        refine wp_region_lit ?_
        iterate 1 (refine wpList_plainQ rfl (fun K Q' hK => ?_); go_simp; refine hK _ _ ?_; clear hK K; try clear Q')
        refine wpList_nil ?_
        show Code.wp _ _ _ _ _
        refine wp_seq ?_
        refine wp_region_lit ?_
        -- stops at: eff:call (Go.Op.call {'callee': (Go.Callee.value (Go.Operand.func 13)), 'args': [], 'argTypes': []}) slot 16
        refine wpList_plainQ rfl (fun K Q' hK => ?_); go_simp
        refine (awake_ok H _ h0.fits htab).mono ?_
        rintro e wAw ⟨HAw, rfl, hpAw⟩
        have h1 := h0.call0 hpAw
        have htab_1 := htab.mono hpAw.le
        have ha_1 := ha.mono hpAw.le
        have hb_1 := hb.mono hpAw.le
        have hc_1 := hc.mono hpAw.le
        refine hK _ _ ?_; clear hK K; try clear Q'
        iterate 1 (refine wpList_plainQ rfl (fun K Q' hK => ?_); go_simp; refine hK _ _ ?_; clear hK K; try clear Q')
        refine wpList_nil ?_
        show Code.wp _ _ _ _ _
        refine wp_seq ?_
        refine wp_seq ?_
        repeat (first | simp only [List.nil_append] at h1 | simp only [List.cons_append] at h1 | simp only [List.set_cons_zero] at h1 | simp only [List.set_cons_succ] at h1 | simp only [List.eraseIdx_zero] at h1 | simp only [List.tail_cons] at h1 | simp only [List.eraseIdx_cons_zero] at h1 | simp only [List.eraseIdx_cons_succ] at h1 | simp only [List.setIfInBounds_toArray] at h1)
        refine wp_region_lit ?_
        iterate 2 (refine wpList_plainQ rfl (fun K Q' hK => ?_); go_simp; refine hK _ _ ?_; clear hK K; try clear Q')
        refine wpList_nil ?_
        show Code.wp _ _ _ _ _
        -- stops at: cond
        refine wp_cond_false (rfl) ?_
        refine wp_skip ?_
        show Code.wp _ _ _ _ _
        refine wp_seq ?_
        refine wp_seq ?_
        refine wp_region_lit ?_
        iterate 4 (refine wpList_plainQ rfl (fun K Q' hK => ?_); go_simp; refine hK _ _ ?_; clear hK K; try clear Q')
        first | go_skip | (iterate 3 (refine wpList_stepQ (o := { dst := _, op := _, type := _, pos := _, after := _, guard := some (3, false) }) (fun K Q' hK => ?_); go_simp; refine hK _ _ ?_; clear hK K; try clear Q')) | skip
        iterate 2 (refine wpList_plainQ rfl (fun K Q' hK => ?_); go_simp; refine hK _ _ ?_; clear hK K; try clear Q')
        first | go_skip | (iterate 3 (refine wpList_stepQ (o := { dst := _, op := _, type := _, pos := _, after := _, guard := some (8, false) }) (fun K Q' hK => ?_); go_simp; refine hK _ _ ?_; clear hK K; try clear Q')) | skip
        iterate 1 (refine wpList_plainQ rfl (fun K Q' hK => ?_); go_simp; refine hK _ _ ?_; clear hK K; try clear Q')
        refine wpList_nil ?_
        show Code.wp _ _ _ _ _
        -- stops at: cond
        refine wp_cond_false (rfl) ?_
        refine wp_skip ?_
        show Code.wp _ _ _ _ _
        refine wp_seq ?_
        refine wp_region_lit ?_
        iterate 1 (refine wpList_plainQ rfl (fun K Q' hK => ?_); go_simp; refine hK _ _ ?_; clear hK K; try clear Q')
        -- stops at: eff:call (Go.Op.call {'callee': (Go.Callee.value (Go.Operand.func 14)), 'args': [(Go.Operand.const (Go.Value.pointer none)), (Go.Operand.tmp 32)], 'argTypes': [36, 22]}) slot 33
        refine wpList_plainQ rfl (fun K Q' hK => ?_); go_simp
        refine (hof_ok (m := none) (xs := a) fa h1.pre (by omega) ha_1).mono ?_
        rintro e wXx ⟨rXx, HXx, rfl, hpXx, hXx⟩
        obtain ⟨Xx, eXx⟩ : ∃ hp0, Hid (Hp.ofL a = hp0) := ⟨_, show _ = _ from rfl⟩
        rw [eXx.out] at hXx
        have oXx := hXx.ok
        have pXx : Hid ((Hp.els Xx).Perm (a)) := by rw [← eXx.out]; exact Hp.els_ofL _
        have sXx : Hp.size Xx = (a).length := pXx.out.length_eq
        have h2 := h1.call0 hpXx
        have htab_2 := htab_1.mono hpXx.le
        have ha_2 := ha_1.mono hpXx.le
        have hb_2 := hb_1.mono hpXx.le
        have hc_2 := hc_1.mono hpXx.le
        refine hK _ _ ?_; clear hK K; try clear Q'
        refine wpList_plainQ rfl (fun K Q' hK => ?_); go_simp
        refine h2.k_alloc (fun w3 h3 => ?_)
        refine hK _ _ ?_; clear hK K; try clear Q'
        have c_0 := h3.cell 0 rfl 0 rfl
        have f_0 := h3.free 0 rfl 0
        refine wpList_plainQ rfl (fun K Q' hK => ?_); go_simp
        clear c_0 f_0
        refine h3.k_set 0 rfl (fun w4 h4 => ?_)
        refine hK _ _ ?_; clear hK K; try clear Q'
        refine wpList_nil ?_
        show Code.wp _ _ _ _ _
        refine wp_seq ?_
        repeat (first | simp only [List.nil_append] at h4 | simp only [List.cons_append] at h4 | simp only [List.set_cons_zero] at h4 | simp only [List.set_cons_succ] at h4 | simp only [List.eraseIdx_zero] at h4 | simp only [List.tail_cons] at h4 | simp only [List.eraseIdx_cons_zero] at h4 | simp only [List.eraseIdx_cons_succ] at h4 | simp only [List.setIfInBounds_toArray] at h4)
        refine wp_region_lit ?_
        iterate 1 (refine wpList_plainQ rfl (fun K Q' hK => ?_); go_simp; refine hK _ _ ?_; clear hK K; try clear Q')
        -- stops at: eff:call (Go.Op.call {'callee': (Go.Callee.value (Go.Operand.func 14)), 'args': [(Go.Operand.const (Go.Value.pointer none)), (Go.Operand.tmp 34)], 'argTypes': [36, 22]}) slot 35
        refine wpList_plainQ rfl (fun K Q' hK => ?_); go_simp
        refine (hof_ok (m := none) (xs := b) fb h4.pre (by omega) hb_2).mono ?_
        rintro e wXy ⟨rXy, HXy, rfl, hpXy, hXy⟩
        obtain ⟨Xy, eXy⟩ : ∃ hp0, Hid (Hp.ofL b = hp0) := ⟨_, show _ = _ from rfl⟩
        rw [eXy.out] at hXy
        have oXy := hXy.ok
        have pXy : Hid ((Hp.els Xy).Perm (b)) := by rw [← eXy.out]; exact Hp.els_ofL _
        have sXy : Hp.size Xy = (b).length := pXy.out.length_eq
        have h5 := h4.call0 hpXy
        have htab_5 := htab_2.mono hpXy.le
        have ha_5 := ha_2.mono hpXy.le
        have hb_5 := hb_2.mono hpXy.le
        have hc_5 := hc_2.mono hpXy.le
        have hXx_5 := hXx.mono hpXy.le
        refine hK _ _ ?_; clear hK K; try clear Q'
        refine wpList_plainQ rfl (fun K Q' hK => ?_); go_simp
        refine h5.k_alloc (fun w6 h6 => ?_)
        refine hK _ _ ?_; clear hK K; try clear Q'
        have c_0 := h6.cell 1 rfl 0 rfl
        have f_0 := h6.free 1 rfl 0
        refine wpList_plainQ rfl (fun K Q' hK => ?_); go_simp
        clear c_0 f_0
        refine h6.k_set 1 rfl (fun w7 h7 => ?_)
        refine hK _ _ ?_; clear hK K; try clear Q'
        refine wpList_nil ?_
        show Code.wp _ _ _ _ _
        refine wp_seq ?_
        repeat (first | simp only [List.nil_append] at h7 | simp only [List.cons_append] at h7 | simp only [List.set_cons_zero] at h7 | simp only [List.set_cons_succ] at h7 | simp only [List.eraseIdx_zero] at h7 | simp only [List.tail_cons] at h7 | simp only [List.eraseIdx_cons_zero] at h7 | simp only [List.eraseIdx_cons_succ] at h7 | simp only [List.setIfInBounds_toArray] at h7)
        refine wp_region_lit ?_
        iterate 1 (refine wpList_plainQ rfl (fun K Q' hK => ?_); go_simp; refine hK _ _ ?_; clear hK K; try clear Q')
        -- stops at: eff:call (Go.Op.call {'callee': (Go.Callee.value (Go.Operand.func 14)), 'args': [(Go.Operand.const (Go.Value.pointer none)), (Go.Operand.tmp 36)], 'argTypes': [36, 22]}) slot 37
        refine wpList_plainQ rfl (fun K Q' hK => ?_); go_simp
        refine (hof_ok (m := none) (xs := c) fc h7.pre (by omega) hc_5).mono ?_
        rintro e wXz ⟨rXz, HXz, rfl, hpXz, hXz⟩
        obtain ⟨Xz, eXz⟩ : ∃ hp0, Hid (Hp.ofL c = hp0) := ⟨_, show _ = _ from rfl⟩
        rw [eXz.out] at hXz
        have oXz := hXz.ok
        have pXz : Hid ((Hp.els Xz).Perm (c)) := by rw [← eXz.out]; exact Hp.els_ofL _
        have sXz : Hp.size Xz = (c).length := pXz.out.length_eq
        have h8 := h7.call0 hpXz
        have htab_8 := htab_5.mono hpXz.le
        have ha_8 := ha_5.mono hpXz.le
        have hb_8 := hb_5.mono hpXz.le
        have hc_8 := hc_5.mono hpXz.le
        have hXx_8 := hXx_5.mono hpXz.le
        have hXy_8 := hXy.mono hpXz.le
        refine hK _ _ ?_; clear hK K; try clear Q'
        refine wpList_plainQ rfl (fun K Q' hK => ?_); go_simp
        refine h8.k_alloc (fun w9 h9 => ?_)
        refine hK _ _ ?_; clear hK K; try clear Q'
        have c_0 := h9.cell 2 rfl 0 rfl
        have f_0 := h9.free 2 rfl 0
        refine wpList_plainQ rfl (fun K Q' hK => ?_); go_simp
        clear c_0 f_0
        refine h9.k_set 2 rfl (fun w10 h10 => ?_)
        refine hK _ _ ?_; clear hK K; try clear Q'
        refine wpList_nil ?_
        show Code.wp _ _ _ _ _
        refine wp_seq ?_
        repeat (first | simp only [List.nil_append] at h10 | simp only [List.cons_append] at h10 | simp only [List.set_cons_zero] at h10 | simp only [List.set_cons_succ] at h10 | simp only [List.eraseIdx_zero] at h10 | simp only [List.tail_cons] at h10 | simp only [List.eraseIdx_cons_zero] at h10 | simp only [List.eraseIdx_cons_succ] at h10 | simp only [List.setIfInBounds_toArray] at h10)
        refine h10.region [0, 1, 2] [(0, true), (1, true), (3, true), (2, false), (4, false), (5, false), (6, true)] (by kernel_rfl) (by kernel_rfl) (fun w11 h11 => ?_)
        refine wpOrd_hide (fun _ _ d _ _ h => by cases d <;> exact h) (fun QR hQn hQp => ?_)
        simp only [ordOps, List.map_cons, List.map_nil, List.getD_cons_zero, List.getD_cons_succ]
        iterate 3 (refine wpOrd_quiet (v := ?_) rfl (fun _ _ _ => hQp _ _ _ _ _) ?_ ?_; rotate_left; (intro w' hS; have c_0_0 := hS.cell 0 rfl 0 rfl; have c_1_0 := hS.cell 1 rfl 0 rfl; have c_2_0 := hS.cell 2 rfl 0 rfl; (first | (go_simp; done) | (go_simp; with_reducible rfl))); simp only [Act.put, List.setIfInBounds_toArray, List.set_cons_zero, List.set_cons_succ])
        -- stops at: eff:call (Go.Op.call {'callee': (Go.Callee.value (Go.Operand.func 15)), 'args': [(Go.Operand.tmp 38), (Go.Operand.const (Go.Value.pointer none)), (Go.Operand.tmp 39)], ' slot 40
        refine wpOrd_effQ rfl (fun K Q' hK => ?_); go_simp
        refine (hmeld_ok (m := none) h11.pre (by omega) hXx_8 hXy_8).mono ?_
        rintro e wM1 ⟨rM1, HM1, rfl, hpM1, hM1⟩
        obtain ⟨M1, eM1⟩ : ∃ hp0, Hid (Hp.meld Xx Xy = hp0) := ⟨_, show _ = _ from rfl⟩
        rw [eM1.out] at hM1
        have oM1 := hM1.ok
        have pM1 : Hid ((Hp.els M1).Perm (a ++ b)) := by
          rw [← eM1.out]
          exact (Hp.els_meld oXx oXy).trans (pXx.out.append pXy.out)
        have sM1 : Hp.size M1 = a.length + b.length := by
          rw [Hp.size_eq, pM1.out.length_eq]; simp; try omega
        have h12 := h11.call0 hpM1
        have htab_12 := htab_8.mono hpM1.le
        have ha_12 := ha_8.mono hpM1.le
        have hb_12 := hb_8.mono hpM1.le
        have hc_12 := hc_8.mono hpM1.le
        have hXx_12 := hXx_8.mono hpM1.le
        have hXy_12 := hXy_8.mono hpM1.le
        have hXz_12 := hXz.mono hpM1.le
        refine hK _ _ (h12.sat' hpM1.le [0, 1, 2] (by kernel_rfl)) ?_; clear hK K; try clear Q'
        -- stops at: eff:call (Go.Op.call {'callee': (Go.Callee.value (Go.Operand.func 15)), 'args': [(Go.Operand.tmp 40), (Go.Operand.const (Go.Value.pointer none)), (Go.Operand.tmp 41)], ' slot 42
        refine wpOrd_effQ rfl (fun K Q' hK => ?_); go_simp
        refine (hmeld_ok (m := none) h12.pre (by omega) hM1 hXz_12).mono ?_
        rintro e wM2 ⟨rM2, HM2, rfl, hpM2, hM2⟩
        obtain ⟨M2, eM2⟩ : ∃ hp0, Hid (Hp.meld M1 Xz = hp0) := ⟨_, show _ = _ from rfl⟩
        rw [eM2.out] at hM2
        have oM2 := hM2.ok
        have pM2 : Hid ((Hp.els M2).Perm ((a ++ b) ++ c)) := by
          rw [← eM2.out]
          exact (Hp.els_meld oM1 oXz).trans (pM1.out.append pXz.out)
        have sM2 : Hp.size M2 = a.length + b.length + c.length := by
          rw [Hp.size_eq, pM2.out.length_eq]; simp; try omega
        have h13 := h12.call0 hpM2
        have htab_13 := htab_12.mono hpM2.le
        have ha_13 := ha_12.mono hpM2.le
        have hb_13 := hb_12.mono hpM2.le
        have hc_13 := hc_12.mono hpM2.le
        have hXx_13 := hXx_12.mono hpM2.le
        have hXy_13 := hXy_12.mono hpM2.le
        have hXz_13 := hXz_12.mono hpM2.le
        have hM1_13 := hM1.mono hpM2.le
        refine hK _ _ (h13.sat' (GH.le.trans hpM1.le hpM2.le) [0, 1, 2] (by kernel_rfl)) ?_; clear hK K; try clear Q'
        -- stops at: eff:call (Go.Op.call {'callee': (Go.Callee.value (Go.Operand.func 17)), 'args': [(Go.Operand.tmp 42), (Go.Operand.const (Go.Value.int Go.IntKind.i64 200))], 'argTypes':  slot 43
        refine wpOrd_effQ rfl (fun K Q' hK => ?_); go_simp
        refine (drain_ok _ _ _ M2 200 (by omega) (by omega) h13.fits hM2).mono ?_
        rintro e wDp ⟨vDp, HDp, rfl, hpDp, dDp⟩
        rw [drainL_all 200 M2 oM2 (by omega), sortE_congr pM2.out] at dDp
        have h14 := h13.call0 hpDp
        have htab_14 := htab_13.mono hpDp.le
        have ha_14 := ha_13.mono hpDp.le
        have hb_14 := hb_13.mono hpDp.le
        have hc_14 := hc_13.mono hpDp.le
        have hXx_14 := hXx_13.mono hpDp.le
        have hXy_14 := hXy_13.mono hpDp.le
        have hXz_14 := hXz_13.mono hpDp.le
        have hM1_14 := hM1_13.mono hpDp.le
        have hM2_14 := hM2.mono hpDp.le
        refine hK _ _ (h14.sat' (GH.le.trans (GH.le.trans hpM1.le hpM2.le) hpDp.le) [0, 1, 2] (by kernel_rfl)) ?_; clear hK K; try clear Q'
        iterate 1 (refine wpOrd_quiet (v := ?_) rfl (fun _ _ _ => hQp _ _ _ _ _) ?_ ?_; rotate_left; (intro w' hS; (first | (go_simp; done) | (go_simp; with_reducible rfl))); simp only [Act.put, List.setIfInBounds_toArray, List.set_cons_zero, List.set_cons_succ])
        refine wpOrd_nil (hQn _ _ ?_); clear hQn hQp QR
        show Code.wp _ _ _ _ _
        refine wp_seq ?_
        repeat (first | simp only [List.nil_append] at h14 | simp only [List.cons_append] at h14 | simp only [List.set_cons_zero] at h14 | simp only [List.set_cons_succ] at h14 | simp only [List.eraseIdx_zero] at h14 | simp only [List.tail_cons] at h14 | simp only [List.eraseIdx_cons_zero] at h14 | simp only [List.eraseIdx_cons_succ] at h14 | simp only [List.setIfInBounds_toArray] at h14)
        refine h14.region [0, 1, 2] [(0, true), (1, true), (2, true), (3, false), (4, false), (5, false), (6, true)] (by kernel_rfl) (by kernel_rfl) (fun w15 h15 => ?_)
        refine wpOrd_hide (fun _ _ d _ _ h => by cases d <;> exact h) (fun QR hQn hQp => ?_)
        simp only [ordOps, List.map_cons, List.map_nil, List.getD_cons_zero, List.getD_cons_succ]
        iterate 3 (refine wpOrd_quiet (v := ?_) rfl (fun _ _ _ => hQp _ _ _ _ _) ?_ ?_; rotate_left; (intro w' hS; have c_0_0 := hS.cell 0 rfl 0 rfl; have c_1_0 := hS.cell 1 rfl 0 rfl; have c_2_0 := hS.cell 2 rfl 0 rfl; (first | (go_simp; done) | (go_simp; with_reducible rfl))); simp only [Act.put, List.setIfInBounds_toArray, List.set_cons_zero, List.set_cons_succ])
        -- stops at: eff:call (Go.Op.call {'callee': (Go.Callee.value (Go.Operand.func 15)), 'args': [(Go.Operand.tmp 45), (Go.Operand.const (Go.Value.pointer none)), (Go.Operand.tmp 46)], ' slot 47
        have len1 : (sortE ((a ++ b) ++ c)).length = a.length + b.length + c.length := by rw [sortE_length]; simp; try omega
        obtain ⟨aDp, cDp, hvDp, _, _⟩ := dDp.nil_or
        rw [len1] at hvDp
        subst hvDp
        clear len1
        refine wpOrd_effQ rfl (fun K Q' hK => ?_); go_simp
        refine (hmeld_ok (m := none) h15.pre (by omega) hXy_14 hXz_14).mono ?_
        rintro e wM3 ⟨rM3, HM3, rfl, hpM3, hM3⟩
        obtain ⟨M3, eM3⟩ : ∃ hp0, Hid (Hp.meld Xy Xz = hp0) := ⟨_, show _ = _ from rfl⟩
        rw [eM3.out] at hM3
        have oM3 := hM3.ok
        have pM3 : Hid ((Hp.els M3).Perm (b ++ c)) := by
          rw [← eM3.out]
          exact (Hp.els_meld oXy oXz).trans (pXy.out.append pXz.out)
        have sM3 : Hp.size M3 = b.length + c.length := by
          rw [Hp.size_eq, pM3.out.length_eq]; simp; try omega
        have h16 := h15.call0 hpM3
        have htab_16 := htab_14.mono hpM3.le
        have ha_16 := ha_14.mono hpM3.le
        have hb_16 := hb_14.mono hpM3.le
        have hc_16 := hc_14.mono hpM3.le
        have hXx_16 := hXx_14.mono hpM3.le
        have hXy_16 := hXy_14.mono hpM3.le
        have hXz_16 := hXz_14.mono hpM3.le
        have hM1_16 := hM1_14.mono hpM3.le
        have hM2_16 := hM2_14.mono hpM3.le
        have dDp_16 := dDp.mono hpM3.le
        refine hK _ _ (h16.sat' hpM3.le [0, 1, 2] (by kernel_rfl)) ?_; clear hK K; try clear Q'
        -- stops at: eff:call (Go.Op.call {'callee': (Go.Callee.value (Go.Operand.func 15)), 'args': [(Go.Operand.tmp 44), (Go.Operand.const (Go.Value.pointer none)), (Go.Operand.tmp 47)], ' slot 48
        refine wpOrd_effQ rfl (fun K Q' hK => ?_); go_simp
        refine (hmeld_ok (m := none) h16.pre (by omega) hXx_16 hM3).mono ?_
        rintro e wM4 ⟨rM4, HM4, rfl, hpM4, hM4⟩
        obtain ⟨M4, eM4⟩ : ∃ hp0, Hid (Hp.meld Xx M3 = hp0) := ⟨_, show _ = _ from rfl⟩
        rw [eM4.out] at hM4
        have oM4 := hM4.ok
        have pM4 : Hid ((Hp.els M4).Perm (a ++ (b ++ c))) := by
          rw [← eM4.out]
          exact (Hp.els_meld oXx oM3).trans (pXx.out.append pM3.out)
        have sM4 : Hp.size M4 = a.length + b.length + c.length := by
          rw [Hp.size_eq, pM4.out.length_eq]; simp; try omega
        have h17 := h16.call0 hpM4
        have htab_17 := htab_16.mono hpM4.le
        have ha_17 := ha_16.mono hpM4.le
        have hb_17 := hb_16.mono hpM4.le
        have hc_17 := hc_16.mono hpM4.le
        have hXx_17 := hXx_16.mono hpM4.le
        have hXy_17 := hXy_16.mono hpM4.le
        have hXz_17 := hXz_16.mono hpM4.le
        have hM1_17 := hM1_16.mono hpM4.le
        have hM2_17 := hM2_16.mono hpM4.le
        have dDp_17 := dDp_16.mono hpM4.le
        have hM3_17 := hM3.mono hpM4.le
        refine hK _ _ (h17.sat' (GH.le.trans hpM3.le hpM4.le) [0, 1, 2] (by kernel_rfl)) ?_; clear hK K; try clear Q'
        -- stops at: eff:call (Go.Op.call {'callee': (Go.Callee.value (Go.Operand.func 17)), 'args': [(Go.Operand.tmp 48), (Go.Operand.const (Go.Value.int Go.IntKind.i64 200))], 'argTypes':  slot 49
        refine wpOrd_effQ rfl (fun K Q' hK => ?_); go_simp
        refine (drain_ok _ _ _ M4 200 (by omega) (by omega) h17.fits hM4).mono ?_
        rintro e wDq ⟨vDq, HDq, rfl, hpDq, dDq⟩
        rw [drainL_all 200 M4 oM4 (by omega), sortE_congr pM4.out] at dDq
        have h18 := h17.call0 hpDq
        have htab_18 := htab_17.mono hpDq.le
        have ha_18 := ha_17.mono hpDq.le
        have hb_18 := hb_17.mono hpDq.le
        have hc_18 := hc_17.mono hpDq.le
        have hXx_18 := hXx_17.mono hpDq.le
        have hXy_18 := hXy_17.mono hpDq.le
        have hXz_18 := hXz_17.mono hpDq.le
        have hM1_18 := hM1_17.mono hpDq.le
        have hM2_18 := hM2_17.mono hpDq.le
        have dDp_18 := dDp_17.mono hpDq.le
        have hM3_18 := hM3_17.mono hpDq.le
        have hM4_18 := hM4.mono hpDq.le
        refine hK _ _ (h18.sat' (GH.le.trans (GH.le.trans hpM3.le hpM4.le) hpDq.le) [0, 1, 2] (by kernel_rfl)) ?_; clear hK K; try clear Q'
        iterate 1 (refine wpOrd_quiet (v := ?_) rfl (fun _ _ _ => hQp _ _ _ _ _) ?_ ?_; rotate_left; (intro w' hS; (first | (go_simp; done) | (go_simp; with_reducible rfl))); simp only [Act.put, List.setIfInBounds_toArray, List.set_cons_zero, List.set_cons_succ])
        refine wpOrd_nil (hQn _ _ ?_); clear hQn hQp QR
        show Code.wp _ _ _ _ _
        refine wp_seq ?_
        repeat (first | simp only [List.nil_append] at h18 | simp only [List.cons_append] at h18 | simp only [List.set_cons_zero] at h18 | simp only [List.set_cons_succ] at h18 | simp only [List.eraseIdx_zero] at h18 | simp only [List.tail_cons] at h18 | simp only [List.eraseIdx_cons_zero] at h18 | simp only [List.eraseIdx_cons_succ] at h18 | simp only [List.setIfInBounds_toArray] at h18)
        refine h18.region [0, 1, 2] [(0, true), (1, true), (3, true), (2, false), (4, false), (5, false), (6, true)] (by kernel_rfl) (by kernel_rfl) (fun w19 h19 => ?_)
        refine wpOrd_hide (fun _ _ d _ _ h => by cases d <;> exact h) (fun QR hQn hQp => ?_)
        simp only [ordOps, List.map_cons, List.map_nil, List.getD_cons_zero, List.getD_cons_succ]
        iterate 3 (refine wpOrd_quiet (v := ?_) rfl (fun _ _ _ => hQp _ _ _ _ _) ?_ ?_; rotate_left; (intro w' hS; have c_2_0 := hS.cell 2 rfl 0 rfl; have c_0_0 := hS.cell 0 rfl 0 rfl; have c_1_0 := hS.cell 1 rfl 0 rfl; (first | (go_simp; done) | (go_simp; with_reducible rfl))); simp only [Act.put, List.setIfInBounds_toArray, List.set_cons_zero, List.set_cons_succ])
        -- stops at: eff:call (Go.Op.call {'callee': (Go.Callee.value (Go.Operand.func 15)), 'args': [(Go.Operand.tmp 50), (Go.Operand.const (Go.Value.pointer none)), (Go.Operand.tmp 51)], ' slot 52
        refine wpOrd_effQ rfl (fun K Q' hK => ?_); go_simp
        refine (hmeld_ok (m := none) h19.pre (by omega) hXz_18 hXx_18).mono ?_
        rintro e wM5 ⟨rM5, HM5, rfl, hpM5, hM5⟩
        obtain ⟨M5, eM5⟩ : ∃ hp0, Hid (Hp.meld Xz Xx = hp0) := ⟨_, show _ = _ from rfl⟩
        rw [eM5.out] at hM5
        have oM5 := hM5.ok
        have pM5 : Hid ((Hp.els M5).Perm (c ++ a)) := by
          rw [← eM5.out]
          exact (Hp.els_meld oXz oXx).trans (pXz.out.append pXx.out)
        have sM5 : Hp.size M5 = c.length + a.length := by
          rw [Hp.size_eq, pM5.out.length_eq]; simp; try omega
        have h20 := h19.call0 hpM5
        have htab_20 := htab_18.mono hpM5.le
        have ha_20 := ha_18.mono hpM5.le
        have hb_20 := hb_18.mono hpM5.le
        have hc_20 := hc_18.mono hpM5.le
        have hXx_20 := hXx_18.mono hpM5.le
        have hXy_20 := hXy_18.mono hpM5.le
        have hXz_20 := hXz_18.mono hpM5.le
        have hM1_20 := hM1_18.mono hpM5.le
        have hM2_20 := hM2_18.mono hpM5.le
        have dDp_20 := dDp_18.mono hpM5.le
        have hM3_20 := hM3_18.mono hpM5.le
        have hM4_20 := hM4_18.mono hpM5.le
        have dDq_20 := dDq.mono hpM5.le
        refine hK _ _ (h20.sat' hpM5.le [0, 1, 2] (by kernel_rfl)) ?_; clear hK K; try clear Q'
        -- stops at: eff:call (Go.Op.call {'callee': (Go.Callee.value (Go.Operand.func 15)), 'args': [(Go.Operand.tmp 52), (Go.Operand.const (Go.Value.pointer none)), (Go.Operand.tmp 53)], ' slot 54
        refine wpOrd_effQ rfl (fun K Q' hK => ?_); go_simp
        refine (hmeld_ok (m := none) h20.pre (by omega) hM5 hXy_20).mono ?_
        rintro e wM6 ⟨rM6, HM6, rfl, hpM6, hM6⟩
        obtain ⟨M6, eM6⟩ : ∃ hp0, Hid (Hp.meld M5 Xy = hp0) := ⟨_, show _ = _ from rfl⟩
        rw [eM6.out] at hM6
        have oM6 := hM6.ok
        have pM6 : Hid ((Hp.els M6).Perm ((c ++ a) ++ b)) := by
          rw [← eM6.out]
          exact (Hp.els_meld oM5 oXy).trans (pM5.out.append pXy.out)
        have sM6 : Hp.size M6 = c.length + a.length + b.length := by
          rw [Hp.size_eq, pM6.out.length_eq]; simp; try omega
        have h21 := h20.call0 hpM6
        have htab_21 := htab_20.mono hpM6.le
        have ha_21 := ha_20.mono hpM6.le
        have hb_21 := hb_20.mono hpM6.le
        have hc_21 := hc_20.mono hpM6.le
        have hXx_21 := hXx_20.mono hpM6.le
        have hXy_21 := hXy_20.mono hpM6.le
        have hXz_21 := hXz_20.mono hpM6.le
        have hM1_21 := hM1_20.mono hpM6.le
        have hM2_21 := hM2_20.mono hpM6.le
        have dDp_21 := dDp_20.mono hpM6.le
        have hM3_21 := hM3_20.mono hpM6.le
        have hM4_21 := hM4_20.mono hpM6.le
        have dDq_21 := dDq_20.mono hpM6.le
        have hM5_21 := hM5.mono hpM6.le
        refine hK _ _ (h21.sat' (GH.le.trans hpM5.le hpM6.le) [0, 1, 2] (by kernel_rfl)) ?_; clear hK K; try clear Q'
        -- stops at: eff:call (Go.Op.call {'callee': (Go.Callee.value (Go.Operand.func 17)), 'args': [(Go.Operand.tmp 54), (Go.Operand.const (Go.Value.int Go.IntKind.i64 200))], 'argTypes':  slot 55
        refine wpOrd_effQ rfl (fun K Q' hK => ?_); go_simp
        refine (drain_ok _ _ _ M6 200 (by omega) (by omega) h21.fits hM6).mono ?_
        rintro e wDr ⟨vDr, HDr, rfl, hpDr, dDr⟩
        rw [drainL_all 200 M6 oM6 (by omega), sortE_congr pM6.out] at dDr
        have h22 := h21.call0 hpDr
        have htab_22 := htab_21.mono hpDr.le
        have ha_22 := ha_21.mono hpDr.le
        have hb_22 := hb_21.mono hpDr.le
        have hc_22 := hc_21.mono hpDr.le
        have hXx_22 := hXx_21.mono hpDr.le
        have hXy_22 := hXy_21.mono hpDr.le
        have hXz_22 := hXz_21.mono hpDr.le
        have hM1_22 := hM1_21.mono hpDr.le
        have hM2_22 := hM2_21.mono hpDr.le
        have dDp_22 := dDp_21.mono hpDr.le
        have hM3_22 := hM3_21.mono hpDr.le
        have hM4_22 := hM4_21.mono hpDr.le
        have dDq_22 := dDq_21.mono hpDr.le
        have hM5_22 := hM5_21.mono hpDr.le
        have hM6_22 := hM6.mono hpDr.le
        refine hK _ _ (h22.sat' (GH.le.trans (GH.le.trans hpM5.le hpM6.le) hpDr.le) [0, 1, 2] (by kernel_rfl)) ?_; clear hK K; try clear Q'
        iterate 1 (refine wpOrd_quiet (v := ?_) rfl (fun _ _ _ => hQp _ _ _ _ _) ?_ ?_; rotate_left; (intro w' hS; (first | (go_simp; done) | (go_simp; with_reducible rfl))); simp only [Act.put, List.setIfInBounds_toArray, List.set_cons_zero, List.set_cons_succ])
        refine wpOrd_nil (hQn _ _ ?_); clear hQn hQp QR
        show Code.wp _ _ _ _ _
        refine wp_seq ?_
        repeat (first | simp only [List.nil_append] at h22 | simp only [List.cons_append] at h22 | simp only [List.set_cons_zero] at h22 | simp only [List.set_cons_succ] at h22 | simp only [List.eraseIdx_zero] at h22 | simp only [List.tail_cons] at h22 | simp only [List.eraseIdx_cons_zero] at h22 | simp only [List.eraseIdx_cons_succ] at h22 | simp only [List.setIfInBounds_toArray] at h22)
        refine wp_region_lit ?_
        have c_1_0 := h22.cell 1 rfl 0 rfl
        have c_0_0 := h22.cell 0 rfl 0 rfl
        iterate 2 (refine wpList_plainQ rfl (fun K Q' hK => ?_); go_simp; refine hK _ _ ?_; clear hK K; try clear Q')
        clear c_1_0 c_0_0
        -- stops at: eff:call (Go.Op.call {'callee': (Go.Callee.value (Go.Operand.func 15)), 'args': [(Go.Operand.tmp 56), (Go.Operand.const (Go.Value.pointer none)), (Go.Operand.tmp 57)], ' slot 58
        refine wpList_plainQ rfl (fun K Q' hK => ?_); go_simp
        refine (hmeld_ok (m := none) h22.pre (by omega) hXy_22 hXx_22).mono ?_
        rintro e wM7 ⟨rM7, HM7, rfl, hpM7, hM7⟩
        obtain ⟨M7, eM7⟩ : ∃ hp0, Hid (Hp.meld Xy Xx = hp0) := ⟨_, show _ = _ from rfl⟩
        rw [eM7.out] at hM7
        have oM7 := hM7.ok
        have pM7 : Hid ((Hp.els M7).Perm (b ++ a)) := by
          rw [← eM7.out]
          exact (Hp.els_meld oXy oXx).trans (pXy.out.append pXx.out)
        have sM7 : Hp.size M7 = b.length + a.length := by
          rw [Hp.size_eq, pM7.out.length_eq]; simp; try omega
        have h23 := h22.call0 hpM7
        have htab_23 := htab_22.mono hpM7.le
        have ha_23 := ha_22.mono hpM7.le
        have hb_23 := hb_22.mono hpM7.le
        have hc_23 := hc_22.mono hpM7.le
        have hXx_23 := hXx_22.mono hpM7.le
        have hXy_23 := hXy_22.mono hpM7.le
        have hXz_23 := hXz_22.mono hpM7.le
        have hM1_23 := hM1_22.mono hpM7.le
        have hM2_23 := hM2_22.mono hpM7.le
        have dDp_23 := dDp_22.mono hpM7.le
        have hM3_23 := hM3_22.mono hpM7.le
        have hM4_23 := hM4_22.mono hpM7.le
        have dDq_23 := dDq_22.mono hpM7.le
        have hM5_23 := hM5_22.mono hpM7.le
        have hM6_23 := hM6_22.mono hpM7.le
        have dDr_23 := dDr.mono hpM7.le
        refine hK _ _ ?_; clear hK K; try clear Q'
        -- stops at: eff:call (Go.Op.call {'callee': (Go.Callee.value (Go.Operand.func 17)), 'args': [(Go.Operand.tmp 58), (Go.Operand.const (Go.Value.int Go.IntKind.i64 200))], 'argTypes':  slot 59
        refine wpList_plainQ rfl (fun K Q' hK => ?_); go_simp
        refine (drain_ok _ _ _ M7 200 (by omega) (by omega) h23.fits hM7).mono ?_
        rintro e wDsx ⟨vDsx, HDsx, rfl, hpDsx, dDsx⟩
        rw [drainL_all 200 M7 oM7 (by omega), sortE_congr pM7.out] at dDsx
        have h24 := h23.call0 hpDsx
        have htab_24 := htab_23.mono hpDsx.le
        have ha_24 := ha_23.mono hpDsx.le
        have hb_24 := hb_23.mono hpDsx.le
        have hc_24 := hc_23.mono hpDsx.le
        have hXx_24 := hXx_23.mono hpDsx.le
        have hXy_24 := hXy_23.mono hpDsx.le
        have hXz_24 := hXz_23.mono hpDsx.le
        have hM1_24 := hM1_23.mono hpDsx.le
        have hM2_24 := hM2_23.mono hpDsx.le
        have dDp_24 := dDp_23.mono hpDsx.le
        have hM3_24 := hM3_23.mono hpDsx.le
        have hM4_24 := hM4_23.mono hpDsx.le
        have dDq_24 := dDq_23.mono hpDsx.le
        have hM5_24 := hM5_23.mono hpDsx.le
        have hM6_24 := hM6_23.mono hpDsx.le
        have dDr_24 := dDr_23.mono hpDsx.le
        have hM7_24 := hM7.mono hpDsx.le
        refine hK _ _ ?_; clear hK K; try clear Q'
        iterate 1 (refine wpList_plainQ rfl (fun K Q' hK => ?_); go_simp; refine hK _ _ ?_; clear hK K; try clear Q')
        refine wpList_nil ?_
        show Code.wp _ _ _ _ _
        refine wp_seq ?_
        repeat (first | simp only [List.nil_append] at h24 | simp only [List.cons_append] at h24 | simp only [List.set_cons_zero] at h24 | simp only [List.set_cons_succ] at h24 | simp only [List.eraseIdx_zero] at h24 | simp only [List.tail_cons] at h24 | simp only [List.eraseIdx_cons_zero] at h24 | simp only [List.eraseIdx_cons_succ] at h24 | simp only [List.setIfInBounds_toArray] at h24)
        refine wp_region_lit ?_
        have c_0_0 := h24.cell 0 rfl 0 rfl
        have c_1_0 := h24.cell 1 rfl 0 rfl
        iterate 2 (refine wpList_plainQ rfl (fun K Q' hK => ?_); go_simp; refine hK _ _ ?_; clear hK K; try clear Q')
        clear c_0_0 c_1_0
        -- stops at: eff:call (Go.Op.call {'callee': (Go.Callee.value (Go.Operand.func 15)), 'args': [(Go.Operand.tmp 60), (Go.Operand.const (Go.Value.pointer none)), (Go.Operand.tmp 61)], ' slot 62
        refine wpList_plainQ rfl (fun K Q' hK => ?_); go_simp
        refine (hmeld_ok (m := none) h24.pre (by omega) hXx_24 hXy_24).mono ?_
        rintro e wM8 ⟨rM8, HM8, rfl, hpM8, hM8⟩
        obtain ⟨M8, eM8⟩ : ∃ hp0, Hid (Hp.meld Xx Xy = hp0) := ⟨_, show _ = _ from rfl⟩
        rw [eM8.out] at hM8
        have oM8 := hM8.ok
        have pM8 : Hid ((Hp.els M8).Perm (a ++ b)) := by
          rw [← eM8.out]
          exact (Hp.els_meld oXx oXy).trans (pXx.out.append pXy.out)
        have sM8 : Hp.size M8 = a.length + b.length := by
          rw [Hp.size_eq, pM8.out.length_eq]; simp; try omega
        have h25 := h24.call0 hpM8
        have htab_25 := htab_24.mono hpM8.le
        have ha_25 := ha_24.mono hpM8.le
        have hb_25 := hb_24.mono hpM8.le
        have hc_25 := hc_24.mono hpM8.le
        have hXx_25 := hXx_24.mono hpM8.le
        have hXy_25 := hXy_24.mono hpM8.le
        have hXz_25 := hXz_24.mono hpM8.le
        have hM1_25 := hM1_24.mono hpM8.le
        have hM2_25 := hM2_24.mono hpM8.le
        have dDp_25 := dDp_24.mono hpM8.le
        have hM3_25 := hM3_24.mono hpM8.le
        have hM4_25 := hM4_24.mono hpM8.le
        have dDq_25 := dDq_24.mono hpM8.le
        have hM5_25 := hM5_24.mono hpM8.le
        have hM6_25 := hM6_24.mono hpM8.le
        have dDr_25 := dDr_24.mono hpM8.le
        have hM7_25 := hM7_24.mono hpM8.le
        have dDsx_25 := dDsx.mono hpM8.le
        refine hK _ _ ?_; clear hK K; try clear Q'
        -- stops at: eff:call (Go.Op.call {'callee': (Go.Callee.value (Go.Operand.func 17)), 'args': [(Go.Operand.tmp 62), (Go.Operand.const (Go.Value.int Go.IntKind.i64 200))], 'argTypes':  slot 63
        refine wpList_plainQ rfl (fun K Q' hK => ?_); go_simp
        refine (drain_ok _ _ _ M8 200 (by omega) (by omega) h25.fits hM8).mono ?_
        rintro e wDt ⟨vDt, HDt, rfl, hpDt, dDt⟩
        rw [drainL_all 200 M8 oM8 (by omega), sortE_congr pM8.out] at dDt
        have h26 := h25.call0 hpDt
        have htab_26 := htab_25.mono hpDt.le
        have ha_26 := ha_25.mono hpDt.le
        have hb_26 := hb_25.mono hpDt.le
        have hc_26 := hc_25.mono hpDt.le
        have hXx_26 := hXx_25.mono hpDt.le
        have hXy_26 := hXy_25.mono hpDt.le
        have hXz_26 := hXz_25.mono hpDt.le
        have hM1_26 := hM1_25.mono hpDt.le
        have hM2_26 := hM2_25.mono hpDt.le
        have dDp_26 := dDp_25.mono hpDt.le
        have hM3_26 := hM3_25.mono hpDt.le
        have hM4_26 := hM4_25.mono hpDt.le
        have dDq_26 := dDq_25.mono hpDt.le
        have hM5_26 := hM5_25.mono hpDt.le
        have hM6_26 := hM6_25.mono hpDt.le
        have dDr_26 := dDr_25.mono hpDt.le
        have hM7_26 := hM7_25.mono hpDt.le
        have dDsx_26 := dDsx_25.mono hpDt.le
        have hM8_26 := hM8.mono hpDt.le
        refine hK _ _ ?_; clear hK K; try clear Q'
        iterate 1 (refine wpList_plainQ rfl (fun K Q' hK => ?_); go_simp; refine hK _ _ ?_; clear hK K; try clear Q')
        refine wpList_nil ?_
        show Code.wp _ _ _ _ _
        refine wp_seq ?_
        repeat (first | simp only [List.nil_append] at h26 | simp only [List.cons_append] at h26 | simp only [List.set_cons_zero] at h26 | simp only [List.set_cons_succ] at h26 | simp only [List.eraseIdx_zero] at h26 | simp only [List.tail_cons] at h26 | simp only [List.eraseIdx_cons_zero] at h26 | simp only [List.eraseIdx_cons_succ] at h26 | simp only [List.setIfInBounds_toArray] at h26)
        refine wp_region_lit ?_
        iterate 2 (refine wpList_plainQ rfl (fun K Q' hK => ?_); go_simp; refine hK _ _ ?_; clear hK K; try clear Q')
        -- stops at: eff:call (Go.Op.call {'callee': (Go.Callee.value (Go.Operand.func 18)), 'args': [(Go.Operand.tmp 64), (Go.Operand.tmp 65)], 'argTypes': [22, 22]}) slot 66
        refine wpList_plainQ rfl (fun K Q' hK => ?_); go_simp
        refine (rsame_ok _ _ _ _ _ _ (by simp only [sortE_length, List.length_append]; omega) (by simp only [sortE_length, List.length_append]; omega) h26.fits dDp_26 dDq_26).mono ?_
        rintro e wE1 ⟨rfl, hkE1⟩
        rw [decide_eq_true (sortE_congr (by rw [List.append_assoc]))]
        have h27 := h26.callk hkE1
        refine hK _ _ ?_; clear hK K; try clear Q'
        iterate 1 (refine wpList_plainQ rfl (fun K Q' hK => ?_); go_simp; refine hK _ _ ?_; clear hK K; try clear Q')
        first | go_skip | (iterate 2 (refine wpList_stepQ (o := { dst := _, op := _, type := _, pos := _, after := _, guard := some (3, true) }) (fun K Q' hK => ?_); go_simp; refine hK _ _ ?_; clear hK K; try clear Q')) | skip
        -- stops at: eff:call (Go.Op.call {'callee': (Go.Callee.value (Go.Operand.func 18)), 'args': [(Go.Operand.tmp 68), (Go.Operand.tmp 69)], 'argTypes': [22, 22]}) slot 70
        refine wpList_stepQ (fun K Q' hK => ?_); go_simp
        refine (rsame_ok _ _ _ _ _ _ (by simp only [sortE_length, List.length_append]; omega) (by simp only [sortE_length, List.length_append]; omega) h27.fits dDp_26 dDr_26).mono ?_
        rintro e wE2 ⟨rfl, hkE2⟩
        rw [decide_eq_true (sortE_congr (List.perm_append_comm.trans (by rw [List.append_assoc])))]
        have h28 := h27.callk hkE2
        refine hK _ _ ?_; clear hK K; try clear Q'
        iterate 2 (refine wpList_plainQ rfl (fun K Q' hK => ?_); go_simp; refine hK _ _ ?_; clear hK K; try clear Q')
        first | go_skip | (iterate 2 (refine wpList_stepQ (o := { dst := _, op := _, type := _, pos := _, after := _, guard := some (8, true) }) (fun K Q' hK => ?_); go_simp; refine hK _ _ ?_; clear hK K; try clear Q')) | skip
        -- stops at: eff:call (Go.Op.call {'callee': (Go.Callee.value (Go.Operand.func 18)), 'args': [(Go.Operand.tmp 73), (Go.Operand.tmp 74)], 'argTypes': [22, 22]}) slot 75
        refine wpList_stepQ (fun K Q' hK => ?_); go_simp
        refine (rsame_ok _ _ _ _ _ _ (by simp only [sortE_length, List.length_append]; omega) (by simp only [sortE_length, List.length_append]; omega) h28.fits dDsx_26 dDt).mono ?_
        rintro e wE3 ⟨rfl, hkE3⟩
        rw [decide_eq_true (sortE_congr List.perm_append_comm)]
        have h29 := h28.callk hkE3
        refine hK _ _ ?_; clear hK K; try clear Q'
        iterate 2 (refine wpList_plainQ rfl (fun K Q' hK => ?_); go_simp; refine hK _ _ ?_; clear hK K; try clear Q')
        first | go_skip | (iterate 11 (refine wpList_stepQ (o := { dst := _, op := _, type := _, pos := _, after := _, guard := some (13, true) }) (fun K Q' hK => ?_); go_simp; refine hK _ _ ?_; clear hK K; try clear Q')) | skip
        iterate 2 (refine wpList_plainQ rfl (fun K Q' hK => ?_); go_simp; refine hK _ _ ?_; clear hK K; try clear Q')
        refine wpList_nil ?_
        show Code.wp _ _ _ _ _
        -- stops at: ret
        refine wp_ret ?_
        go_ret
        exact ⟨rfl, h29.post.keep⟩
      · have hl3 : decide ((30 : Int) < (c.length : Int)) = true := by simp; omega
        go_enter Tryd.func5, Tryd.ntmps5
        have h0 := St.start hpre
        refine wp_seq ?_
        repeat (first | simp only [List.nil_append] at h0 | simp only [List.cons_append] at h0 | simp only [List.set_cons_zero] at h0 | simp only [List.set_cons_succ] at h0 | simp only [List.eraseIdx_zero] at h0 | simp only [List.tail_cons] at h0 | simp only [List.eraseIdx_cons_zero] at h0 | simp only [List.eraseIdx_cons_succ] at h0 | simp only [List.setIfInBounds_toArray] at h0)
        refine wp_region_lit ?_
        iterate 1 (refine wpList_plainQ rfl (fun K Q' hK => ?_); go_simp; refine hK _ _ ?_; clear hK K; try clear Q')
        refine wpList_nil ?_
        show Code.wp _ _ _ _ _
        refine wp_seq ?_
        refine wp_region_lit ?_
        -- stops at: eff:call (Go.Op.call {'callee': (Go.Callee.value (Go.Operand.func 13)), 'args': [], 'argTypes': []}) slot 16
        refine wpList_plainQ rfl (fun K Q' hK => ?_); go_simp
        refine (awake_ok H _ h0.fits htab).mono ?_
        rintro e wAw ⟨HAw, rfl, hpAw⟩
        have h1 := h0.call0 hpAw
        have htab_1 := htab.mono hpAw.le
        refine hK _ _ ?_; clear hK K; try clear Q'
        iterate 1 (refine wpList_plainQ rfl (fun K Q' hK => ?_); go_simp; refine hK _ _ ?_; clear hK K; try clear Q')
        refine wpList_nil ?_
        show Code.wp _ _ _ _ _
        refine wp_seq ?_
        refine wp_seq ?_
        repeat (first | simp only [List.nil_append] at h1 | simp only [List.cons_append] at h1 | simp only [List.set_cons_zero] at h1 | simp only [List.set_cons_succ] at h1 | simp only [List.eraseIdx_zero] at h1 | simp only [List.tail_cons] at h1 | simp only [List.eraseIdx_cons_zero] at h1 | simp only [List.eraseIdx_cons_succ] at h1 | simp only [List.setIfInBounds_toArray] at h1)
        refine wp_region_lit ?_
        iterate 2 (refine wpList_plainQ rfl (fun K Q' hK => ?_); go_simp; refine hK _ _ ?_; clear hK K; try clear Q')
        refine wpList_nil ?_
        show Code.wp _ _ _ _ _
        -- stops at: cond
        refine wp_cond_false (rfl) ?_
        refine wp_skip ?_
        show Code.wp _ _ _ _ _
        refine wp_seq ?_
        refine wp_seq ?_
        refine wp_region_lit ?_
        iterate 4 (refine wpList_plainQ rfl (fun K Q' hK => ?_); go_simp; refine hK _ _ ?_; clear hK K; try clear Q')
        first | go_skip | (iterate 3 (refine wpList_stepQ (o := { dst := _, op := _, type := _, pos := _, after := _, guard := some (3, false) }) (fun K Q' hK => ?_); go_simp; refine hK _ _ ?_; clear hK K; try clear Q')) | skip
        iterate 2 (refine wpList_plainQ rfl (fun K Q' hK => ?_); go_simp; refine hK _ _ ?_; clear hK K; try clear Q')
        first | go_skip | (iterate 3 (refine wpList_stepQ (o := { dst := _, op := _, type := _, pos := _, after := _, guard := some (8, false) }) (fun K Q' hK => ?_); go_simp; refine hK _ _ ?_; clear hK K; try clear Q')) | skip
        iterate 1 (refine wpList_plainQ rfl (fun K Q' hK => ?_); go_simp; refine hK _ _ ?_; clear hK K; try clear Q')
        refine wpList_nil ?_
        show Code.wp _ _ _ _ _
        -- stops at: cond
        refine wp_cond_true (rfl) ?_
        refine wp_seq ?_
        refine wp_region_lit ?_
        iterate 1 (refine wpList_plainQ rfl (fun K Q' hK => ?_); go_simp; refine hK _ _ ?_; clear hK K; try clear Q')
        refine wpList_nil ?_
        show Code.wp _ _ _ _ _
        -- stops at: ret
        refine wp_ret ?_
        go_ret
        exact ⟨rfl, h1.post.keep⟩
    · have hl2 : decide ((30 : Int) < (b.length : Int)) = true := by simp; omega
      go_enter Tryd.func5, Tryd.ntmps5
      have h0 := St.start hpre
      refine wp_seq ?_
      repeat (first | simp only [List.nil_append] at h0 | simp only [List.cons_append] at h0 | simp only [List.set_cons_zero] at h0 | simp only [List.set_cons_succ] at h0 | simp only [List.eraseIdx_zero] at h0 | simp only [List.tail_cons] at h0 | simp only [List.eraseIdx_cons_zero] at h0 | simp only [List.eraseIdx_cons_succ] at h0 | simp only [List.setIfInBounds_toArray] at h0)
      refine wp_region_lit ?_
      iterate 1 (refine wpList_plainQ rfl (fun K Q' hK => ?_); go_simp; refine hK _ _ ?_; clear hK K; try clear Q')
      refine wpList_nil ?_
      show Code.wp _ _ _ _ _
      refine wp_seq ?_
      refine wp_region_lit ?_
      -- stops at: eff:call (Go.Op.call {'callee': (Go.Callee.value (Go.Operand.func 13)), 'args': [], 'argTypes': []}) slot 16
      refine wpList_plainQ rfl (fun K Q' hK => ?_); go_simp
      refine (awake_ok H _ h0.fits htab).mono ?_
      rintro e wAw ⟨HAw, rfl, hpAw⟩
      have h1 := h0.call0 hpAw
      have htab_1 := htab.mono hpAw.le
      refine hK _ _ ?_; clear hK K; try clear Q'
      iterate 1 (refine wpList_plainQ rfl (fun K Q' hK => ?_); go_simp; refine hK _ _ ?_; clear hK K; try clear Q')
      refine wpList_nil ?_
      show Code.wp _ _ _ _ _
      refine wp_seq ?_
      refine wp_seq ?_
      repeat (first | simp only [List.nil_append] at h1 | simp only [List.cons_append] at h1 | simp only [List.set_cons_zero] at h1 | simp only [List.set_cons_succ] at h1 | simp only [List.eraseIdx_zero] at h1 | simp only [List.tail_cons] at h1 | simp only [List.eraseIdx_cons_zero] at h1 | simp only [List.eraseIdx_cons_succ] at h1 | simp only [List.setIfInBounds_toArray] at h1)
      refine wp_region_lit ?_
      iterate 2 (refine wpList_plainQ rfl (fun K Q' hK => ?_); go_simp; refine hK _ _ ?_; clear hK K; try clear Q')
      refine wpList_nil ?_
      show Code.wp _ _ _ _ _
      -- stops at: cond
      refine wp_cond_false (rfl) ?_
      refine wp_skip ?_
      show Code.wp _ _ _ _ _
      refine wp_seq ?_
      refine wp_seq ?_
      refine wp_region_lit ?_
      iterate 4 (refine wpList_plainQ rfl (fun K Q' hK => ?_); go_simp; refine hK _ _ ?_; clear hK K; try clear Q')
      first | go_skip | (iterate 3 (refine wpList_stepQ (o := { dst := _, op := _, type := _, pos := _, after := _, guard := some (3, false) }) (fun K Q' hK => ?_); go_simp; refine hK _ _ ?_; clear hK K; try clear Q')) | skip
      iterate 2 (refine wpList_plainQ rfl (fun K Q' hK => ?_); go_simp; refine hK _ _ ?_; clear hK K; try clear Q')
      first | go_skip | (iterate 3 (refine wpList_stepQ (o := { dst := _, op := _, type := _, pos := _, after := _, guard := some (8, false) }) (fun K Q' hK => ?_); go_simp; refine hK _ _ ?_; clear hK K; try clear Q')) | skip
      iterate 1 (refine wpList_plainQ rfl (fun K Q' hK => ?_); go_simp; refine hK _ _ ?_; clear hK K; try clear Q')
      refine wpList_nil ?_
      show Code.wp _ _ _ _ _
      -- stops at: cond
      refine wp_cond_true (rfl) ?_
      refine wp_seq ?_
      refine wp_region_lit ?_
      iterate 1 (refine wpList_plainQ rfl (fun K Q' hK => ?_); go_simp; refine hK _ _ ?_; clear hK K; try clear Q')
      refine wpList_nil ?_
      show Code.wp _ _ _ _ _
      -- stops at: ret
      refine wp_ret ?_
      go_ret
      exact ⟨rfl, h1.post.keep⟩
  · have hl1 : decide ((30 : Int) < (a.length : Int)) = true := by simp; omega
    go_enter Tryd.func5, Tryd.ntmps5
    have h0 := St.start hpre
    refine wp_seq ?_
    repeat (first | simp only [List.nil_append] at h0 | simp only [List.cons_append] at h0 | simp only [List.set_cons_zero] at h0 | simp only [List.set_cons_succ] at h0 | simp only [List.eraseIdx_zero] at h0 | simp only [List.tail_cons] at h0 | simp only [List.eraseIdx_cons_zero] at h0 | simp only [List.eraseIdx_cons_succ] at h0 | simp only [List.setIfInBounds_toArray] at h0)
    refine wp_region_lit ?_
    iterate 1 (refine wpList_plainQ rfl (fun K Q' hK => ?_); go_simp; refine hK _ _ ?_; clear hK K; try clear Q')
    refine wpList_nil ?_
    show Code.wp _ _ _ _ _
    refine wp_seq ?_
    refine wp_region_lit ?_
    -- stops at: eff:call (Go.Op.call {'callee': (Go.Callee.value (Go.Operand.func 13)), 'args': [], 'argTypes': []}) slot 16
    refine wpList_plainQ rfl (fun K Q' hK => ?_); go_simp
    refine (awake_ok H _ h0.fits htab).mono ?_
    rintro e wAw ⟨HAw, rfl, hpAw⟩
    have h1 := h0.call0 hpAw
    have htab_1 := htab.mono hpAw.le
    refine hK _ _ ?_; clear hK K; try clear Q'
    iterate 1 (refine wpList_plainQ rfl (fun K Q' hK => ?_); go_simp; refine hK _ _ ?_; clear hK K; try clear Q')
    refine wpList_nil ?_
    show Code.wp _ _ _ _ _
    refine wp_seq ?_
    refine wp_seq ?_
    repeat (first | simp only [List.nil_append] at h1 | simp only [List.cons_append] at h1 | simp only [List.set_cons_zero] at h1 | simp only [List.set_cons_succ] at h1 | simp only [List.eraseIdx_zero] at h1 | simp only [List.tail_cons] at h1 | simp only [List.eraseIdx_cons_zero] at h1 | simp only [List.eraseIdx_cons_succ] at h1 | simp only [List.setIfInBounds_toArray] at h1)
    refine wp_region_lit ?_
    iterate 2 (refine wpList_plainQ rfl (fun K Q' hK => ?_); go_simp; refine hK _ _ ?_; clear hK K; try clear Q')
    refine wpList_nil ?_
    show Code.wp _ _ _ _ _
    -- stops at: cond
    refine wp_cond_false (rfl) ?_
    refine wp_skip ?_
    show Code.wp _ _ _ _ _
    refine wp_seq ?_
    refine wp_seq ?_
    refine wp_region_lit ?_
    iterate 4 (refine wpList_plainQ rfl (fun K Q' hK => ?_); go_simp; refine hK _ _ ?_; clear hK K; try clear Q')
    first | go_skip | (iterate 3 (refine wpList_stepQ (o := { dst := _, op := _, type := _, pos := _, after := _, guard := some (3, false) }) (fun K Q' hK => ?_); go_simp; refine hK _ _ ?_; clear hK K; try clear Q')) | skip
    iterate 2 (refine wpList_plainQ rfl (fun K Q' hK => ?_); go_simp; refine hK _ _ ?_; clear hK K; try clear Q')
    first | go_skip | (iterate 3 (refine wpList_stepQ (o := { dst := _, op := _, type := _, pos := _, after := _, guard := some (8, false) }) (fun K Q' hK => ?_); go_simp; refine hK _ _ ?_; clear hK K; try clear Q')) | skip
    iterate 1 (refine wpList_plainQ rfl (fun K Q' hK => ?_); go_simp; refine hK _ _ ?_; clear hK K; try clear Q')
    refine wpList_nil ?_
    show Code.wp _ _ _ _ _
    -- stops at: cond
    refine wp_cond_true (rfl) ?_
    refine wp_seq ?_
    refine wp_region_lit ?_
    iterate 1 (refine wpList_plainQ rfl (fun K Q' hK => ?_); go_simp; refine hK _ _ ?_; clear hK K; try clear Q')
    refine wpList_nil ?_
    show Code.wp _ _ _ _ _
    -- stops at: ret
    refine wp_ret ?_
    go_ret
    exact ⟨rfl, h1.post.keep⟩
end Go.Proofs.YtceamdacacacjaaDoor
