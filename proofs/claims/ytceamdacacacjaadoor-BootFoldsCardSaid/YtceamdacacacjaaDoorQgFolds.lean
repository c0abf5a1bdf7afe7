/-
Folds: its walk.
-/
import Derived.Test.YtceamdacacacjaaDoorQbPlain
import Derived.Test.YtceamdacacacjaaDoorGdOrdS
namespace Go.Proofs.YtceamdacacacjaaDoor
open Go Go.RowKit
set_option linter.unusedVariables false


/-- What holds ahead of each round. -/
def FoldInv (w : World) (H : GH) (A B C : Nat) (rX : Option Addr) (bM bN : Nat) (a : List El) (c d : Int) (v9 : Value) (wr : World) : Prop :=
  ∃ (k : Nat) (O : Hp) (q r : Option Addr) (H' : GH), k ≤ a.length ∧ v9 = .int .i64 k ∧ TabH H' ∧ HpR H' rX (Hp.ofL a) ∧ HpR H' q (Hp.ofL (a.take k)) ∧ HpR H' r O ∧ Hid ((Hp.els O).Perm (a.take k)) ∧
    St w H none 0 0 wr H' [(bM, meterObj c d), (bN, meterObj (0 + (Hp.ofC (a.take k) : Int)) (0 + (Hp.ofD (a.take k) : Int))), (A, .cells #[.pointer rX] 26), (B, .cells #[.pointer q] 26), (C, .cells #[.pointer r] 26)] []

set_option maxRecDepth 100000 in
set_option maxHeartbeats 16000000 in
theorem folds_walk (H : GH) (w : World) (v : Value) (a : List El) (hf : Fits w H) (htab : TabH H) (ha : ElRep H v a) (fa : ∀ x ∈ a, El.fits x) :
    Calls Tryd.prog 10 #[v] w fun e w' => e = .returned (.bool true) ∧ Keep none w w' := by
  have hpre : Pre w H none 0 0 := Pre.none hf 0 0
  obtain ⟨aa, ca, rfl, _, _⟩ := ha.nil_or
  by_cases hl : a.length ≤ 60
  · have hl1 : decide ((60 : Int) < (a.length : Int)) = false := by simp; omega
    as_aux_lemma =>
    go_enter Tryd.func10, Tryd.ntmps10
    have h0 := St.start hpre
    refine wp_seq ?_
    repeat (first | simp only [List.nil_append] at h0 | simp only [List.cons_append] at h0 | simp only [List.set_cons_zero] at h0 | simp only [List.set_cons_succ] at h0 | simp only [List.eraseIdx_zero] at h0 | simp only [List.tail_cons] at h0 | simp only [List.eraseIdx_cons_zero] at h0 | simp only [List.eraseIdx_cons_succ] at h0 | simp only [List.setIfInBounds_toArray] at h0)
    refine wp_region_lit ?_
    iterate 1 (refine wpList_plainQ rfl (fun K Q' hK => ?_); go_simp; refine hK _ _ ?_; clear hK K; try clear Q')
    refine wpList_nil ?_
    show Code.wp _ _ _ _ _
    refine wp_seq ?_
    refine wp_region_lit ?_
    -- stops at: eff:call (Go.Op.call {'callee': (Go.Callee.value (Go.Operand.func 13)), 'args': [], 'argTypes': []}) slot 10
    refine wpList_plainQ rfl (fun K Q' hK => ?_); go_simp
    refine (awake_ok H _ h0.fits htab).mono ?_
    rintro e wAw ⟨HAw, rfl, hpAw⟩
    have h1 := h0.call0 hpAw
    have htab_1 := htab.mono hpAw.le
    have ha_1 := ha.mono hpAw.le
    refine hK _ _ ?_; clear hK K; try clear Q'
    iterate 1 (refine wpList_plainQ rfl (fun K Q' hK => ?_); go_simp; refine hK _ _ ?_; clear hK K; try clear Q')
    refine wpList_nil ?_
    show Code.wp _ _ _ _ _
    refine wp_seq ?_
    refine wp_seq ?_
    repeat (first | simp only [List.nil_append] at h1 | simp only [List.cons_append] at h1 | simp only [List.set_cons_zero] at h1 | simp only [List.set_cons_succ] at h1 | simp only [List.eraseIdx_zero] at h1 | simp only [List.tail_cons] at h1 | simp only [List.eraseIdx_cons_zero] at h1 | simp only [List.eraseIdx_cons_succ] at h1 | simp only [List.setIfInBounds_toArray] at h1)
    refine wp_region_lit ?_
    iterate 2 (refine wpList_plainQ rfl (fun K Q' hK => ?_); go_simp; refine hK _ _ ?_; clear hK K; try clear Q')
    refine wpList_nil ?_
    show Code.wp _ _ _ _ _
    -- stops at: cond
    refine wp_cond_false (rfl) ?_
    refine wp_skip ?_
    show Code.wp _ _ _ _ _
    refine wp_seq ?_
    refine wp_seq ?_
    refine wp_region_lit ?_
    iterate 3 (refine wpList_plainQ rfl (fun K Q' hK => ?_); go_simp; refine hK _ _ ?_; clear hK K; try clear Q')
    refine wpList_nil ?_
    show Code.wp _ _ _ _ _
    -- stops at: cond
    refine wp_cond_false (rfl) ?_
    refine wp_skip ?_
    show Code.wp _ _ _ _ _
    refine wp_seq ?_
    refine wp_region_lit ?_
    -- stops at: eff:call (Go.Op.call {'callee': (Go.Callee.value (Go.Operand.func 22)), 'args': [], 'argTypes': []}) slot 16
    refine wpList_plainQ rfl (fun K Q' hK => ?_); go_simp
    refine (new_ok _ _ h1.fits).mono ?_
    rintro e wM ⟨bM, rfl, hkM, hbM, hoM⟩
    have hM := h1.callnew hkM hbM hoM rfl
    refine hK _ _ ?_; clear hK K; try clear Q'
    iterate 1 (refine wpList_plainQ rfl (fun K Q' hK => ?_); go_simp; refine hK _ _ ?_; clear hK K; try clear Q')
    refine wpList_nil ?_
    show Code.wp _ _ _ _ _
    refine wp_seq ?_
    repeat (first | simp only [List.nil_append] at hM | simp only [List.cons_append] at hM | simp only [List.set_cons_zero] at hM | simp only [List.set_cons_succ] at hM | simp only [List.eraseIdx_zero] at hM | simp only [List.tail_cons] at hM | simp only [List.eraseIdx_cons_zero] at hM | simp only [List.eraseIdx_cons_succ] at hM | simp only [List.setIfInBounds_toArray] at hM)
    refine wp_region_lit ?_
    -- stops at: eff:call (Go.Op.call {'callee': (Go.Callee.value (Go.Operand.func 22)), 'args': [], 'argTypes': []}) slot 17
    refine wpList_plainQ rfl (fun K Q' hK => ?_); go_simp
    refine (new_ok _ _ hM.fits).mono ?_
    rintro e wN ⟨bN, rfl, hkN, hbN, hoN⟩
    have hN := hM.callnew hkN hbN hoN rfl
    refine hK _ _ ?_; clear hK K; try clear Q'
    iterate 1 (refine wpList_plainQ rfl (fun K Q' hK => ?_); go_simp; refine hK _ _ ?_; clear hK K; try clear Q')
    refine wpList_nil ?_
    show Code.wp _ _ _ _ _
    refine wp_seq ?_
    repeat (first | simp only [List.nil_append] at hN | simp only [List.cons_append] at hN | simp only [List.set_cons_zero] at hN | simp only [List.set_cons_succ] at hN | simp only [List.eraseIdx_zero] at hN | simp only [List.tail_cons] at hN | simp only [List.eraseIdx_cons_zero] at hN | simp only [List.eraseIdx_cons_succ] at hN | simp only [List.setIfInBounds_toArray] at hN)
    refine wp_region_lit ?_
    iterate 2 (refine wpList_plainQ rfl (fun K Q' hK => ?_); go_simp; refine hK _ _ ?_; clear hK K; try clear Q')
    -- stops at: eff:call (Go.Op.call {'callee': (Go.Callee.value (Go.Operand.func 14)), 'args': [(Go.Operand.tmp 18), (Go.Operand.tmp 19)], 'argTypes': [36, 22]}) slot 20
    refine wpList_plainQ rfl (fun K Q' hK => ?_); go_simp
    refine (hof_ok (m := some bM) (xs := a) fa (hN.pre_at (i := 0) rfl) (by omega) ha_1).mono ?_
    rintro e wXx ⟨rXx, HXx, rfl, hpXx, hXx⟩
    have h2 := hN.call_at (i := 0) rfl hpXx
    have htab_2 := htab_1.mono hpXx.le
    have ha_2 := ha_1.mono hpXx.le
    refine hK _ _ ?_; clear hK K; try clear Q'
    refine wpList_plainQ rfl (fun K Q' hK => ?_); go_simp
    refine h2.k_alloc (fun w3 h3 => ?_)
    refine hK _ _ ?_; clear hK K; try clear Q'
    have c_0 := h3.cell 2 rfl 0 rfl
    have f_0 := h3.free 2 rfl 0
    refine wpList_plainQ rfl (fun K Q' hK => ?_); go_simp
    clear c_0 f_0
    refine h3.k_set 2 rfl (fun w4 h4 => ?_)
    refine hK _ _ ?_; clear hK K; try clear Q'
    refine wpList_nil ?_
    show Code.wp _ _ _ _ _
    refine wp_seq ?_
    repeat (first | simp only [List.nil_append] at h4 | simp only [List.cons_append] at h4 | simp only [List.set_cons_zero] at h4 | simp only [List.set_cons_succ] at h4 | simp only [List.eraseIdx_zero] at h4 | simp only [List.tail_cons] at h4 | simp only [List.eraseIdx_cons_zero] at h4 | simp only [List.eraseIdx_cons_succ] at h4 | simp only [List.setIfInBounds_toArray] at h4)
    refine wp_region_lit ?_
    refine wpList_plainQ rfl (fun K Q' hK => ?_); go_simp
    refine h4.k_alloc (fun w5 h5 => ?_)
    refine hK _ _ ?_; clear hK K; try clear Q'
    refine wpList_nil ?_
    show Code.wp _ _ _ _ _
    refine wp_seq ?_
    repeat (first | simp only [List.nil_append] at h5 | simp only [List.cons_append] at h5 | simp only [List.set_cons_zero] at h5 | simp only [List.set_cons_succ] at h5 | simp only [List.eraseIdx_zero] at h5 | simp only [List.tail_cons] at h5 | simp only [List.eraseIdx_cons_zero] at h5 | simp only [List.eraseIdx_cons_succ] at h5 | simp only [List.setIfInBounds_toArray] at h5)
    refine wp_region_lit ?_
    refine wpList_plainQ rfl (fun K Q' hK => ?_); go_simp
    refine h5.k_alloc (fun w6 h6 => ?_)
    refine hK _ _ ?_; clear hK K; try clear Q'
    refine wpList_nil ?_
    show Code.wp _ _ _ _ _
    refine wp_seq ?_
    refine wp_seq ?_
    repeat (first | simp only [List.nil_append] at h6 | simp only [List.cons_append] at h6 | simp only [List.set_cons_zero] at h6 | simp only [List.set_cons_succ] at h6 | simp only [List.eraseIdx_zero] at h6 | simp only [List.tail_cons] at h6 | simp only [List.eraseIdx_cons_zero] at h6 | simp only [List.eraseIdx_cons_succ] at h6 | simp only [List.setIfInBounds_toArray] at h6)
    refine wp_region_lit ?_
    iterate 1 (refine wpList_plainQ rfl (fun K Q' hK => ?_); go_simp; refine hK _ _ ?_; clear hK K; try clear Q')
    refine wpList_nil ?_
    show Code.wp _ _ _ _ _
    refine wp_block ?_
    -- stops at: loop
    go_loopw [9] (fun v9 wr => FoldInv w H wXx.heap.size w4.heap.size w5.heap.size rXx bM bN a (0 + (Hp.ofC a : Int)) (0 + (Hp.ofD a : Int)) v9 wr) (fun v9 _ => a.length - (intOf v9).toNat)
    case atStart =>
      show FoldInv _ _ _ _ _ _ _ _ _ _ _ _ _
      unfold FoldInv
      exact ⟨0, Hp.nil, none, none, _, by omega, rfl, htab_2, hXx, HpR.nil _, HpR.nil _, by simp [Hp.els_nil, Hid], h6⟩
    case round =>
      obtain ⟨k, O, q, r, H7, hk, rfl, htab7, hX7, hG, hO, pO, hs⟩ := hrel
      have sO : Hp.size O = k := by rw [Hp.size_eq, pO.out.length_eq]; simp; omega
      have sG : Hp.size (Hp.ofL (a.take k)) = k := by rw [Hp.size_eq, (Hp.els_ofL _).length_eq]; simp; omega
      by_cases hlt : k < a.length
      · skip
        as_aux_lemma =>
        obtain ⟨b9, o9, cap9, ee, _⟩ := ha.ne_nil (by omega)
        simp only [Value.slice.injEq, true_and] at ee
        obtain ⟨rfl, rfl⟩ := ee
        obtain ⟨c1, c2⟩ := elRep_cells ha (k := k) (a := a[k]) (by simp [hlt])
        obtain ⟨y, hy⟩ : ∃ y0, Hid (a[k] = y0) := ⟨a[k], show _ = _ from rfl⟩
        rw [hy.out] at c1 c2
        have hly : a[k]? = some y := by rw [List.getElem?_eq_getElem hlt, hy.out]
        have htk : a.take (k + 1) = a.take k ++ [y] := by rw [List.take_add_one, hly]; rfl
        have e1 : IntKind.i64.wrap ((k : Int) + 1) = (k : Int) + 1 := IntWalk.i64_in _ (by omega)
        have fy : El.fits y := by rw [← hy.out]; exact fa _ (List.getElem_mem hlt)
        refine wp_seq ?_
        refine wp_seq ?_
        repeat (first | simp only [List.nil_append] at hs | simp only [List.cons_append] at hs | simp only [List.set_cons_zero] at hs | simp only [List.set_cons_succ] at hs | simp only [List.eraseIdx_zero] at hs | simp only [List.tail_cons] at hs | simp only [List.eraseIdx_cons_zero] at hs | simp only [List.eraseIdx_cons_succ] at hs | simp only [List.setIfInBounds_toArray] at hs)
        refine wp_region_lit ?_
        iterate 4 (refine wpList_plainQ rfl (fun K Q' hK => ?_); go_simp; refine hK _ _ ?_; clear hK K; try clear Q')
        refine wpList_nil ?_
        show Code.wp _ _ _ _ _
        -- stops at: cond
        refine wp_cond_true (rfl) ?_
        refine wp_skip ?_
        show Code.wp _ _ _ _ _
        refine wp_seq ?_
        refine wp_block ?_
        refine wp_seq ?_
        refine hs.region [] [(1, true), (2, true), (3, true), (4, true), (5, true), (0, false), (6, false), (7, false)] (by kernel_rfl) (by kernel_rfl) (fun w7 h7 => ?_)
        refine wpOrd_hide (fun _ _ d _ _ h => by cases d <;> exact h) (fun QR hQn hQp => ?_)
        simp only [ordOps, List.map_cons, List.map_nil, List.getD_cons_zero, List.getD_cons_succ]
        iterate 4 (refine wpOrd_quiet (v := ?_) rfl (fun _ _ _ => hQp _ _ _ _ _) ?_ ?_; rotate_left; (intro w' hS; (first | (go_simp; done) | (go_simp; with_reducible rfl))); simp only [Act.put, List.setIfInBounds_toArray, List.set_cons_zero, List.set_cons_succ])
        -- stops at: load (Go.Op.load 41 (Go.Operand.tmp 31)) slot 32
        iterate 1 (refine wpOrd_quiet (v := ?_) rfl (fun _ _ _ => hQp _ _ _ _ _) ?_ ?_; rotate_left; (intro w' hS; have ce := c1.out _ (hS.1.le h7.le); have ce2 := c2.out _ (hS.1.le h7.le); (first | (go_simp; done) | (go_simp; with_reducible rfl))); simp only [Act.put, List.setIfInBounds_toArray, List.set_cons_zero, List.set_cons_succ])
        have c_3_0 := h7.cell 3 rfl 0 rfl
        refine wpOrd_effQ rfl (fun K Q' hK => ?_); go_simp
        refine hK _ _ (h7.sat' (GH.le_refl _) [] (sel_nil2 _ _)) ?_; clear hK K; try clear Q'
        clear c_3_0
        -- stops at: eff:call (Go.Op.call {'callee': (Go.Callee.value (Go.Operand.func 23)), 'args': [(Go.Operand.tmp 27), (Go.Operand.tmp 28), (Go.Operand.tmp 32)], 'argTypes': [26, 36, 41] slot 33
        refine wpOrd_effQ rfl (fun K Q' hK => ?_); go_simp
        refine (hinsert_ok (m := some bN) y fy (h7.pre_at (i := 1) rfl) (by omega) hG).mono ?_
        rintro e wI ⟨rI, HI, rfl, hpI, hI⟩
        have h8 := h7.call_at (i := 1) rfl hpI
        have htab7_8 := htab7.mono hpI.le
        have hX7_8 := hX7.mono hpI.le
        have hG_8 := hG.mono hpI.le
        have hO_8 := hO.mono hpI.le
        refine hK _ _ (h8.sat' hpI.le [] (sel_nil2 _ _)) ?_; clear hK K; try clear Q'
        as_aux_lemma =>
        have c_0 := h8.cell 3 rfl 0 rfl
        have f_0 := h8.free 3 rfl 0
        refine wpOrd_effQ rfl (fun K Q' hK => ?_); go_simp
        clear c_0 f_0
        refine h8.k_set 3 rfl (fun w9 h9 => ?_)
        refine hK _ _ (h9.sat' hpI.le [] (sel_nil2 _ _)) ?_; clear hK K; try clear Q'
        refine wpOrd_nil (hQn _ _ ?_); clear hQn hQp QR
        show Code.wp _ _ _ _ _
        repeat (first | simp only [List.nil_append] at h9 | simp only [List.cons_append] at h9 | simp only [List.set_cons_zero] at h9 | simp only [List.set_cons_succ] at h9 | simp only [List.eraseIdx_zero] at h9 | simp only [List.tail_cons] at h9 | simp only [List.eraseIdx_cons_zero] at h9 | simp only [List.eraseIdx_cons_succ] at h9 | simp only [List.setIfInBounds_toArray] at h9)
        refine h9.regionS [4] [] 8 [(0, .q1), (1, .q2), (2, .q2), (3, .q2), (4, .q2), (5, .e1), (6, .e1), (7, .e1), (8, .e2)] (by kernel_rfl) (by kernel_rfl) (fun w10 h10 => ?_)
        refine wpOS_hide (fun _ _ d _ _ h => by cases d <;> exact h) (fun QR hQn hQp => ?_)
        simp only [opsS, List.map_cons, List.map_nil, List.getD_cons_zero, List.getD_cons_succ]
        iterate 1 (refine wpOS_quiet1 (v := ?_) rfl (fun _ _ _ => hQp _ _ _ _ _) ?_ ?_; rotate_left; (intro w' hS; have c_4_0 := hS.cell 0 rfl 0 rfl; (first | (go_simp; done) | (go_simp; with_reducible rfl))); simp only [Act.put, List.setIfInBounds_toArray, List.set_cons_zero, List.set_cons_succ])
        iterate 3 (refine wpOS_quiet2 (v := ?_) rfl (fun _ _ _ => hQp _ _ _ _ _) ?_ ?_; rotate_left; (intro w' hS; (first | (go_simp; done) | (go_simp; with_reducible rfl))); simp only [Act.put, List.setIfInBounds_toArray, List.set_cons_zero, List.set_cons_succ])
        -- stops at: load (Go.Op.load 41 (Go.Operand.tmp 37)) slot 38
        iterate 1 (refine wpOS_quiet2 (v := ?_) rfl (fun _ _ _ => hQp _ _ _ _ _) ?_ ?_; rotate_left; (intro w' hS; have ce := c1.out _ (hS.1.le h10.le); have ce2 := c2.out _ (hS.1.le h10.le); (first | (go_simp; done) | (go_simp; with_reducible rfl))); simp only [Act.put, List.setIfInBounds_toArray, List.set_cons_zero, List.set_cons_succ])
        refine wpOS_eff1 rfl (fun K Q' hK => ?_); go_simp
        refine h10.k_alloc (fun w11 h11 => ?_)
        refine hK _ _ (h11.sat' (GH.le_refl _) [4] (sel_cons rfl rfl (sel_nil2 _ _))) ?_; clear hK K; try clear Q'
        -- stops at: eff:call (Go.Op.call {'callee': (Go.Callee.value (Go.Operand.func 14)), 'args': [(Go.Operand.const (Go.Value.pointer none)), (Go.Operand.tmp 39)], 'argTypes': [36, 22]}) slot 40
        as_aux_lemma =>
        obtain ⟨H3, hA3, rA, leA⟩ := (h11.rowOf 5 rfl 2 1 rfl (by unfold maxLen; omega)).settleRow 0 rfl
        have htab7_12 := htab7_8.mono leA
        have hX7_12 := hX7_8.mono leA
        have hG_12 := hG_8.mono leA
        have hO_12 := hO_8.mono leA
        have hI_12 := hI.mono leA
        have rA' : ElRep H3 _ [y] := rA
        refine wpOS_eff1 rfl (fun K Q' hK => ?_); go_simp
        refine (hof_ok (m := none) (xs := [y]) (by simpa using fy) hA3.pre (by simp) rA').mono ?_
        rintro e wJ ⟨rJ, HJ, rfl, hpJ, hJ⟩
        have sJ : Hp.size (Hp.ofL [y]) = 1 := by rw [Hp.size_eq, (Hp.els_ofL _).length_eq]; rfl
        have h13 := hA3.call0 hpJ
        have htab7_13 := htab7_12.mono hpJ.le
        have hX7_13 := hX7_12.mono hpJ.le
        have hG_13 := hG_12.mono hpJ.le
        have hO_13 := hO_12.mono hpJ.le
        have hI_13 := hI_12.mono hpJ.le
        refine hK _ _ (h13.sat' (GH.le.trans leA hpJ.le) [4] (sel_cons rfl rfl (sel_nil2 _ _))) ?_; clear hK K; try clear Q'
        -- stops at: eff:call (Go.Op.call {'callee': (Go.Callee.value (Go.Operand.func 15)), 'args': [(Go.Operand.tmp 34), (Go.Operand.const (Go.Value.pointer none)), (Go.Operand.tmp 40)], ' slot 41
        refine wpOS_eff1 rfl (fun K Q' hK => ?_); go_simp
        refine (hmeld_ok (m := none) h13.pre (by omega) hO_13 hJ).mono ?_
        rintro e wL ⟨rL, HL, rfl, hpL, hL⟩
        have h14 := h13.call0 hpL
        have htab7_14 := htab7_13.mono hpL.le
        have hX7_14 := hX7_13.mono hpL.le
        have hG_14 := hG_13.mono hpL.le
        have hO_14 := hO_13.mono hpL.le
        have hI_14 := hI_13.mono hpL.le
        have hJ_14 := hJ.mono hpL.le
        refine hK _ _ (h14.sat' (GH.le.trans (GH.le.trans leA hpJ.le) hpL.le) [4] (sel_cons rfl rfl (sel_nil2 _ _))) ?_; clear hK K; try clear Q'
        have c_0 := h14.cell 4 rfl 0 rfl
        have f_0 := h14.free 4 rfl 0
        refine wpOS_eff2 rfl (fun K Q' hK => ?_); go_simp
        clear c_0 f_0
        refine h14.k_set 4 rfl (fun w15 h15 => ?_)
        refine hK _ _ (h15.sat' (GH.le.trans (GH.le.trans leA hpJ.le) hpL.le) [] (sel_nil2 _ _)) ?_; clear hK K; try clear Q'
        refine wpOS_nil (hQn _ _ ?_); clear hQn hQp QR
        show Code.wp _ _ _ _ _
        repeat (first | simp only [List.nil_append] at h15 | simp only [List.cons_append] at h15 | simp only [List.set_cons_zero] at h15 | simp only [List.set_cons_succ] at h15 | simp only [List.eraseIdx_zero] at h15 | simp only [List.tail_cons] at h15 | simp only [List.eraseIdx_cons_zero] at h15 | simp only [List.eraseIdx_cons_succ] at h15 | simp only [List.setIfInBounds_toArray] at h15)
        refine wp_region_lit ?_
        iterate 3 (refine wpList_plainQ rfl (fun K Q' hK => ?_); go_simp; refine hK _ _ ?_; clear hK K; try clear Q')
        refine wpList_nil ?_
        -- stops at: end ('roundend',)
        show _ ∧ _
        go_roundw
        case rel =>
          show FoldInv _ _ _ _ _ _ _ _ _ _ _ _ _
          unfold FoldInv
          refine ⟨k + 1, Hp.meld O (Hp.ofL [y]), rI, rL, _, by omega, by simp, htab7_14, hX7_14, by rw [htk, Hp.ofL_snoc]; exact hI_14, hL, ?_, ?_⟩
          · rw [htk]
            exact (Hp.els_meld hO.ok hJ.ok).trans (pO.out.append (Hp.els_ofL [y]))
          · rw [htk, Hp.ofC_snoc, Hp.ofD_snoc, Int.natCast_add, Int.natCast_add, ← Int.add_assoc, ← Int.add_assoc]
            exact h15
        case measure => simp [intOf]; omega
      · obtain rfl : k = a.length := by omega
        as_aux_lemma =>
        rw [List.take_length] at hs hG pO sG
        have oO := hO.ok
        have sX7 : Hp.size (Hp.ofL a) = a.length := sG
        obtain ⟨tx, htx⟩ : ∃ t, Hid (Hp.text (Hp.ofL a) = t) := ⟨_, show _ = _ from rfl⟩
        obtain ⟨st, hst⟩ : ∃ s, Hid (IntKind.i64.wrap (0 + (Hp.ofC a : Int) + (0 + (Hp.ofD a : Int))) = s) := ⟨_, show _ = _ from rfl⟩
        have haY : ElRep H7 _ a := ha.mono hs.le
        refine wp_seq ?_
        refine wp_seq ?_
        repeat (first | simp only [List.nil_append] at hs | simp only [List.cons_append] at hs | simp only [List.set_cons_zero] at hs | simp only [List.set_cons_succ] at hs | simp only [List.eraseIdx_zero] at hs | simp only [List.tail_cons] at hs | simp only [List.eraseIdx_cons_zero] at hs | simp only [List.eraseIdx_cons_succ] at hs | simp only [List.setIfInBounds_toArray] at hs)
        refine wp_region_lit ?_
        iterate 4 (refine wpList_plainQ rfl (fun K Q' hK => ?_); go_simp; refine hK _ _ ?_; clear hK K; try clear Q')
        refine wpList_nil ?_
        show Code.wp _ _ _ _ _
        -- stops at: cond
        refine wp_cond_false (rfl) ?_
        refine wp_exit ?_
        show Code.wp _ _ _ _ _
        refine wp_seq ?_
        refine hs.region [2, 3, 4] [(0, true), (2, true), (1, false), (3, false), (4, true), (5, true), (6, true), (8, true), (7, false), (9, false), (10, true), (11, true), (12, true), (13, true), (15, true), (16, true), (14, false), (17, true), (18, true), (19, true), (20, true), (22, true), (21, false), (23, false), (24, false), (25, true), (26, true)] (by kernel_rfl) (by kernel_rfl) (fun w16 h16 => ?_)
        refine wpOrd_hide (fun _ _ d _ _ h => by cases d <;> exact h) (fun QR hQn hQp => ?_)
        simp only [ordOps, List.map_cons, List.map_nil, List.getD_cons_zero, List.getD_cons_succ]
        iterate 2 (refine wpOrd_quiet (v := ?_) rfl (fun _ _ _ => hQp _ _ _ _ _) ?_ ?_; rotate_left; (intro w' hS; have c_3_0 := hS.cell 1 rfl 0 rfl; have c_2_0 := hS.cell 0 rfl 0 rfl; (first | (go_simp; done) | (go_simp; with_reducible rfl))); simp only [Act.put, List.setIfInBounds_toArray, List.set_cons_zero, List.set_cons_succ])
        -- stops at: eff:call (Go.Op.call {'callee': (Go.Callee.value (Go.Operand.func 26)), 'args': [(Go.Operand.tmp 42)], 'argTypes': [26]}) slot 43
        refine wpOrd_effQ rfl (fun K Q' hK => ?_); go_simp
        refine (hshow_ok htab7 h16.fits (by omega) hG).mono ?_
        rintro e wS1 ⟨HS1, rfl, hpS1⟩
        rw [htx.out]
        have h17 := h16.call0 hpS1
        have haY_17 := haY.mono hpS1.le
        have htab7_17 := htab7.mono hpS1.le
        have hX7_17 := hX7.mono hpS1.le
        have hG_17 := hG.mono hpS1.le
        have hO_17 := hO.mono hpS1.le
        refine hK _ _ (h17.sat' hpS1.le [2, 3, 4] (sel_cons rfl rfl (sel_cons rfl rfl (sel_cons rfl rfl (sel_nil2 _ _))))) ?_; clear hK K; try clear Q'
        -- stops at: eff:call (Go.Op.call {'callee': (Go.Callee.value (Go.Operand.func 26)), 'args': [(Go.Operand.tmp 44)], 'argTypes': [26]}) slot 45
        refine wpOrd_effQ rfl (fun K Q' hK => ?_); go_simp
        refine (hshow_ok htab7_17 h17.fits (by omega) hX7_17).mono ?_
        rintro e wS2 ⟨HS2, rfl, hpS2⟩
        rw [htx.out]
        have h18 := h17.call0 hpS2
        have haY_18 := haY_17.mono hpS2.le
        have htab7_18 := htab7_17.mono hpS2.le
        have hX7_18 := hX7_17.mono hpS2.le
        have hG_18 := hG_17.mono hpS2.le
        have hO_18 := hO_17.mono hpS2.le
        refine hK _ _ (h18.sat' (GH.le.trans hpS1.le hpS2.le) [2, 3, 4] (sel_cons rfl rfl (sel_cons rfl rfl (sel_cons rfl rfl (sel_nil2 _ _))))) ?_; clear hK K; try clear Q'
        iterate 2 (refine wpOrd_quiet (v := ?_) rfl (fun _ _ _ => hQp _ _ _ _ _) ?_ ?_; rotate_left; (intro w' hS; (first | (go_simp; done) | (go_simp; with_reducible rfl))); simp only [Act.put, List.setIfInBounds_toArray, List.set_cons_zero, List.set_cons_succ])
        iterate 2 (first | (refine wpOrd_skip rfl (fun _ _ _ => hQp _ _ _ _ _) ?_; simp only [Act.put, List.setIfInBounds_toArray, List.set_cons_zero, List.set_cons_succ]) | (refine wpOrd_quiet (v := ?_) rfl (fun _ _ _ => hQp _ _ _ _ _) ?_ ?_; rotate_left; (intro w' hS; (first | (go_simp; done) | (go_simp; with_reducible rfl))); simp only [Act.put, List.setIfInBounds_toArray, List.set_cons_zero, List.set_cons_succ]))
        -- stops at: eff:call (Go.Op.call {'callee': (Go.Callee.value (Go.Operand.func 29)), 'args': [(Go.Operand.tmp 48)], 'argTypes': [36]}) slot 49
        refine wpOrd_effQ rfl (fun K Q' hK => ?_); go_simp
        refine (steps_ok _ _ bM _ _ (h18.pre_at (i := 0) rfl)).mono ?_
        rintro e wS3 ⟨rfl, hpS3⟩
        rw [hst.out]
        have h19 := h18.call_at (i := 0) rfl hpS3
        have haY_19 := haY_18.mono hpS3.le
        have htab7_19 := htab7_18.mono hpS3.le
        have hX7_19 := hX7_18.mono hpS3.le
        have hG_19 := hG_18.mono hpS3.le
        have hO_19 := hO_18.mono hpS3.le
        refine hK _ _ (h19.sat' (GH.le.trans (GH.le.trans hpS1.le hpS2.le) hpS3.le) [2, 3, 4] (sel_cons rfl rfl (sel_cons rfl rfl (sel_cons rfl rfl (sel_nil2 _ _))))) ?_; clear hK K; try clear Q'
        -- stops at: eff:call (Go.Op.call {'callee': (Go.Callee.value (Go.Operand.func 29)), 'args': [(Go.Operand.tmp 50)], 'argTypes': [36]}) slot 51
        refine wpOrd_effQ rfl (fun K Q' hK => ?_); go_simp
        refine (steps_ok _ _ bN _ _ (h19.pre_at (i := 1) rfl)).mono ?_
        rintro e wS4 ⟨rfl, hpS4⟩
        rw [hst.out]
        have h20 := h19.call_at (i := 1) rfl hpS4
        have haY_20 := haY_19.mono hpS4.le
        have htab7_20 := htab7_19.mono hpS4.le
        have hX7_20 := hX7_19.mono hpS4.le
        have hG_20 := hG_19.mono hpS4.le
        have hO_20 := hO_19.mono hpS4.le
        refine hK _ _ (h20.sat' (GH.le.trans (GH.le.trans (GH.le.trans hpS1.le hpS2.le) hpS3.le) hpS4.le) [2, 3, 4] (sel_cons rfl rfl (sel_cons rfl rfl (sel_cons rfl rfl (sel_nil2 _ _))))) ?_; clear hK K; try clear Q'
        iterate 1 (first | (refine wpOrd_skip rfl (fun _ _ _ => hQp _ _ _ _ _) ?_; simp only [Act.put, List.setIfInBounds_toArray, List.set_cons_zero, List.set_cons_succ]) | (refine wpOrd_quiet (v := ?_) rfl (fun _ _ _ => hQp _ _ _ _ _) ?_ ?_; rotate_left; (intro w' hS; (first | (go_simp; done) | (go_simp; with_reducible rfl))); simp only [Act.put, List.setIfInBounds_toArray, List.set_cons_zero, List.set_cons_succ]))
        iterate 2 (refine wpOrd_quiet (v := ?_) rfl (fun _ _ _ => hQp _ _ _ _ _) ?_ ?_; rotate_left; (intro w' hS; (first | (go_simp; done) | (go_simp; with_reducible rfl))); simp only [Act.put, List.setIfInBounds_toArray, List.set_cons_zero, List.set_cons_succ])
        iterate 3 (first | (refine wpOrd_skip rfl (fun _ _ _ => hQp _ _ _ _ _) ?_; simp only [Act.put, List.setIfInBounds_toArray, List.set_cons_zero, List.set_cons_succ]) | (refine wpOrd_quiet (v := ?_) rfl (fun _ _ _ => hQp _ _ _ _ _) ?_ ?_; rotate_left; (intro w' hS; have c_4_0 := hS.cell 2 rfl 0 rfl; (first | (go_simp; done) | (go_simp; with_reducible rfl))); simp only [Act.put, List.setIfInBounds_toArray, List.set_cons_zero, List.set_cons_succ]))
        -- stops at: eff:call (Go.Op.call {'callee': (Go.Callee.value (Go.Operand.func 20)), 'args': [(Go.Operand.tmp 55)], 'argTypes': [26]}) slot 56
        refine wpOrd_effQ rfl (fun K Q' hK => ?_); go_simp
        refine (hsize_ok h20.fits (by omega) hO_20).mono ?_
        rintro e wZ1 ⟨HZ1, rfl, hpZ1⟩
        rw [sO]
        have h21 := h20.call0 hpZ1
        have haY_21 := haY_20.mono hpZ1.le
        have htab7_21 := htab7_20.mono hpZ1.le
        have hX7_21 := hX7_20.mono hpZ1.le
        have hG_21 := hG_20.mono hpZ1.le
        have hO_21 := hO_20.mono hpZ1.le
        refine hK _ _ (h21.sat' (GH.le.trans (GH.le.trans (GH.le.trans (GH.le.trans hpS1.le hpS2.le) hpS3.le) hpS4.le) hpZ1.le) [2, 3, 4] (sel_cons rfl rfl (sel_cons rfl rfl (sel_cons rfl rfl (sel_nil2 _ _))))) ?_; clear hK K; try clear Q'
        iterate 1 (first | (refine wpOrd_skip rfl (fun _ _ _ => hQp _ _ _ _ _) ?_; simp only [Act.put, List.setIfInBounds_toArray, List.set_cons_zero, List.set_cons_succ]) | (refine wpOrd_quiet (v := ?_) rfl (fun _ _ _ => hQp _ _ _ _ _) ?_ ?_; rotate_left; (intro w' hS; (first | (go_simp; done) | (go_simp; with_reducible rfl))); simp only [Act.put, List.setIfInBounds_toArray, List.set_cons_zero, List.set_cons_succ]))
        iterate 2 (refine wpOrd_quiet (v := ?_) rfl (fun _ _ _ => hQp _ _ _ _ _) ?_ ?_; rotate_left; (intro w' hS; (first | (go_simp; done) | (go_simp; with_reducible rfl))); simp only [Act.put, List.setIfInBounds_toArray, List.set_cons_zero, List.set_cons_succ])
        iterate 2 (first | (refine wpOrd_skip rfl (fun _ _ _ => hQp _ _ _ _ _) ?_; simp only [Act.put, List.setIfInBounds_toArray, List.set_cons_zero, List.set_cons_succ]) | (refine wpOrd_quiet (v := ?_) rfl (fun _ _ _ => hQp _ _ _ _ _) ?_ ?_; rotate_left; (intro w' hS; have c_4_0 := hS.cell 2 rfl 0 rfl; (first | (go_simp; done) | (go_simp; with_reducible rfl))); simp only [Act.put, List.setIfInBounds_toArray, List.set_cons_zero, List.set_cons_succ]))
        -- stops at: eff:call (Go.Op.call {'callee': (Go.Callee.value (Go.Operand.func 17)), 'args': [(Go.Operand.tmp 62), (Go.Operand.const (Go.Value.int Go.IntKind.i64 200))], 'argTypes':  slot 63
        refine wpOrd_effQ rfl (fun K Q' hK => ?_); go_simp
        refine (drain_ok _ _ _ O 200 (by omega) (by omega) h21.fits hO_21).mono ?_
        rintro e wD1 ⟨vD1, HD1, rfl, hpD1, dD1⟩
        rw [drainL_all 200 O oO (by omega), sortE_congr pO.out] at dD1
        have h22 := h21.call0 hpD1
        have haY_22 := haY_21.mono hpD1.le
        have htab7_22 := htab7_21.mono hpD1.le
        have hX7_22 := hX7_21.mono hpD1.le
        have hG_22 := hG_21.mono hpD1.le
        have hO_22 := hO_21.mono hpD1.le
        refine hK _ _ (h22.sat' (GH.le.trans (GH.le.trans (GH.le.trans (GH.le.trans (GH.le.trans hpS1.le hpS2.le) hpS3.le) hpS4.le) hpZ1.le) hpD1.le) [2, 3, 4] (sel_cons rfl rfl (sel_cons rfl rfl (sel_cons rfl rfl (sel_nil2 _ _))))) ?_; clear hK K; try clear Q'
        -- stops at: eff:call (Go.Op.call {'callee': (Go.Callee.value (Go.Operand.func 16)), 'args': [(Go.Operand.tmp 64)], 'argTypes': [22]}) slot 65
        refine wpOrd_effQ rfl (fun K Q' hK => ?_); go_simp
        refine (rsort_ok _ _ _ a (by first | omega | simp) h22.fits haY_22).mono ?_
        rintro e wD2 ⟨vD2, HD2, rfl, hpD2, dD2⟩
        have h23 := h22.call0 hpD2
        have haY_23 := haY_22.mono hpD2.le
        have htab7_23 := htab7_22.mono hpD2.le
        have hX7_23 := hX7_22.mono hpD2.le
        have hG_23 := hG_22.mono hpD2.le
        have hO_23 := hO_22.mono hpD2.le
        have dD1_23 := dD1.mono hpD2.le
        refine hK _ _ (h23.sat' (GH.le.trans (GH.le.trans (GH.le.trans (GH.le.trans (GH.le.trans (GH.le.trans hpS1.le hpS2.le) hpS3.le) hpS4.le) hpZ1.le) hpD1.le) hpD2.le) [2, 3, 4] (sel_cons rfl rfl (sel_cons rfl rfl (sel_cons rfl rfl (sel_nil2 _ _))))) ?_; clear hK K; try clear Q'
        -- stops at: eff:call (Go.Op.call {'callee': (Go.Callee.value (Go.Operand.func 18)), 'args': [(Go.Operand.tmp 63), (Go.Operand.tmp 65)], 'argTypes': [22, 22]}) slot 66
        refine wpOrd_effQ rfl (fun K Q' hK => ?_); go_simp
        refine (rsame_ok _ _ _ _ _ _ (by rw [sortE_length]; omega) (by rw [sortE_length]; omega) h23.fits dD1_23 dD2).mono ?_
        rintro e wE1 ⟨rfl, hkE1⟩
        rw [decide_eq_true (rfl)]
        have h24 := h23.callk hkE1
        refine hK _ _ (h24.sat' (GH.le.trans (GH.le.trans (GH.le.trans (GH.le.trans (GH.le.trans (GH.le.trans hpS1.le hpS2.le) hpS3.le) hpS4.le) hpZ1.le) hpD1.le) hpD2.le) [2, 3, 4] (sel_cons rfl rfl (sel_cons rfl rfl (sel_cons rfl rfl (sel_nil2 _ _))))) ?_; clear hK K; try clear Q'
        iterate 2 (refine wpOrd_quiet (v := ?_) rfl (fun _ _ _ => hQp _ _ _ _ _) ?_ ?_; rotate_left; (intro w' hS; (first | (go_simp; done) | (go_simp; with_reducible rfl))); simp only [Act.put, List.setIfInBounds_toArray, List.set_cons_zero, List.set_cons_succ])
        refine wpOrd_nil (hQn _ _ ?_); clear hQn hQp QR
        show Code.wp _ _ _ _ _
        -- stops at: ret
        refine wp_ret ?_
        go_ret
        exact ⟨rfl, h24.post.keep⟩
  · have hl1 : decide ((60 : Int) < (a.length : Int)) = true := by simp; omega
    go_enter Tryd.func10, Tryd.ntmps10
    have h0 := St.start hpre
    refine wp_seq ?_
    repeat (first | simp only [List.nil_append] at h0 | simp only [List.cons_append] at h0 | simp only [List.set_cons_zero] at h0 | simp only [List.set_cons_succ] at h0 | simp only [List.eraseIdx_zero] at h0 | simp only [List.tail_cons] at h0 | simp only [List.eraseIdx_cons_zero] at h0 | simp only [List.eraseIdx_cons_succ] at h0 | simp only [List.setIfInBounds_toArray] at h0)
    refine wp_region_lit ?_
    iterate 1 (refine wpList_plainQ rfl (fun K Q' hK => ?_); go_simp; refine hK _ _ ?_; clear hK K; try clear Q')
    refine wpList_nil ?_
    show Code.wp _ _ _ _ _
    refine wp_seq ?_
    refine wp_region_lit ?_
    -- stops at: eff:call (Go.Op.call {'callee': (Go.Callee.value (Go.Operand.func 13)), 'args': [], 'argTypes': []}) slot 10
    refine wpList_plainQ rfl (fun K Q' hK => ?_); go_simp
    refine (awake_ok H _ h0.fits htab).mono ?_
    rintro e wAw ⟨HAw, rfl, hpAw⟩
    have h1 := h0.call0 hpAw
    have htab_1 := htab.mono hpAw.le
    refine hK _ _ ?_; clear hK K; try clear Q'
    iterate 1 (refine wpList_plainQ rfl (fun K Q' hK => ?_); go_simp; refine hK _ _ ?_; clear hK K; try clear Q')
    refine wpList_nil ?_
    show Code.wp _ _ _ _ _
    refine wp_seq ?_
    refine wp_seq ?_
    repeat (first | simp only [List.nil_append] at h1 | simp only [List.cons_append] at h1 | simp only [List.set_cons_zero] at h1 | simp only [List.set_cons_succ] at h1 | simp only [List.eraseIdx_zero] at h1 | simp only [List.tail_cons] at h1 | simp only [List.eraseIdx_cons_zero] at h1 | simp only [List.eraseIdx_cons_succ] at h1 | simp only [List.setIfInBounds_toArray] at h1)
    refine wp_region_lit ?_
    iterate 2 (refine wpList_plainQ rfl (fun K Q' hK => ?_); go_simp; refine hK _ _ ?_; clear hK K; try clear Q')
    refine wpList_nil ?_
    show Code.wp _ _ _ _ _
    -- stops at: cond
    refine wp_cond_false (rfl) ?_
    refine wp_skip ?_
    show Code.wp _ _ _ _ _
    refine wp_seq ?_
    refine wp_seq ?_
    refine wp_region_lit ?_
    iterate 3 (refine wpList_plainQ rfl (fun K Q' hK => ?_); go_simp; refine hK _ _ ?_; clear hK K; try clear Q')
    refine wpList_nil ?_
    show Code.wp _ _ _ _ _
    -- stops at: cond
    refine wp_cond_true (rfl) ?_
    refine wp_seq ?_
    refine wp_region_lit ?_
    iterate 1 (refine wpList_plainQ rfl (fun K Q' hK => ?_); go_simp; refine hK _ _ ?_; clear hK K; try clear Q')
    refine wpList_nil ?_
    show Code.wp _ _ _ _ _
    -- stops at: ret
    refine wp_ret ?_
    go_ret
    exact ⟨rfl, h1.post.keep⟩
end Go.Proofs.YtceamdacacacjaaDoor
