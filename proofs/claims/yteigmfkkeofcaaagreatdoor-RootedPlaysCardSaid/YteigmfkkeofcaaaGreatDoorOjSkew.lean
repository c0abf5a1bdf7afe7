/-
Skew heaps: putting in, melding, the least one.
-/
import Derived.Test.YteigmfkkeofcaaaGreatDoorOiSkew
namespace Go.Proofs.YteigmfkkeofcaaaGreatDoor
open Go Go.RowKit
set_option linter.unusedVariables false

/-- A heap as a value. -/
abbrev hV (p : Option Addr) : Value := .agg #[.pointer p]

set_option maxRecDepth 100000 in
set_option maxHeartbeats 4000000 in
theorem skinsert_ok (H : GH) (w : World) (m : Option Nat) (c d : Int) (p : Option Addr) (x : El) (l : List (Tr El)) (hpre : Pre w H m c d) (hn : Rw.size l < 900000) (hx : ∀ y ∈ [x], True) (hl : LsR H p l) :
    Calls Tryz.prog 25 #[hV p, mV m, elV x] w fun e w' => ∃ r H', e = .returned (hV r) ∧ Post w H m w' H' (c + Sk.insC l) (d + Sk.insD l) ∧ LsR H' r (Sk.insert kf x l) := by
  match l, hn, hl with
  | [], hn, hl =>
    as_aux_lemma =>
    go_enter Tryz.func25, Tryz.ntmps25
    have h0 := St.start hpre
    refine wp_seq ?_
    refine wp_region_lit ?_
    refine wpList_plainQ rfl (fun K Q' hK => ?_); go_simp
    refine h0.k_alloc (fun w1 h1 => ?_)
    refine hK _ _ ?_; clear hK K; try clear Q'
    refine wpList_plainQ rfl (fun K Q' hK => ?_); go_simp
    refine h1.k_alloc (fun w2 h2 => ?_)
    refine hK _ _ ?_; clear hK K; try clear Q'
    refine wpList_plainQ rfl (fun K Q' hK => ?_); go_simp
    refine h2.k_alloc (fun w3 h3 => ?_)
    refine hK _ _ ?_; clear hK K; try clear Q'
    refine wpList_nil ?_
    show Code.wp _ _ _ _ _
    refine wp_seq ?_
    refine wp_region_lit ?_
    have c_0_0 := h3.cell 0 rfl 0 rfl
    iterate 2 (refine wpList_plainQ rfl (fun K Q' hK => ?_); go_simp; refine hK _ _ ?_; clear hK K; try clear Q')
    clear c_0_0
    -- stops at: eff:call (Go.Op.call {'callee': (Go.Callee.value (Go.Operand.func 44)), 'args': [(Go.Operand.tmp 13)], 'argTypes': [71]}) slot 14
    refine wpList_plainQ rfl (fun K Q' hK => ?_); go_simp
    refine ((fun w hf => first_row_nil H w p hf hl) _ h3.fits).mono ?_
    rintro e wA ⟨rfl, hkA⟩
    have h4 := h3.callk hkA
    refine hK _ _ ?_; clear hK K; try clear Q'
    iterate 5 (refine wpList_plainQ rfl (fun K Q' hK => ?_); go_simp; refine hK _ _ ?_; clear hK K; try clear Q')
    refine wpList_nil ?_
    show Code.wp _ _ _ _ _
    refine wp_seq ?_
    refine wp_region_lit ?_
    have c_0_0 := h4.cell 0 rfl 0 rfl
    iterate 2 (refine wpList_plainQ rfl (fun K Q' hK => ?_); go_simp; refine hK _ _ ?_; clear hK K; try clear Q')
    clear c_0_0
    -- stops at: eff:call (Go.Op.call {'callee': (Go.Callee.value (Go.Operand.func 45)), 'args': [(Go.Operand.tmp 19)], 'argTypes': [71]}) slot 20
    refine wpList_plainQ rfl (fun K Q' hK => ?_); go_simp
    refine (rest_row H _ p _ h4.fits hl).mono ?_
    rintro e wB ⟨q1, rfl, hkB, hq1⟩
    have h5 := h4.callk hkB
    refine hK _ _ ?_; clear hK K; try clear Q'
    -- stops at: eff:call (Go.Op.call {'callee': (Go.Callee.value (Go.Operand.func 44)), 'args': [(Go.Operand.tmp 20)], 'argTypes': [71]}) slot 21
    refine wpList_plainQ rfl (fun K Q' hK => ?_); go_simp
    refine ((fun w hf => first_row_nil H w q1 hf hq1) _ h5.fits).mono ?_
    rintro e wC ⟨rfl, hkC⟩
    have h6 := h5.callk hkC
    refine hK _ _ ?_; clear hK K; try clear Q'
    iterate 5 (refine wpList_plainQ rfl (fun K Q' hK => ?_); go_simp; refine hK _ _ ?_; clear hK K; try clear Q')
    refine wpList_nil ?_
    show Code.wp _ _ _ _ _
    refine wp_seq ?_
    refine wp_seq ?_
    refine wp_region_lit ?_
    iterate 2 (refine wpList_plainQ rfl (fun K Q' hK => ?_); go_simp; refine hK _ _ ?_; clear hK K; try clear Q')
    first | go_skip | (iterate 1 (refine wpList_stepQ (o := { dst := _, op := _, type := _, pos := _, after := _, guard := some (1, true) }) (fun K Q' hK => ?_); go_simp; refine hK _ _ ?_; clear hK K; try clear Q')) | skip
    -- stops at: eff:call (Go.Op.call {'callee': (Go.Callee.value (Go.Operand.func 46)), 'args': [(Go.Operand.tmp 26)], 'argTypes': [94]}) slot 27
    first | go_skip | (refine wpList_skip rfl ?_; simp only [Act.put, List.setIfInBounds_toArray, List.set_cons_zero, List.set_cons_succ]) | skip
    first | go_skip | (iterate 1 (refine wpList_stepQ (o := { dst := _, op := _, type := _, pos := _, after := _, guard := some (1, true) }) (fun K Q' hK => ?_); go_simp; refine hK _ _ ?_; clear hK K; try clear Q')) | skip
    -- stops at: eff:call (Go.Op.call {'callee': (Go.Callee.value (Go.Operand.func 46)), 'args': [(Go.Operand.tmp 28)], 'argTypes': [94]}) slot 29
    first | go_skip | (refine wpList_skip rfl ?_; simp only [Act.put, List.setIfInBounds_toArray, List.set_cons_zero, List.set_cons_succ]) | skip
    first | go_skip | (iterate 1 (refine wpList_stepQ (o := { dst := _, op := _, type := _, pos := _, after := _, guard := some (1, true) }) (fun K Q' hK => ?_); go_simp; refine hK _ _ ?_; clear hK K; try clear Q')) | skip
    iterate 1 (refine wpList_plainQ rfl (fun K Q' hK => ?_); go_simp; refine hK _ _ ?_; clear hK K; try clear Q')
    refine wpList_nil ?_
    show Code.wp _ _ _ _ _
    -- stops at: cond
    refine wp_cond_false (rfl) ?_
    refine wp_skip ?_
    show Code.wp _ _ _ _ _
    refine wp_seq ?_
    refine h6.region [0, 1] [(0, true), (1, true), (2, true), (3, true), (4, false), (5, false), (6, true), (7, false)] (by kernel_rfl) (by kernel_rfl) (fun w7 h7 => ?_)
    refine wpOrd_hide (fun _ _ d _ _ h => by cases d <;> exact h) (fun QR hQn hQp => ?_)
    simp only [ordOps, List.map_cons, List.map_nil, List.getD_cons_zero, List.getD_cons_succ]
    iterate 4 (refine wpOrd_quiet (v := ?_) rfl (fun _ _ _ => hQp _ _ _ _ _) ?_ ?_; rotate_left; (intro w' hS; have c_0_0 := hS.cell 0 rfl 0 rfl; have c_1_0 := hS.cell 1 rfl 0 rfl; have c_1_1 := hS.cell 1 rfl 1 rfl; (first | (go_simp; done) | (go_simp; with_reducible rfl))); simp only [Act.put, List.setIfInBounds_toArray, List.set_cons_zero, List.set_cons_succ])
    -- stops at: eff:call (Go.Op.call {'callee': (Go.Callee.value (Go.Operand.func 50)), 'args': [(Go.Operand.tmp 44), (Go.Operand.tmp 45)], 'argTypes': [25, 32]}) slot 46
    refine wpOrd_effQ rfl (fun K Q' hK => ?_); go_simp
    refine (leaf_ok H _ m c d x h7.pre hx).mono ?_
    rintro e wL ⟨pl, H1, rfl, hpL, hL⟩
    have h8 := h7.call hpL
    refine hK _ _ (h8.sat' hpL.le [0, 1] (by kernel_rfl)) ?_; clear hK K; try clear Q'
    -- stops at: eff:call (Go.Op.call {'callee': (Go.Callee.value (Go.Operand.func 48)), 'args': [(Go.Operand.tmp 43), (Go.Operand.tmp 46)], 'argTypes': [71, 94]}) slot 47
    refine wpOrd_effQ rfl (fun K Q' hK => ?_); go_simp
    refine (push_row H1 _ p pl (Tr.leaf x) _ (by omega) h8.fits (hl.mono hpL.le) hL).mono ?_
    rintro e wP ⟨q9, H9, rfl, hpP, hq9⟩
    have h9 := h8.call0 hpP
    refine hK _ _ (h9.sat' (GH.le.trans hpL.le hpP.le) [0, 1] (by kernel_rfl)) ?_; clear hK K; try clear Q'
    iterate 1 (refine wpOrd_quiet (v := ?_) rfl (fun _ _ _ => hQp _ _ _ _ _) ?_ ?_; rotate_left; (intro w' hS; (first | (go_simp; done) | (go_simp; with_reducible rfl))); simp only [Act.put, List.setIfInBounds_toArray, List.set_cons_zero, List.set_cons_succ])
    have c_0 := h9.cell 2 rfl 0 rfl
    have f_0 := h9.free 2 rfl 0
    refine wpOrd_effQ rfl (fun K Q' hK => ?_); go_simp
    clear c_0 f_0
    refine h9.k_set 2 rfl (fun w10 h10 => ?_)
    refine hK _ _ (h10.sat' (GH.le.trans hpL.le hpP.le) [0, 1] (by kernel_rfl)) ?_; clear hK K; try clear Q'
    refine wpOrd_nil (hQn _ _ ?_); clear hQn hQp QR
    show Code.wp _ _ _ _ _
    -- stops at: ret
    refine wp_ret ?_
    have r_2_0 := h10.cell 2 rfl 0 rfl
    first | show bodyPost _ _ _ _ _ _ | (simp only [Exit.then]; show bodyPost _ _ _ _ _ _) | (simp only [Exit.inBlock]; show bodyPost _ _ _ _ _ _) | (simp only [Exit.inBlock, Exit.then]; show bodyPost _ _ _ _ _ _) | (simp only [Exit.noGoto, Exit.inBlock, Exit.then]; show bodyPost _ _ _ _ _ _)
    refine bodyPost_ret (v := ?_) ?_ rfl ?_
    rotate_left
    · simp only [results, Tryz.results25]; go_simp; with_reducible rfl
    clear r_2_0
    refine ⟨q9, H9, rfl, ?_, hq9⟩
    simpa [Sk.insC, Sk.insD] using h10.post
  | [t], hn, hl =>
    as_aux_lemma =>
    obtain ⟨pt, hpt, hfa⟩ := first_row H p t [] hl
    go_enter Tryz.func25, Tryz.ntmps25
    have h0 := St.start hpre
    refine wp_seq ?_
    refine wp_region_lit ?_
    refine wpList_plainQ rfl (fun K Q' hK => ?_); go_simp
    refine h0.k_alloc (fun w1 h1 => ?_)
    refine hK _ _ ?_; clear hK K; try clear Q'
    refine wpList_plainQ rfl (fun K Q' hK => ?_); go_simp
    refine h1.k_alloc (fun w2 h2 => ?_)
    refine hK _ _ ?_; clear hK K; try clear Q'
    refine wpList_plainQ rfl (fun K Q' hK => ?_); go_simp
    refine h2.k_alloc (fun w3 h3 => ?_)
    refine hK _ _ ?_; clear hK K; try clear Q'
    refine wpList_nil ?_
    show Code.wp _ _ _ _ _
    refine wp_seq ?_
    refine wp_region_lit ?_
    have c_0_0 := h3.cell 0 rfl 0 rfl
    iterate 2 (refine wpList_plainQ rfl (fun K Q' hK => ?_); go_simp; refine hK _ _ ?_; clear hK K; try clear Q')
    clear c_0_0
    -- stops at: eff:call (Go.Op.call {'callee': (Go.Callee.value (Go.Operand.func 44)), 'args': [(Go.Operand.tmp 13)], 'argTypes': [71]}) slot 14
    refine wpList_plainQ rfl (fun K Q' hK => ?_); go_simp
    refine (hfa _ h3.fits).mono ?_
    rintro e wA ⟨rfl, hkA⟩
    have h4 := h3.callk hkA
    refine hK _ _ ?_; clear hK K; try clear Q'
    iterate 5 (refine wpList_plainQ rfl (fun K Q' hK => ?_); go_simp; refine hK _ _ ?_; clear hK K; try clear Q')
    refine wpList_nil ?_
    show Code.wp _ _ _ _ _
    refine wp_seq ?_
    refine wp_region_lit ?_
    have c_0_0 := h4.cell 0 rfl 0 rfl
    iterate 2 (refine wpList_plainQ rfl (fun K Q' hK => ?_); go_simp; refine hK _ _ ?_; clear hK K; try clear Q')
    clear c_0_0
    -- stops at: eff:call (Go.Op.call {'callee': (Go.Callee.value (Go.Operand.func 45)), 'args': [(Go.Operand.tmp 19)], 'argTypes': [71]}) slot 20
    refine wpList_plainQ rfl (fun K Q' hK => ?_); go_simp
    refine (rest_row H _ p _ h4.fits hl).mono ?_
    rintro e wB ⟨q1, rfl, hkB, hq1⟩
    have h5 := h4.callk hkB
    refine hK _ _ ?_; clear hK K; try clear Q'
    -- stops at: eff:call (Go.Op.call {'callee': (Go.Callee.value (Go.Operand.func 44)), 'args': [(Go.Operand.tmp 20)], 'argTypes': [71]}) slot 21
    refine wpList_plainQ rfl (fun K Q' hK => ?_); go_simp
    refine ((fun w hf => first_row_nil H w q1 hf hq1) _ h5.fits).mono ?_
    rintro e wC ⟨rfl, hkC⟩
    have h6 := h5.callk hkC
    refine hK _ _ ?_; clear hK K; try clear Q'
    iterate 5 (refine wpList_plainQ rfl (fun K Q' hK => ?_); go_simp; refine hK _ _ ?_; clear hK K; try clear Q')
    refine wpList_nil ?_
    show Code.wp _ _ _ _ _
    refine wp_seq ?_
    refine wp_seq ?_
    refine wp_region_lit ?_
    iterate 2 (refine wpList_plainQ rfl (fun K Q' hK => ?_); go_simp; refine hK _ _ ?_; clear hK K; try clear Q')
    first | go_skip | (iterate 1 (refine wpList_stepQ (o := { dst := _, op := _, type := _, pos := _, after := _, guard := some (1, true) }) (fun K Q' hK => ?_); go_simp; refine hK _ _ ?_; clear hK K; try clear Q')) | skip
    -- stops at: eff:call (Go.Op.call {'callee': (Go.Callee.value (Go.Operand.func 46)), 'args': [(Go.Operand.tmp 26)], 'argTypes': [94]}) slot 27
    first | go_skip | (refine wpList_skip rfl ?_; simp only [Act.put, List.setIfInBounds_toArray, List.set_cons_zero, List.set_cons_succ]) | skip
    first | go_skip | (iterate 1 (refine wpList_stepQ (o := { dst := _, op := _, type := _, pos := _, after := _, guard := some (1, true) }) (fun K Q' hK => ?_); go_simp; refine hK _ _ ?_; clear hK K; try clear Q')) | skip
    -- stops at: eff:call (Go.Op.call {'callee': (Go.Callee.value (Go.Operand.func 46)), 'args': [(Go.Operand.tmp 28)], 'argTypes': [94]}) slot 29
    first | go_skip | (refine wpList_skip rfl ?_; simp only [Act.put, List.setIfInBounds_toArray, List.set_cons_zero, List.set_cons_succ]) | skip
    first | go_skip | (iterate 1 (refine wpList_stepQ (o := { dst := _, op := _, type := _, pos := _, after := _, guard := some (1, true) }) (fun K Q' hK => ?_); go_simp; refine hK _ _ ?_; clear hK K; try clear Q')) | skip
    iterate 1 (refine wpList_plainQ rfl (fun K Q' hK => ?_); go_simp; refine hK _ _ ?_; clear hK K; try clear Q')
    refine wpList_nil ?_
    show Code.wp _ _ _ _ _
    -- stops at: cond
    refine wp_cond_false (rfl) ?_
    refine wp_skip ?_
    show Code.wp _ _ _ _ _
    refine wp_seq ?_
    refine h6.region [0, 1] [(0, true), (1, true), (2, true), (3, true), (4, false), (5, false), (6, true), (7, false)] (by kernel_rfl) (by kernel_rfl) (fun w7 h7 => ?_)
    refine wpOrd_hide (fun _ _ d _ _ h => by cases d <;> exact h) (fun QR hQn hQp => ?_)
    simp only [ordOps, List.map_cons, List.map_nil, List.getD_cons_zero, List.getD_cons_succ]
    iterate 4 (refine wpOrd_quiet (v := ?_) rfl (fun _ _ _ => hQp _ _ _ _ _) ?_ ?_; rotate_left; (intro w' hS; have c_0_0 := hS.cell 0 rfl 0 rfl; have c_1_0 := hS.cell 1 rfl 0 rfl; have c_1_1 := hS.cell 1 rfl 1 rfl; (first | (go_simp; done) | (go_simp; with_reducible rfl))); simp only [Act.put, List.setIfInBounds_toArray, List.set_cons_zero, List.set_cons_succ])
    -- stops at: eff:call (Go.Op.call {'callee': (Go.Callee.value (Go.Operand.func 50)), 'args': [(Go.Operand.tmp 44), (Go.Operand.tmp 45)], 'argTypes': [25, 32]}) slot 46
    refine wpOrd_effQ rfl (fun K Q' hK => ?_); go_simp
    refine (leaf_ok H _ m c d x h7.pre hx).mono ?_
    rintro e wL ⟨pl, H1, rfl, hpL, hL⟩
    have h8 := h7.call hpL
    refine hK _ _ (h8.sat' hpL.le [0, 1] (by kernel_rfl)) ?_; clear hK K; try clear Q'
    -- stops at: eff:call (Go.Op.call {'callee': (Go.Callee.value (Go.Operand.func 48)), 'args': [(Go.Operand.tmp 43), (Go.Operand.tmp 46)], 'argTypes': [71, 94]}) slot 47
    refine wpOrd_effQ rfl (fun K Q' hK => ?_); go_simp
    refine (push_row H1 _ p pl (Tr.leaf x) _ (by omega) h8.fits (hl.mono hpL.le) hL).mono ?_
    rintro e wP ⟨q9, H9, rfl, hpP, hq9⟩
    have h9 := h8.call0 hpP
    refine hK _ _ (h9.sat' (GH.le.trans hpL.le hpP.le) [0, 1] (by kernel_rfl)) ?_; clear hK K; try clear Q'
    iterate 1 (refine wpOrd_quiet (v := ?_) rfl (fun _ _ _ => hQp _ _ _ _ _) ?_ ?_; rotate_left; (intro w' hS; (first | (go_simp; done) | (go_simp; with_reducible rfl))); simp only [Act.put, List.setIfInBounds_toArray, List.set_cons_zero, List.set_cons_succ])
    have c_0 := h9.cell 2 rfl 0 rfl
    have f_0 := h9.free 2 rfl 0
    refine wpOrd_effQ rfl (fun K Q' hK => ?_); go_simp
    clear c_0 f_0
    refine h9.k_set 2 rfl (fun w10 h10 => ?_)
    refine hK _ _ (h10.sat' (GH.le.trans hpL.le hpP.le) [0, 1] (by kernel_rfl)) ?_; clear hK K; try clear Q'
    refine wpOrd_nil (hQn _ _ ?_); clear hQn hQp QR
    show Code.wp _ _ _ _ _
    -- stops at: ret
    refine wp_ret ?_
    have r_2_0 := h10.cell 2 rfl 0 rfl
    first | show bodyPost _ _ _ _ _ _ | (simp only [Exit.then]; show bodyPost _ _ _ _ _ _) | (simp only [Exit.inBlock]; show bodyPost _ _ _ _ _ _) | (simp only [Exit.inBlock, Exit.then]; show bodyPost _ _ _ _ _ _) | (simp only [Exit.noGoto, Exit.inBlock, Exit.then]; show bodyPost _ _ _ _ _ _)
    refine bodyPost_ret (v := ?_) ?_ rfl ?_
    rotate_left
    · simp only [results, Tryz.results25]; go_simp; with_reducible rfl
    clear r_2_0
    refine ⟨q9, H9, rfl, ?_, hq9⟩
    simpa [Sk.insC, Sk.insD] using h10.post
  | t :: u :: r, hn, hl =>
    as_aux_lemma =>
    obtain ⟨pt, hpt, hfa⟩ := first_row H p t (u :: r) hl
    have hsz : Hid (t.size + u.size + Rw.size r < 900000) := by rw [Rw.size_cons, Rw.size_cons] at hn; show _ < _; omega
    obtain ⟨r1, hr1⟩ : ∃ r, Hid (t.rank = r) := ⟨_, show _ = _ from rfl⟩
    obtain ⟨r2, hr2⟩ : ∃ r, Hid (u.rank = r) := ⟨_, show _ = _ from rfl⟩
    go_enter Tryz.func25, Tryz.ntmps25
    have h0 := St.start hpre
    refine wp_seq ?_
    refine wp_region_lit ?_
    refine wpList_plainQ rfl (fun K Q' hK => ?_); go_simp
    refine h0.k_alloc (fun w1 h1 => ?_)
    refine hK _ _ ?_; clear hK K; try clear Q'
    refine wpList_plainQ rfl (fun K Q' hK => ?_); go_simp
    refine h1.k_alloc (fun w2 h2 => ?_)
    refine hK _ _ ?_; clear hK K; try clear Q'
    refine wpList_plainQ rfl (fun K Q' hK => ?_); go_simp
    refine h2.k_alloc (fun w3 h3 => ?_)
    refine hK _ _ ?_; clear hK K; try clear Q'
    refine wpList_nil ?_
    show Code.wp _ _ _ _ _
    refine wp_seq ?_
    refine wp_region_lit ?_
    have c_0_0 := h3.cell 0 rfl 0 rfl
    iterate 2 (refine wpList_plainQ rfl (fun K Q' hK => ?_); go_simp; refine hK _ _ ?_; clear hK K; try clear Q')
    clear c_0_0
    -- stops at: eff:call (Go.Op.call {'callee': (Go.Callee.value (Go.Operand.func 44)), 'args': [(Go.Operand.tmp 13)], 'argTypes': [71]}) slot 14
    refine wpList_plainQ rfl (fun K Q' hK => ?_); go_simp
    refine (hfa _ h3.fits).mono ?_
    rintro e wA ⟨rfl, hkA⟩
    have h4 := h3.callk hkA
    refine hK _ _ ?_; clear hK K; try clear Q'
    iterate 5 (refine wpList_plainQ rfl (fun K Q' hK => ?_); go_simp; refine hK _ _ ?_; clear hK K; try clear Q')
    refine wpList_nil ?_
    show Code.wp _ _ _ _ _
    refine wp_seq ?_
    refine wp_region_lit ?_
    have c_0_0 := h4.cell 0 rfl 0 rfl
    iterate 2 (refine wpList_plainQ rfl (fun K Q' hK => ?_); go_simp; refine hK _ _ ?_; clear hK K; try clear Q')
    clear c_0_0
    -- stops at: eff:call (Go.Op.call {'callee': (Go.Callee.value (Go.Operand.func 45)), 'args': [(Go.Operand.tmp 19)], 'argTypes': [71]}) slot 20
    refine wpList_plainQ rfl (fun K Q' hK => ?_); go_simp
    refine (rest_row H _ p _ h4.fits hl).mono ?_
    rintro e wB ⟨q1, rfl, hkB, hq1⟩
    obtain ⟨pu, hpu, hfb⟩ := first_row H q1 u r hq1
    have h5 := h4.callk hkB
    refine hK _ _ ?_; clear hK K; try clear Q'
    -- stops at: eff:call (Go.Op.call {'callee': (Go.Callee.value (Go.Operand.func 44)), 'args': [(Go.Operand.tmp 20)], 'argTypes': [71]}) slot 21
    refine wpList_plainQ rfl (fun K Q' hK => ?_); go_simp
    refine (hfb _ h5.fits).mono ?_
    rintro e wC ⟨rfl, hkC⟩
    have h6 := h5.callk hkC
    refine hK _ _ ?_; clear hK K; try clear Q'
    iterate 5 (refine wpList_plainQ rfl (fun K Q' hK => ?_); go_simp; refine hK _ _ ?_; clear hK K; try clear Q')
    refine wpList_nil ?_
    show Code.wp _ _ _ _ _
    refine wp_seq ?_
    refine wp_seq ?_
    refine wp_region_lit ?_
    iterate 2 (refine wpList_plainQ rfl (fun K Q' hK => ?_); go_simp; refine hK _ _ ?_; clear hK K; try clear Q')
    iterate 1 (refine wpList_stepQ (o := { dst := _, op := _, type := _, pos := _, after := _, guard := some (1, true) }) (fun K Q' hK => ?_); go_simp; refine hK _ _ ?_; clear hK K; try clear Q')
    -- stops at: eff:call (Go.Op.call {'callee': (Go.Callee.value (Go.Operand.func 46)), 'args': [(Go.Operand.tmp 26)], 'argTypes': [94]}) slot 27
    refine wpList_stepQ (fun K Q' hK => ?_); go_simp
    refine (rank_ok H _ pt t h6.fits hpt).mono ?_
    rintro e wD ⟨rfl, hkD⟩
    rw [hr1.out]
    have h7 := h6.callk hkD
    refine hK _ _ ?_; clear hK K; try clear Q'
    iterate 1 (refine wpList_stepQ (o := { dst := _, op := _, type := _, pos := _, after := _, guard := some (1, true) }) (fun K Q' hK => ?_); go_simp; refine hK _ _ ?_; clear hK K; try clear Q')
    -- stops at: eff:call (Go.Op.call {'callee': (Go.Callee.value (Go.Operand.func 46)), 'args': [(Go.Operand.tmp 28)], 'argTypes': [94]}) slot 29
    refine wpList_stepQ (fun K Q' hK => ?_); go_simp
    refine (rank_ok H _ pu u h7.fits hpu).mono ?_
    rintro e wE ⟨rfl, hkE⟩
    rw [hr2.out]
    by_cases heq : t.rank = u.rank
    · have d1 : ((r1 : Int) == r2) = true := by have := hr1.out; have := hr2.out; rw [show r1 = r2 by omega]; simp
      have e1 : Sk.insert kf x (t :: u :: r) = Tr.skew kf x t u :: r := Sk.insert_eq kf r heq
      have e2 : Sk.insC (t :: u :: r) = 2 ∧ Sk.insD (t :: u :: r) = 2 := ⟨if_pos heq, if_pos heq⟩
      clear heq
      have h8 := h7.callk hkE
      refine hK _ _ ?_; clear hK K; try clear Q'
      iterate 1 (refine wpList_stepQ (o := { dst := _, op := _, type := _, pos := _, after := _, guard := some (1, true) }) (fun K Q' hK => ?_); go_simp; refine hK _ _ ?_; clear hK K; try clear Q')
      iterate 1 (refine wpList_plainQ rfl (fun K Q' hK => ?_); go_simp; refine hK _ _ ?_; clear hK K; try clear Q')
      refine wpList_nil ?_
      show Code.wp _ _ _ _ _
      -- stops at: cond
      refine wp_cond_true (rfl) ?_
      refine wp_seq ?_
      refine h8.region [0, 1] [(0, true), (1, true), (3, true), (4, true), (5, true), (6, true), (2, false), (7, false), (8, false), (9, true), (10, false)] (by kernel_rfl) (by kernel_rfl) (fun w9 h9 => ?_)
      refine wpOrd_hide (fun _ _ d _ _ h => by cases d <;> exact h) (fun QR hQn hQp => ?_)
      simp only [ordOps, List.map_cons, List.map_nil, List.getD_cons_zero, List.getD_cons_succ]
      iterate 6 (refine wpOrd_quiet (v := ?_) rfl (fun _ _ _ => hQp _ _ _ _ _) ?_ ?_; rotate_left; (intro w' hS; have c_0_0 := hS.cell 0 rfl 0 rfl; have c_1_0 := hS.cell 1 rfl 0 rfl; have c_1_1 := hS.cell 1 rfl 1 rfl; (first | (go_simp; done) | (go_simp; with_reducible rfl))); simp only [Act.put, List.setIfInBounds_toArray, List.set_cons_zero, List.set_cons_succ])
      -- stops at: eff:call (Go.Op.call {'callee': (Go.Callee.value (Go.Operand.func 47)), 'args': [(Go.Operand.tmp 33), (Go.Operand.const (Go.Value.int Go.IntKind.i64 2))], 'argTypes': [7 slot 34
      refine wpOrd_effQ rfl (fun K Q' hK => ?_); go_simp
      refine (drop_row H _ p _ h9.fits hl).mono ?_
      rintro e wF ⟨q2, rfl, hkF, hq2⟩
      have h10 := h9.callk hkF
      refine hK _ _ (h10.sat' (GH.le_refl _) [0, 1] (by kernel_rfl)) ?_; clear hK K; try clear Q'
      -- stops at: eff:call (Go.Op.call {'callee': (Go.Callee.value (Go.Operand.func 49)), 'args': [(Go.Operand.tmp 35), (Go.Operand.tmp 36), (Go.Operand.tmp 37), (Go.Operand.tmp 38)], 'ar slot 39
      refine wpOrd_effQ rfl (fun K Q' hK => ?_); go_simp
      refine (tskew_ok H _ m c d x pt pu t u h10.pre (by have := hsz.out; omega) hpt hpu hx).mono ?_
      rintro e wG ⟨pg, H1, rfl, hpG, hG⟩
      have h11 := h10.call hpG
      refine hK _ _ (h11.sat' hpG.le [0, 1] (by kernel_rfl)) ?_; clear hK K; try clear Q'
      -- stops at: eff:call (Go.Op.call {'callee': (Go.Callee.value (Go.Operand.func 48)), 'args': [(Go.Operand.tmp 34), (Go.Operand.tmp 39)], 'argTypes': [71, 94]}) slot 40
      refine wpOrd_effQ rfl (fun K Q' hK => ?_); go_simp
      refine (push_row H1 _ q2 pg _ _ (by have := hsz.out; show Rw.size r < _; omega) h11.fits (hq2.mono hpG.le) hG).mono ?_
      rintro e wP ⟨q9, H9, rfl, hpP, hq9⟩
      have h12 := h11.call0 hpP
      refine hK _ _ (h12.sat' (GH.le.trans hpG.le hpP.le) [0, 1] (by kernel_rfl)) ?_; clear hK K; try clear Q'
      iterate 1 (refine wpOrd_quiet (v := ?_) rfl (fun _ _ _ => hQp _ _ _ _ _) ?_ ?_; rotate_left; (intro w' hS; (first | (go_simp; done) | (go_simp; with_reducible rfl))); simp only [Act.put, List.setIfInBounds_toArray, List.set_cons_zero, List.set_cons_succ])
      have c_0 := h12.cell 2 rfl 0 rfl
      have f_0 := h12.free 2 rfl 0
      refine wpOrd_effQ rfl (fun K Q' hK => ?_); go_simp
      clear c_0 f_0
      refine h12.k_set 2 rfl (fun w13 h13 => ?_)
      refine hK _ _ (h13.sat' (GH.le.trans hpG.le hpP.le) [0, 1] (by kernel_rfl)) ?_; clear hK K; try clear Q'
      refine wpOrd_nil (hQn _ _ ?_); clear hQn hQp QR
      show Code.wp _ _ _ _ _
      -- stops at: ret
      refine wp_ret ?_
      have r_2_0 := h13.cell 2 rfl 0 rfl
      first | show bodyPost _ _ _ _ _ _ | (simp only [Exit.then]; show bodyPost _ _ _ _ _ _) | (simp only [Exit.inBlock]; show bodyPost _ _ _ _ _ _) | (simp only [Exit.inBlock, Exit.then]; show bodyPost _ _ _ _ _ _) | (simp only [Exit.noGoto, Exit.inBlock, Exit.then]; show bodyPost _ _ _ _ _ _)
      refine bodyPost_ret (v := ?_) ?_ rfl ?_
      rotate_left
      · simp only [results, Tryz.results25]; go_simp; with_reducible rfl
      clear r_2_0
      refine ⟨q9, H9, rfl, ?_, by rw [e1]; exact hq9⟩
      rw [e2.1, e2.2]
      exact h13.post
    · have d1 : ((r1 : Int) == r2) = false := beq_eq_false_iff_ne.2 (by have := hr1.out; have := hr2.out; omega)
      have e1 : Sk.insert kf x (t :: u :: r) = Tr.leaf x :: t :: u :: r := Sk.insert_ne kf r heq
      have e2 : Sk.insC (t :: u :: r) = 0 ∧ Sk.insD (t :: u :: r) = 1 := ⟨if_neg heq, if_neg heq⟩
      clear heq
      have h14 := h7.callk hkE
      refine hK _ _ ?_; clear hK K; try clear Q'
      iterate 1 (refine wpList_stepQ (o := { dst := _, op := _, type := _, pos := _, after := _, guard := some (1, true) }) (fun K Q' hK => ?_); go_simp; refine hK _ _ ?_; clear hK K; try clear Q')
      iterate 1 (refine wpList_plainQ rfl (fun K Q' hK => ?_); go_simp; refine hK _ _ ?_; clear hK K; try clear Q')
      refine wpList_nil ?_
      show Code.wp _ _ _ _ _
      -- stops at: cond
      refine wp_cond_false (rfl) ?_
      refine wp_skip ?_
      show Code.wp _ _ _ _ _
      refine wp_seq ?_
      refine h14.region [0, 1] [(0, true), (1, true), (2, true), (3, true), (4, false), (5, false), (6, true), (7, false)] (by kernel_rfl) (by kernel_rfl) (fun w15 h15 => ?_)
      refine wpOrd_hide (fun _ _ d _ _ h => by cases d <;> exact h) (fun QR hQn hQp => ?_)
      simp only [ordOps, List.map_cons, List.map_nil, List.getD_cons_zero, List.getD_cons_succ]
      iterate 4 (refine wpOrd_quiet (v := ?_) rfl (fun _ _ _ => hQp _ _ _ _ _) ?_ ?_; rotate_left; (intro w' hS; have c_0_0 := hS.cell 0 rfl 0 rfl; have c_1_0 := hS.cell 1 rfl 0 rfl; have c_1_1 := hS.cell 1 rfl 1 rfl; (first | (go_simp; done) | (go_simp; with_reducible rfl))); simp only [Act.put, List.setIfInBounds_toArray, List.set_cons_zero, List.set_cons_succ])
      -- stops at: eff:call (Go.Op.call {'callee': (Go.Callee.value (Go.Operand.func 50)), 'args': [(Go.Operand.tmp 44), (Go.Operand.tmp 45)], 'argTypes': [25, 32]}) slot 46
      refine wpOrd_effQ rfl (fun K Q' hK => ?_); go_simp
      refine (leaf_ok H _ m c d x h15.pre hx).mono ?_
      rintro e wL ⟨pl, H1, rfl, hpL, hL⟩
      have h16 := h15.call hpL
      refine hK _ _ (h16.sat' hpL.le [0, 1] (by kernel_rfl)) ?_; clear hK K; try clear Q'
      -- stops at: eff:call (Go.Op.call {'callee': (Go.Callee.value (Go.Operand.func 48)), 'args': [(Go.Operand.tmp 43), (Go.Operand.tmp 46)], 'argTypes': [71, 94]}) slot 47
      refine wpOrd_effQ rfl (fun K Q' hK => ?_); go_simp
      refine (push_row H1 _ p pl (Tr.leaf x) _ (by omega) h16.fits (hl.mono hpL.le) hL).mono ?_
      rintro e wP ⟨q9, H9, rfl, hpP, hq9⟩
      have h17 := h16.call0 hpP
      refine hK _ _ (h17.sat' (GH.le.trans hpL.le hpP.le) [0, 1] (by kernel_rfl)) ?_; clear hK K; try clear Q'
      iterate 1 (refine wpOrd_quiet (v := ?_) rfl (fun _ _ _ => hQp _ _ _ _ _) ?_ ?_; rotate_left; (intro w' hS; (first | (go_simp; done) | (go_simp; with_reducible rfl))); simp only [Act.put, List.setIfInBounds_toArray, List.set_cons_zero, List.set_cons_succ])
      have c_0 := h17.cell 2 rfl 0 rfl
      have f_0 := h17.free 2 rfl 0
      refine wpOrd_effQ rfl (fun K Q' hK => ?_); go_simp
      clear c_0 f_0
      refine h17.k_set 2 rfl (fun w18 h18 => ?_)
      refine hK _ _ (h18.sat' (GH.le.trans hpL.le hpP.le) [0, 1] (by kernel_rfl)) ?_; clear hK K; try clear Q'
      refine wpOrd_nil (hQn _ _ ?_); clear hQn hQp QR
      show Code.wp _ _ _ _ _
      -- stops at: ret
      refine wp_ret ?_
      have r_2_0 := h18.cell 2 rfl 0 rfl
      first | show bodyPost _ _ _ _ _ _ | (simp only [Exit.then]; show bodyPost _ _ _ _ _ _) | (simp only [Exit.inBlock]; show bodyPost _ _ _ _ _ _) | (simp only [Exit.inBlock, Exit.then]; show bodyPost _ _ _ _ _ _) | (simp only [Exit.noGoto, Exit.inBlock, Exit.then]; show bodyPost _ _ _ _ _ _)
      refine bodyPost_ret (v := ?_) ?_ rfl ?_
      rotate_left
      · simp only [results, Tryz.results25]; go_simp; with_reducible rfl
      clear r_2_0
      refine ⟨q9, H9, rfl, ?_, (by rw [e1]; exact hq9)⟩
      (rw [e2.1, e2.2]; simpa using h18.post)

set_option maxRecDepth 100000 in
set_option maxHeartbeats 4000000 in
theorem skhmeld_ok (H : GH) (w : World) (m : Option Nat) (c d : Int) (p q : Option Addr) (a b : List (Tr El)) (hpre : Pre w H m c d) (hn : Rw.size a + Rw.size b < 1000000) (ha : LsR H p a) (hb : LsR H q b) :
    Calls Tryz.prog 28 #[hV p, mV m, hV q] w fun e w' => ∃ r H', e = .returned (hV r) ∧ Post w H m w' H' (c + Sk.meldN kf a b) (d + Sk.meldN kf a b) ∧ LsR H' r (Sk.meld kf a b) := by
  obtain ⟨ps, hca, hra⟩ := ha
  obtain ⟨qs, hcb, hrb⟩ := hb
  have hlb : ps.length < 1000000 := by have := hra.1; have := Rw.length_le a; omega
  have hlq : qs.length < 1000000 := by have := hrb.1; have := Rw.length_le b; omega
  go_enter Tryz.func28, Tryz.ntmps28
  have h0 := St.start hpre
  refine wp_seq ?_
  refine wp_region_lit ?_
  refine wpList_plainQ rfl (fun K Q' hK => ?_); go_simp
  refine h0.k_alloc (fun w1 h1 => ?_)
  refine hK _ _ ?_; clear hK K; try clear Q'
  refine wpList_plainQ rfl (fun K Q' hK => ?_); go_simp
  refine h1.k_alloc (fun w2 h2 => ?_)
  refine hK _ _ ?_; clear hK K; try clear Q'
  refine wpList_plainQ rfl (fun K Q' hK => ?_); go_simp
  refine h2.k_alloc (fun w3 h3 => ?_)
  refine hK _ _ ?_; clear hK K; try clear Q'
  refine wpList_nil ?_
  show Code.wp _ _ _ _ _
  refine wp_seq ?_
  refine wp_region_lit ?_
  have c_0_0 := h3.cell 0 rfl 0 rfl
  iterate 3 (refine wpList_plainQ rfl (fun K Q' hK => ?_); go_simp; refine hK _ _ ?_; clear hK K; try clear Q')
  clear c_0_0
  -- stops at: eff:call (Go.Op.call {'callee': (Go.Callee.value (Go.Operand.func 54)), 'args': [(Go.Operand.tmp 11)], 'argTypes': [71]}) slot 12
  refine wpList_plainQ rfl (fun K Q' hK => ?_); go_simp
  refine (CTr.all_ok H _ p ps hlb h3.fits hca).mono ?_
  rintro e wA ⟨vA, rfl, hpA⟩
  obtain ⟨H1, h11, rA, leA⟩ := (h3.callrow hpA).settleRow 0 rfl
  refine hK _ _ ?_; clear hK K; try clear Q'
  -- stops at: eff:call (Go.Op.call {'callee': (Go.Callee.value (Go.Operand.func 53)), 'args': [(Go.Operand.tmp 9), (Go.Operand.tmp 12)], 'argTypes': [25, 107]}) slot 13
  refine wpList_plainQ rfl (fun K Q' hK => ?_); go_simp
  refine (sklevel_ok H1 _ m c d vA a h11.pre (by omega) ⟨ps, rA, hra.mono leA⟩).mono ?_
  rintro e wB ⟨vB, H2, rfl, hpB, hB⟩
  have h5 := h11.call hpB
  refine hK _ _ ?_; clear hK K; try clear Q'
  iterate 1 (refine wpList_plainQ rfl (fun K Q' hK => ?_); go_simp; refine hK _ _ ?_; clear hK K; try clear Q')
  refine wpList_nil ?_
  show Code.wp _ _ _ _ _
  refine wp_seq ?_
  refine wp_region_lit ?_
  have c_1_0 := h5.cell 1 rfl 0 rfl
  iterate 3 (refine wpList_plainQ rfl (fun K Q' hK => ?_); go_simp; refine hK _ _ ?_; clear hK K; try clear Q')
  clear c_1_0
  -- stops at: eff:call (Go.Op.call {'callee': (Go.Callee.value (Go.Operand.func 54)), 'args': [(Go.Operand.tmp 16)], 'argTypes': [71]}) slot 17
  refine wpList_plainQ rfl (fun K Q' hK => ?_); go_simp
  refine (CTr.all_ok H2 _ q qs hlq h5.fits ((hcb.mono leA).mono hpB.le)).mono ?_
  rintro e wC ⟨vC, rfl, hpC⟩
  obtain ⟨H3, h33, rC, leC⟩ := (h5.callrow hpC).settleRow 0 rfl
  refine hK _ _ ?_; clear hK K; try clear Q'
  -- stops at: eff:call (Go.Op.call {'callee': (Go.Callee.value (Go.Operand.func 53)), 'args': [(Go.Operand.tmp 14), (Go.Operand.tmp 17)], 'argTypes': [25, 107]}) slot 18
  refine wpList_plainQ rfl (fun K Q' hK => ?_); go_simp
  refine (sklevel_ok H3 _ m _ _ vC b h33.pre (by omega) ⟨qs, rC, ((hrb.mono leA).mono hpB.le).mono leC⟩).mono ?_
  rintro e wD ⟨vD, H4, rfl, hpD, hD⟩
  have h7 := h33.call hpD
  refine hK _ _ ?_; clear hK K; try clear Q'
  iterate 1 (refine wpList_plainQ rfl (fun K Q' hK => ?_); go_simp; refine hK _ _ ?_; clear hK K; try clear Q')
  refine wpList_nil ?_
  show Code.wp _ _ _ _ _
  refine wp_seq ?_
  refine wp_region_lit ?_
  iterate 3 (refine wpList_plainQ rfl (fun K Q' hK => ?_); go_simp; refine hK _ _ ?_; clear hK K; try clear Q')
  -- stops at: eff:call (Go.Op.call {'callee': (Go.Callee.value (Go.Operand.func 56)), 'args': [(Go.Operand.tmp 19), (Go.Operand.tmp 20), (Go.Operand.tmp 21)], 'argTypes': [25, 107, 10 slot 22
  refine wpList_plainQ rfl (fun K Q' hK => ?_); go_simp
  refine (skmeld_ok _ _ H4 _ m _ _ vB vD h7.pre (by rw [Sk.level_size, Sk.level_size]; exact hn) ((hB.mono leC).mono hpD.le) hD).mono ?_
  rintro e wE ⟨vE, H5, rfl, hpE, hE⟩
  have h8 := h7.call hpE
  refine hK _ _ ?_; clear hK K; try clear Q'
  obtain ⟨rs, hE1, hE2⟩ := hE
  have hrl : rs.length < 1000000 := by
    have h1 := hE2.1
    have h2 := Rw.length_le (Rw.meld kf (Sk.level kf a) (Sk.level kf b))
    rw [Rw.meld_size, Sk.level_size, Sk.level_size] at h2
    omega
  -- stops at: eff:call (Go.Op.call {'callee': (Go.Callee.value (Go.Operand.func 55)), 'args': [(Go.Operand.tmp 22)], 'argTypes': [107]}) slot 23
  refine wpList_plainQ rfl (fun K Q' hK => ?_); go_simp
  refine (CTr.of_ok H5 _ vE rs hrl h8.fits hE1).mono ?_
  rintro e wF ⟨qF, H6, rfl, hpF, hF⟩
  have h9 := h8.call0 hpF
  refine hK _ _ ?_; clear hK K; try clear Q'
  iterate 1 (refine wpList_plainQ rfl (fun K Q' hK => ?_); go_simp; refine hK _ _ ?_; clear hK K; try clear Q')
  have c_0 := h9.cell 2 rfl 0 rfl
  have f_0 := h9.free 2 rfl 0
  refine wpList_plainQ rfl (fun K Q' hK => ?_); go_simp
  clear c_0 f_0
  refine h9.k_set 2 rfl (fun w10 h10 => ?_)
  refine hK _ _ ?_; clear hK K; try clear Q'
  refine wpList_nil ?_
  show Code.wp _ _ _ _ _
  -- stops at: ret
  refine wp_ret ?_
  have r_2_0 := h10.cell 2 rfl 0 rfl
  first | show bodyPost _ _ _ _ _ _ | (simp only [Exit.then]; show bodyPost _ _ _ _ _ _) | (simp only [Exit.inBlock]; show bodyPost _ _ _ _ _ _) | (simp only [Exit.inBlock, Exit.then]; show bodyPost _ _ _ _ _ _) | (simp only [Exit.noGoto, Exit.inBlock, Exit.then]; show bodyPost _ _ _ _ _ _)
  refine bodyPost_ret (v := ?_) ?_ rfl ?_
  rotate_left
  · simp only [results, Tryz.results28]; go_simp; with_reducible rfl
  clear r_2_0
  refine ⟨qF, H6, rfl, ?_, rs, hF, hE2.mono hpF.le⟩
  have hq := h10.post
  have ee : ∀ z : Int, z + (Sk.levelN kf a : Nat) + (Sk.levelN kf b : Nat) + (Rw.meldN kf (Sk.level kf a) (Sk.level kf b) : Nat) = z + ((Sk.meldN kf a b : Nat) : Int) := fun z => by unfold Sk.meldN; omega
  rw [ee, ee] at hq
  exact hq

theorem Rw.minT_some {l : List (Tr El)} (h : l ≠ []) : ∃ t, l[Rw.least kf l]? = some t := by
  have := Rw.least_lt kf h
  exact ⟨l[Rw.least kf l], by simp [this]⟩
end Go.Proofs.YteigmfkkeofcaaaGreatDoor
