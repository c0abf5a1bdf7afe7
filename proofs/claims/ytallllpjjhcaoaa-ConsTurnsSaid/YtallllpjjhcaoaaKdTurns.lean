/-
ConsTurns: its walk.
-/
import Derived.Test.YtallllpjjhcaoaaHcStr
import Derived.Test.YtallllpjjhcaoaaJcAwake
namespace Go.Proofs.Ytallllpjjhcaoaa
open Go Go.RowKit
abbrev StrRep (H : GH) (v : Value) (xs : List ByteArray) : Prop := SliceRep H 1 v xs.length (xs.map Value.string)

set_option maxRecDepth 100000 in
set_option maxHeartbeats 8000000 in
theorem turns_walk (H : GH) (w : World) (v u : Value) (xs ys : List ByteArray) (n : Int) (hn1 : Hid (n ≤ 9223372036854775807)) (hf : Fits w H) (hr : StrRep H v xs) (hs : StrRep H u ys) :
    Calls Try.prog 5 #[v, u, .int .i64 n] w fun e w' => e = .returned (.bool true) ∧ Keep none w w' := by
  have hpre : Pre w H none 0 0 := Pre.none hf 0 0
  obtain ⟨a, cap, rfl, hc1, hc2⟩ := hr.nil_or
  obtain ⟨b, cap2, rfl, hd1, hd2⟩ := hs.nil_or
  have hc3 : xs.length ≤ 9223372036854775807 := by unfold maxLen at hc2; omega
  have hd3 : ys.length ≤ 9223372036854775807 := by unfold maxLen at hd2; omega
  clear hc2 hd2
  by_cases hl : xs.length ≤ 60
  · have hl1 : decide ((60 : Int) < (xs.length : Int)) = false := by simp; omega
    by_cases hm : ys.length ≤ 60
    · have hl2 : decide ((60 : Int) < (ys.length : Int)) = false := by simp; omega
      obtain ⟨ps, hps⟩ : ∃ ps, Hid ((xs ++ ys).reverse = ps) := ⟨_, rfl⟩
      have hpl : Hid (ps.length = xs.length + ys.length) := by have := congrArg List.length hps.out; simp at this; show _ = _; omega
      go_enter Try.func5, Try.ntmps5
      have h0 := St.start hpre
      refine wp_seq ?_
      refine wp_region_lit ?_
      iterate 1 (refine wpList_plain rfl (fun K hK => ?_); go_simp; refine hK _ _ ?_; clear hK K)
      refine wpList_nil ?_
      show Code.wp _ _ _ _ _
      refine wp_seq ?_
      refine wp_region_lit ?_
      -- stops at: eff:call (Go.Op.call {'callee': (Go.Callee.value (Go.Operand.func 6)), 'args': [], 'argTypes': []}) slot 15
      refine wpList_plain rfl (fun K hK => ?_); go_simp
      refine (awake_ok _).mono ?_
      rintro e wA ⟨rfl, hkA⟩
      have h1 := h0.callk hkA
      refine hK _ _ ?_; clear hK K
      iterate 1 (refine wpList_plain rfl (fun K hK => ?_); go_simp; refine hK _ _ ?_; clear hK K)
      refine wpList_nil ?_
      show Code.wp _ _ _ _ _
      refine wp_seq ?_
      refine wp_seq ?_
      refine wp_region_lit ?_
      iterate 2 (refine wpList_plain rfl (fun K hK => ?_); go_simp; refine hK _ _ ?_; clear hK K)
      refine wpList_nil ?_
      show Code.wp _ _ _ _ _
      -- stops at: cond
      refine wp_cond_false (rfl) ?_
      refine wp_skip ?_
      show Code.wp _ _ _ _ _
      refine wp_seq ?_
      refine wp_seq ?_
      refine wp_region_lit ?_
      iterate 4 (refine wpList_plain rfl (fun K hK => ?_); go_simp; refine hK _ _ ?_; clear hK K)
      first | go_skip | (iterate 3 (refine wpList_step (o := { dst := _, op := _, type := _, pos := _, after := _, guard := some (3, false) }) (fun K hK => ?_); go_simp; refine hK _ _ ?_; clear hK K)) | skip
      iterate 1 (refine wpList_plain rfl (fun K hK => ?_); go_simp; refine hK _ _ ?_; clear hK K)
      refine wpList_nil ?_
      show Code.wp _ _ _ _ _
      -- stops at: cond
      refine wp_cond_false (rfl) ?_
      refine wp_skip ?_
      show Code.wp _ _ _ _ _
      refine wp_seq ?_
      refine wp_region_lit ?_
      iterate 1 (refine wpList_plain rfl (fun K hK => ?_); go_simp; refine hK _ _ ?_; clear hK K)
      -- stops at: eff:call (Go.Op.call {'callee': (Go.Callee.value (Go.Operand.func 22)), 'args': [(Go.Operand.tmp 26)], 'argTypes': [46]}) slot 27
      refine wpList_plain rfl (fun K hK => ?_); go_simp
      refine (CStr.of_ok H _ _ xs (by omega) h1.fits hr).mono ?_
      rintro e wB ⟨q, H2, rfl, hp2, hq⟩
      have h2 := h1.call0 hp2
      refine hK _ _ ?_; clear hK K
      have hr2 := hr.mono hp2.le
      have hs2 := hs.mono hp2.le
      refine wpList_plain rfl (fun K hK => ?_); go_simp
      refine h2.k_alloc (fun w3 h3 => ?_)
      refine hK _ _ ?_; clear hK K
      have c_0 := h3.cell 0 rfl 0 rfl
      have f_0 := h3.free 0 rfl 0
      refine wpList_plain rfl (fun K hK => ?_); go_simp
      clear c_0 f_0
      refine h3.k_set 0 rfl (fun w4 h4 => ?_)
      refine hK _ _ ?_; clear hK K
      refine wpList_nil ?_
      show Code.wp _ _ _ _ _
      refine wp_seq ?_
      refine wp_region_lit ?_
      iterate 1 (refine wpList_plain rfl (fun K hK => ?_); go_simp; refine hK _ _ ?_; clear hK K)
      -- stops at: eff:call (Go.Op.call {'callee': (Go.Callee.value (Go.Operand.func 22)), 'args': [(Go.Operand.tmp 28)], 'argTypes': [46]}) slot 29
      refine wpList_plain rfl (fun K hK => ?_); go_simp
      refine (CStr.of_ok H2 _ _ ys (by omega) h4.fits hs2).mono ?_
      rintro e wC ⟨qy, H3, rfl, hp3, hqy⟩
      have h5 := h4.call0 hp3
      have hq_5 := hq.mono hp3.le
      refine hK _ _ ?_; clear hK K
      have hr3 := hr2.mono hp3.le
      have hs3 := hs2.mono hp3.le
      refine wpList_plain rfl (fun K hK => ?_); go_simp
      refine h5.k_alloc (fun w6 h6 => ?_)
      refine hK _ _ ?_; clear hK K
      have c_0 := h6.cell 1 rfl 0 rfl
      have f_0 := h6.free 1 rfl 0
      refine wpList_plain rfl (fun K hK => ?_); go_simp
      clear c_0 f_0
      refine h6.k_set 1 rfl (fun w7 h7 => ?_)
      refine hK _ _ ?_; clear hK K
      refine wpList_nil ?_
      show Code.wp _ _ _ _ _
      refine wp_seq ?_
      refine wp_region_lit ?_
      have c_0_0 := h7.cell 0 rfl 0 rfl
      have c_1_0 := h7.cell 1 rfl 0 rfl
      iterate 2 (refine wpList_plain rfl (fun K hK => ?_); go_simp; refine hK _ _ ?_; clear hK K)
      clear c_0_0 c_1_0
      -- stops at: eff:call (Go.Op.call {'callee': (Go.Callee.value (Go.Operand.func 23)), 'args': [(Go.Operand.tmp 30), (Go.Operand.tmp 31)], 'argTypes': [49, 49]}) slot 32
      refine wpList_plain rfl (fun K hK => ?_); go_simp
      refine (CStr.join_ok H3 _ _ _ xs ys (by omega) h7.fits hq_5 hqy).mono ?_
      rintro e wD ⟨q4, H4, rfl, hp4, hq4⟩
      have h8 := h7.call0 hp4
      have hq_8 := hq_5.mono hp4.le
      have hqy_8 := hqy.mono hp4.le
      refine hK _ _ ?_; clear hK K
      -- stops at: eff:call (Go.Op.call {'callee': (Go.Callee.value (Go.Operand.func 24)), 'args': [(Go.Operand.tmp 32)], 'argTypes': [49]}) slot 33
      refine wpList_plain rfl (fun K hK => ?_); go_simp
      refine (CStr.rev_ok H4 _ _ (xs ++ ys) (by simp; omega) h8.fits hq4).mono ?_
      rintro e wE ⟨q5, H5, rfl, hp5, hq5⟩
      rw [hps.out] at hq5
      have h9 := h8.call0 hp5
      have hq_9 := hq_8.mono hp5.le
      have hqy_9 := hqy_8.mono hp5.le
      refine hK _ _ ?_; clear hK K
      -- stops at: eff:call (Go.Op.call {'callee': (Go.Callee.value (Go.Operand.func 25)), 'args': [(Go.Operand.tmp 33)], 'argTypes': [49]}) slot 34
      refine wpList_plain rfl (fun K hK => ?_); go_simp
      refine (CStr.all_ok H5 _ _ ps (by have := hpl.out; omega) h9.fits hq5).mono ?_
      rintro e wG ⟨vP, rfl, hpG⟩
      obtain ⟨H6, hG, rP, leG⟩ := (h9.callrow hpG).settleRow 0 rfl
      have hr6 := ((hr3.mono hp4.le).mono hp5.le).mono leG
      have hs6 := ((hs3.mono hp4.le).mono hp5.le).mono leG
      have hq_10 := hq_9.mono leG
      have hqy_10 := hqy_9.mono leG
      refine hK _ _ ?_; clear hK K
      iterate 1 (refine wpList_plain rfl (fun K hK => ?_); go_simp; refine hK _ _ ?_; clear hK K)
      refine wpList_nil ?_
      show Code.wp _ _ _ _ _
      refine wp_seq ?_
      refine hG.region [0, 1] [(0, true), (2, true), (1, false), (3, false), (4, false), (5, false), (6, true)] (by kernel_rfl) (by kernel_rfl) (fun w11 h11 => ?_)
      simp only [ordOps, List.map_cons, List.map_nil, List.getD_cons_zero, List.getD_cons_succ]
      iterate 2 (refine wpOrd_quiet (v := ?_) rfl (fun _ _ _ h => h) ?_ ?_; rotate_left; (intro w' hS; have c_1_0 := hS.cell 1 rfl 0 rfl; have c_0_0 := hS.cell 0 rfl 0 rfl; (first | (go_simp; done) | (go_simp; with_reducible rfl))); simp only [Act.put, List.setIfInBounds_toArray, List.set_cons_zero, List.set_cons_succ])
      -- stops at: eff:call (Go.Op.call {'callee': (Go.Callee.value (Go.Operand.func 24)), 'args': [(Go.Operand.tmp 35)], 'argTypes': [49]}) slot 36
      refine wpOrd_eff rfl (fun K hK => ?_); go_simp
      refine (CStr.rev_ok H6 _ _ ys (by omega) h11.fits hqy_10).mono ?_
      rintro e wI ⟨q7, H7, rfl, hp7, hq7⟩
      have h12 := h11.call0 hp7
      have hq_12 := hq_10.mono hp7.le
      have hqy_12 := hqy_10.mono hp7.le
      refine hK _ _ (h12.sat' hp7.le [0, 1] (by kernel_rfl)) ?_; clear hK K
      -- stops at: eff:call (Go.Op.call {'callee': (Go.Callee.value (Go.Operand.func 24)), 'args': [(Go.Operand.tmp 37)], 'argTypes': [49]}) slot 38
      refine wpOrd_eff rfl (fun K hK => ?_); go_simp
      refine (CStr.rev_ok H7 _ _ xs (by omega) h12.fits hq_12).mono ?_
      rintro e wJ ⟨q8, H8, rfl, hp8, hq8⟩
      have h13 := h12.call0 hp8
      have hq_13 := hq_12.mono hp8.le
      have hqy_13 := hqy_12.mono hp8.le
      have hq7_13 := hq7.mono hp8.le
      refine hK _ _ (h13.sat' (GH.le.trans hp7.le hp8.le) [0, 1] (by kernel_rfl)) ?_; clear hK K
      -- stops at: eff:call (Go.Op.call {'callee': (Go.Callee.value (Go.Operand.func 23)), 'args': [(Go.Operand.tmp 36), (Go.Operand.tmp 38)], 'argTypes': [49, 49]}) slot 39
      refine wpOrd_eff rfl (fun K hK => ?_); go_simp
      refine (CStr.join_ok H8 _ _ _ ys.reverse xs.reverse (by simp; omega) h13.fits hq7_13 hq8).mono ?_
      rintro e wK ⟨q9, H9, rfl, hp9, hq9⟩
      rw [← List.reverse_append, hps.out] at hq9
      have h14 := h13.call0 hp9
      have hq_14 := hq_13.mono hp9.le
      have hqy_14 := hqy_13.mono hp9.le
      have hq7_14 := hq7_13.mono hp9.le
      refine hK _ _ (h14.sat' (GH.le.trans (GH.le.trans hp7.le hp8.le) hp9.le) [0, 1] (by kernel_rfl)) ?_; clear hK K
      -- stops at: eff:call (Go.Op.call {'callee': (Go.Callee.value (Go.Operand.func 25)), 'args': [(Go.Operand.tmp 39)], 'argTypes': [49]}) slot 40
      refine wpOrd_eff rfl (fun K hK => ?_); go_simp
      refine (CStr.all_ok H9 _ _ ps (by have := hpl.out; omega) h14.fits hq9).mono ?_
      rintro e wL ⟨vQ, rfl, hpL⟩
      obtain ⟨H10, hL, rQ, leL⟩ := (h14.callrow hpL).settleRow 0 rfl
      have hr10 := (((hr6.mono hp7.le).mono hp8.le).mono hp9.le).mono leL
      have hs10 := (((hs6.mono hp7.le).mono hp8.le).mono hp9.le).mono leL
      have rP10 := (((rP.mono hp7.le).mono hp8.le).mono hp9.le).mono leL
      have hq_15 := hq_14.mono leL
      have hqy_15 := hqy_14.mono leL
      have hq7_15 := hq7_14.mono leL
      refine hK _ _ (hL.sat' (GH.le.trans (GH.le.trans (GH.le.trans hp7.le hp8.le) hp9.le) leL) [0, 1] (by kernel_rfl)) ?_; clear hK K
      iterate 1 (refine wpOrd_quiet (v := ?_) rfl (fun _ _ _ h => h) ?_ ?_; rotate_left; (intro w' hS; (first | (go_simp; done) | (go_simp; with_reducible rfl))); simp only [Act.put, List.setIfInBounds_toArray, List.set_cons_zero, List.set_cons_succ])
      refine wpOrd_nil ?_
      show Code.wp _ _ _ _ _
      refine wp_seq ?_
      refine wp_region_lit ?_
      have c_0_0 := hL.cell 0 rfl 0 rfl
      iterate 1 (refine wpList_plain rfl (fun K hK => ?_); go_simp; refine hK _ _ ?_; clear hK K)
      clear c_0_0
      -- stops at: eff:call (Go.Op.call {'callee': (Go.Callee.value (Go.Operand.func 24)), 'args': [(Go.Operand.tmp 41)], 'argTypes': [49]}) slot 42
      refine wpList_plain rfl (fun K hK => ?_); go_simp
      refine (CStr.rev_ok H10 _ _ xs (by omega) hL.fits hq_15).mono ?_
      rintro e wM ⟨q11, H11, rfl, hp11, hq11⟩
      have h16 := hL.call0 hp11
      have hq_16 := hq_15.mono hp11.le
      have hqy_16 := hqy_15.mono hp11.le
      have hq7_16 := hq7_15.mono hp11.le
      refine hK _ _ ?_; clear hK K
      -- stops at: eff:call (Go.Op.call {'callee': (Go.Callee.value (Go.Operand.func 24)), 'args': [(Go.Operand.tmp 42)], 'argTypes': [49]}) slot 43
      refine wpList_plain rfl (fun K hK => ?_); go_simp
      refine (CStr.rev_ok H11 _ _ xs.reverse (by simp; omega) h16.fits hq11).mono ?_
      rintro e wN ⟨q12, H12, rfl, hp12, hq12⟩
      rw [List.reverse_reverse] at hq12
      have h17 := h16.call0 hp12
      have hq_17 := hq_16.mono hp12.le
      have hqy_17 := hqy_16.mono hp12.le
      have hq7_17 := hq7_16.mono hp12.le
      refine hK _ _ ?_; clear hK K
      -- stops at: eff:call (Go.Op.call {'callee': (Go.Callee.value (Go.Operand.func 25)), 'args': [(Go.Operand.tmp 43)], 'argTypes': [49]}) slot 44
      refine wpList_plain rfl (fun K hK => ?_); go_simp
      refine (CStr.all_ok H12 _ _ xs (by omega) h17.fits hq12).mono ?_
      rintro e wO ⟨vZ, rfl, hpO⟩
      obtain ⟨H13, hO, rZ, leO⟩ := (h17.callrow hpO).settleRow 0 rfl
      have hr13 := ((hr10.mono hp11.le).mono hp12.le).mono leO
      have hs13 := ((hs10.mono hp11.le).mono hp12.le).mono leO
      have rP13 := ((rP10.mono hp11.le).mono hp12.le).mono leO
      have rQ13 := ((rQ.mono hp11.le).mono hp12.le).mono leO
      have hq_18 := hq_17.mono leO
      have hqy_18 := hqy_17.mono leO
      have hq7_18 := hq7_17.mono leO
      refine hK _ _ ?_; clear hK K
      obtain ⟨aP, capP, rfl, hcP, _⟩ := rP13.nil_or
      obtain ⟨aQ, capQ, rfl, hcQ, _⟩ := rQ13.nil_or
      obtain ⟨aZ, capZ, rfl, hcZ, _⟩ := rZ.nil_or
      have t1 : ((ps.length : Int) != (ps.length : Int)) = false := by simp
      have t2 : ((ps.length : Int) != (xs.length : Int) + (ys.length : Int)) = false := by have := hpl.out; simp; omega
      have hp3 : ps.length ≤ 120 := by have := hpl.out; omega
      have t3 : ((xs.length : Int) != (xs.length : Int)) = false := by simp
      have e0 : IntKind.i64.wrap ((xs.length : Int) + (ys.length : Int)) = (xs.length : Int) + (ys.length : Int) := IntWalk.i64_in _ (by omega)
      iterate 1 (refine wpList_plain rfl (fun K hK => ?_); go_simp; refine hK _ _ ?_; clear hK K)
      refine wpList_nil ?_
      show Code.wp _ _ _ _ _
      refine wp_seq ?_
      refine wp_seq ?_
      refine wp_region_lit ?_
      iterate 6 (refine wpList_plain rfl (fun K hK => ?_); go_simp; refine hK _ _ ?_; clear hK K)
      first | go_skip | (iterate 8 (refine wpList_step (o := { dst := _, op := _, type := _, pos := _, after := _, guard := some (5, false) }) (fun K hK => ?_); go_simp; refine hK _ _ ?_; clear hK K)) | skip
      iterate 2 (refine wpList_plain rfl (fun K hK => ?_); go_simp; refine hK _ _ ?_; clear hK K)
      first | go_skip | (iterate 5 (refine wpList_step (o := { dst := _, op := _, type := _, pos := _, after := _, guard := some (15, false) }) (fun K hK => ?_); go_simp; refine hK _ _ ?_; clear hK K)) | skip
      iterate 1 (refine wpList_plain rfl (fun K hK => ?_); go_simp; refine hK _ _ ?_; clear hK K)
      refine wpList_nil ?_
      show Code.wp _ _ _ _ _
      -- stops at: cond
      refine wp_cond_false (rfl) ?_
      refine wp_skip ?_
      show Code.wp _ _ _ _ _
      refine wp_seq ?_
      refine wp_seq ?_
      refine wp_region_lit ?_
      iterate 1 (refine wpList_plain rfl (fun K hK => ?_); go_simp; refine hK _ _ ?_; clear hK K)
      refine wpList_nil ?_
      show Code.wp _ _ _ _ _
      refine wp_block ?_
      -- stops at: loop
      have hqL := hq_18
      have hqyL := hqy_18
      go_loopw [13] (fun v13 wr => ∃ k : Nat, k ≤ ps.length ∧ v13 = .int .i64 k ∧ St w H none 0 0 wr H13 [(wB.heap.size, .cells #[.pointer q] 49), (wC.heap.size, .cells #[.pointer qy] 49)] []) (fun v13 _ => ps.length - (intOf v13).toNat)
      case atStart => exact ⟨0, by omega, rfl, hO⟩
      case round =>
        obtain ⟨k, hk, rfl, hs1⟩ := hrel
        by_cases hlt : k < ps.length
        · obtain ⟨bP, oP, _, e1, _⟩ := rP13.ne_nil (by omega)
          obtain ⟨bQ, oQ, _, e2, _⟩ := rQ13.ne_nil (by omega)
          simp only [Value.slice.injEq, true_and] at e1 e2
          obtain ⟨rfl, rfl⟩ := e1
          obtain ⟨rfl, rfl⟩ := e2
          have g1 : (ps.map Value.string)[k]? = some (.string ps[k]) := by simp [hlt]
          have e5 : IntKind.i64.wrap ((k : Int) + 1) = (k : Int) + 1 := IntWalk.i64_in _ (by omega)
          by_cases hky : k < ys.length
          · have d1 : decide ((k : Int) < (ys.length : Int)) = true := by simp; omega
            obtain ⟨bY, oY, _, e3, _⟩ := hs13.ne_nil (by omega)
            simp only [Value.slice.injEq, true_and] at e3
            obtain ⟨rfl, rfl⟩ := e3
            obtain ⟨m, hmm⟩ : ∃ m, Hid (m = ys.length - 1 - k) := ⟨_, rfl⟩
            have hm2 : m < ys.length := by have := hmm.out; omega
            have g3 : (ys.map Value.string)[m]? = some (.string ps[k]) := by
              have : ps[k]? = some ys[m] := by
                rw [← hps.out, List.reverse_append, List.getElem?_append_left (by simpa using hky), List.getElem?_reverse hky, hmm.out.symm]
                simp [hm2]
              rw [List.getElem?_eq_getElem hlt] at this
              rw [Option.some.inj this]
              simp [hm2]
            have e6 : IntKind.i64.wrap ((ys.length : Int) - 1) = (ys.length : Int) - 1 := IntWalk.i64_in _ (by omega)
            have e7 : IntKind.i64.wrap ((ys.length : Int) - 1 - (k : Int)) = (m : Int) := by rw [IntWalk.i64_in _ (by omega)]; have := hmm.out; omega
            refine wp_seq ?_
            refine wp_seq ?_
            refine wp_region_lit ?_
            iterate 4 (refine wpList_plain rfl (fun K hK => ?_); go_simp; refine hK _ _ ?_; clear hK K)
            refine wpList_nil ?_
            show Code.wp _ _ _ _ _
            -- stops at: cond
            refine wp_cond_true (rfl) ?_
            refine wp_skip ?_
            show Code.wp _ _ _ _ _
            refine wp_seq ?_
            refine wp_block ?_
            refine wp_seq ?_
            refine hs1.region [0, 1] [(0, true), (1, true), (2, true), (3, true), (4, true), (5, true), (6, true), (7, true), (8, true), (9, true), (10, true), (11, true), (12, true), (13, true), (14, true), (15, true), (16, true), (17, true), (18, true), (19, true), (20, true), (21, true), (22, true), (23, true), (24, true), (25, true), (26, true), (27, true), (28, true), (29, true)] (by kernel_rfl) (by kernel_rfl) (fun w19 h19 => ?_)
            simp only [ordOps, List.map_cons, List.map_nil, List.getD_cons_zero, List.getD_cons_succ]
            iterate 3 (refine wpOrd_quiet (v := ?_) rfl (fun _ _ _ h => h) ?_ ?_; rotate_left; (intro w' hS; (first | (go_simp; done) | (go_simp; with_reducible rfl))); simp only [Act.put, List.setIfInBounds_toArray, List.set_cons_zero, List.set_cons_succ])
            -- stops at: load (Go.Op.load 9 (Go.Operand.tmp 75)) slot 76
            iterate 1 (refine wpOrd_quiet (v := ?_) rfl (fun _ _ _ h => h) ?_ ?_; rotate_left; (intro w' hS; have ce := rP13.cell hS.1 k g1; (first | (go_simp; done) | (go_simp; with_reducible rfl))); simp only [Act.put, List.setIfInBounds_toArray, List.set_cons_zero, List.set_cons_succ])
            iterate 3 (refine wpOrd_quiet (v := ?_) rfl (fun _ _ _ h => h) ?_ ?_; rotate_left; (intro w' hS; (first | (go_simp; done) | (go_simp; with_reducible rfl))); simp only [Act.put, List.setIfInBounds_toArray, List.set_cons_zero, List.set_cons_succ])
            -- stops at: load (Go.Op.load 9 (Go.Operand.tmp 79)) slot 80
            iterate 1 (refine wpOrd_quiet (v := ?_) rfl (fun _ _ _ h => h) ?_ ?_; rotate_left; (intro w' hS; have ce := rQ13.cell hS.1 k g1; (first | (go_simp; done) | (go_simp; with_reducible rfl))); simp only [Act.put, List.setIfInBounds_toArray, List.set_cons_zero, List.set_cons_succ])
            iterate 2 (refine wpOrd_quiet (v := ?_) rfl (fun _ _ _ h => h) ?_ ?_; rotate_left; (intro w' hS; (first | (go_simp; done) | (go_simp; with_reducible rfl))); simp only [Act.put, List.setIfInBounds_toArray, List.set_cons_zero, List.set_cons_succ])
            iterate 5 (first | (refine wpOrd_skip rfl (fun _ _ _ h => h) ?_; simp only [Act.put, List.setIfInBounds_toArray, List.set_cons_zero, List.set_cons_succ]) | (refine wpOrd_quiet (v := ?_) rfl (fun _ _ _ h => h) ?_ ?_; rotate_left; (intro w' hS; (first | (go_simp; done) | (go_simp; with_reducible rfl))); simp only [Act.put, List.setIfInBounds_toArray, List.set_cons_zero, List.set_cons_succ]))
            iterate 3 (first | (refine wpOrd_skip rfl (fun _ _ _ h => h) ?_; simp only [Act.put, List.setIfInBounds_toArray, List.set_cons_zero, List.set_cons_succ]) | (refine wpOrd_quiet (v := ?_) rfl (fun _ _ _ h => h) ?_ ?_; rotate_left; (intro w' hS; (first | (go_simp; done) | (go_simp; with_reducible rfl))); simp only [Act.put, List.setIfInBounds_toArray, List.set_cons_zero, List.set_cons_succ]))
            -- stops at: load (Go.Op.load 9 (Go.Operand.tmp 90)) slot 91
            iterate 1 (first | (refine wpOrd_skip rfl (fun _ _ _ h => h) ?_; simp only [Act.put, List.setIfInBounds_toArray, List.set_cons_zero, List.set_cons_succ]) | (refine wpOrd_quiet (v := ?_) rfl (fun _ _ _ h => h) ?_ ?_; rotate_left; (intro w' hS; have ce := rP13.cell hS.1 k g1; (first | (go_simp; done) | (go_simp; with_reducible rfl))); simp only [Act.put, List.setIfInBounds_toArray, List.set_cons_zero, List.set_cons_succ]))
            iterate 7 (first | (refine wpOrd_skip rfl (fun _ _ _ h => h) ?_; simp only [Act.put, List.setIfInBounds_toArray, List.set_cons_zero, List.set_cons_succ]) | (refine wpOrd_quiet (v := ?_) rfl (fun _ _ _ h => h) ?_ ?_; rotate_left; (intro w' hS; (first | (go_simp; done) | (go_simp; with_reducible rfl))); simp only [Act.put, List.setIfInBounds_toArray, List.set_cons_zero, List.set_cons_succ]))
            -- stops at: load (Go.Op.load 9 (Go.Operand.tmp 98)) slot 99
            iterate 1 (first | (refine wpOrd_skip rfl (fun _ _ _ h => h) ?_; simp only [Act.put, List.setIfInBounds_toArray, List.set_cons_zero, List.set_cons_succ]) | (refine wpOrd_quiet (v := ?_) rfl (fun _ _ _ h => h) ?_ ?_; rotate_left; (intro w' hS; have ce := hs13.cell hS.1 m g3; (first | (go_simp; done) | (go_simp; with_reducible rfl))); simp only [Act.put, List.setIfInBounds_toArray, List.set_cons_zero, List.set_cons_succ]))
            iterate 1 (first | (refine wpOrd_skip rfl (fun _ _ _ h => h) ?_; simp only [Act.put, List.setIfInBounds_toArray, List.set_cons_zero, List.set_cons_succ]) | (refine wpOrd_quiet (v := ?_) rfl (fun _ _ _ h => h) ?_ ?_; rotate_left; (intro w' hS; (first | (go_simp; done) | (go_simp; with_reducible rfl))); simp only [Act.put, List.setIfInBounds_toArray, List.set_cons_zero, List.set_cons_succ]))
            iterate 1 (first | (refine wpOrd_skip rfl (fun _ _ _ h => h) ?_; simp only [Act.put, List.setIfInBounds_toArray, List.set_cons_zero, List.set_cons_succ]) | (refine wpOrd_quiet (v := ?_) rfl (fun _ _ _ h => h) ?_ ?_; rotate_left; (intro w' hS; (first | (go_simp; done) | (go_simp; with_reducible rfl))); simp only [Act.put, List.setIfInBounds_toArray, List.set_cons_zero, List.set_cons_succ]))
            iterate 1 (refine wpOrd_quiet (v := ?_) rfl (fun _ _ _ h => h) ?_ ?_; rotate_left; (intro w' hS; (first | (go_simp; done) | (go_simp; with_reducible rfl))); simp only [Act.put, List.setIfInBounds_toArray, List.set_cons_zero, List.set_cons_succ])
            refine wpOrd_nil ?_
            show Code.wp _ _ _ _ _
            -- stops at: cond
            refine wp_cond_false (rfl) ?_
            refine wp_skip ?_
            show Code.wp _ _ _ _ _
            refine wp_region_lit ?_
            iterate 3 (refine wpList_plain rfl (fun K hK => ?_); go_simp; refine hK _ _ ?_; clear hK K)
            refine wpList_nil ?_
            -- stops at: end ('roundend',)
            show _ ∧ _
            go_roundw
            case rel => exact ⟨k + 1, by omega, by simp, h19⟩
            case measure => simp [intOf]; omega
          · have d1 : decide ((k : Int) < (ys.length : Int)) = false := by simp; omega
            refine wp_seq ?_
            refine wp_seq ?_
            refine wp_region_lit ?_
            iterate 4 (refine wpList_plain rfl (fun K hK => ?_); go_simp; refine hK _ _ ?_; clear hK K)
            refine wpList_nil ?_
            show Code.wp _ _ _ _ _
            -- stops at: cond
            refine wp_cond_true (rfl) ?_
            refine wp_skip ?_
            show Code.wp _ _ _ _ _
            refine wp_seq ?_
            refine wp_block ?_
            refine wp_seq ?_
            refine hs1.region [0, 1] [(0, true), (1, true), (2, true), (3, true), (4, true), (5, true), (6, true), (7, true), (8, true), (9, true), (10, true), (11, true), (12, true), (13, true), (14, true), (15, true), (16, true), (17, true), (18, true), (19, true), (20, true), (21, true), (22, true), (23, true), (24, true), (25, true), (26, true), (27, true), (28, true), (29, true)] (by kernel_rfl) (by kernel_rfl) (fun w20 h20 => ?_)
            simp only [ordOps, List.map_cons, List.map_nil, List.getD_cons_zero, List.getD_cons_succ]
            iterate 3 (refine wpOrd_quiet (v := ?_) rfl (fun _ _ _ h => h) ?_ ?_; rotate_left; (intro w' hS; (first | (go_simp; done) | (go_simp; with_reducible rfl))); simp only [Act.put, List.setIfInBounds_toArray, List.set_cons_zero, List.set_cons_succ])
            -- stops at: load (Go.Op.load 9 (Go.Operand.tmp 75)) slot 76
            iterate 1 (refine wpOrd_quiet (v := ?_) rfl (fun _ _ _ h => h) ?_ ?_; rotate_left; (intro w' hS; have ce := rP13.cell hS.1 k g1; (first | (go_simp; done) | (go_simp; with_reducible rfl))); simp only [Act.put, List.setIfInBounds_toArray, List.set_cons_zero, List.set_cons_succ])
            iterate 3 (refine wpOrd_quiet (v := ?_) rfl (fun _ _ _ h => h) ?_ ?_; rotate_left; (intro w' hS; (first | (go_simp; done) | (go_simp; with_reducible rfl))); simp only [Act.put, List.setIfInBounds_toArray, List.set_cons_zero, List.set_cons_succ])
            -- stops at: load (Go.Op.load 9 (Go.Operand.tmp 79)) slot 80
            iterate 1 (refine wpOrd_quiet (v := ?_) rfl (fun _ _ _ h => h) ?_ ?_; rotate_left; (intro w' hS; have ce := rQ13.cell hS.1 k g1; (first | (go_simp; done) | (go_simp; with_reducible rfl))); simp only [Act.put, List.setIfInBounds_toArray, List.set_cons_zero, List.set_cons_succ])
            iterate 2 (refine wpOrd_quiet (v := ?_) rfl (fun _ _ _ h => h) ?_ ?_; rotate_left; (intro w' hS; (first | (go_simp; done) | (go_simp; with_reducible rfl))); simp only [Act.put, List.setIfInBounds_toArray, List.set_cons_zero, List.set_cons_succ])
            iterate 5 (first | (refine wpOrd_skip rfl (fun _ _ _ h => h) ?_; simp only [Act.put, List.setIfInBounds_toArray, List.set_cons_zero, List.set_cons_succ]) | (refine wpOrd_quiet (v := ?_) rfl (fun _ _ _ h => h) ?_ ?_; rotate_left; (intro w' hS; (first | (go_simp; done) | (go_simp; with_reducible rfl))); simp only [Act.put, List.setIfInBounds_toArray, List.set_cons_zero, List.set_cons_succ]))
            iterate 3 (first | (refine wpOrd_skip rfl (fun _ _ _ h => h) ?_; simp only [Act.put, List.setIfInBounds_toArray, List.set_cons_zero, List.set_cons_succ]) | (refine wpOrd_quiet (v := ?_) rfl (fun _ _ _ h => h) ?_ ?_; rotate_left; (intro w' hS; (first | (go_simp; done) | (go_simp; with_reducible rfl))); simp only [Act.put, List.setIfInBounds_toArray, List.set_cons_zero, List.set_cons_succ]))
            -- stops at: load (Go.Op.load 9 (Go.Operand.tmp 90)) slot 91
            iterate 1 (first | (refine wpOrd_skip rfl (fun _ _ _ h => h) ?_; simp only [Act.put, List.setIfInBounds_toArray, List.set_cons_zero, List.set_cons_succ]) | (refine wpOrd_quiet (v := ?_) rfl (fun _ _ _ h => h) ?_ ?_; rotate_left; (intro w' hS;  (first | (go_simp; done) | (go_simp; with_reducible rfl))); simp only [Act.put, List.setIfInBounds_toArray, List.set_cons_zero, List.set_cons_succ]))
            iterate 7 (first | (refine wpOrd_skip rfl (fun _ _ _ h => h) ?_; simp only [Act.put, List.setIfInBounds_toArray, List.set_cons_zero, List.set_cons_succ]) | (refine wpOrd_quiet (v := ?_) rfl (fun _ _ _ h => h) ?_ ?_; rotate_left; (intro w' hS; (first | (go_simp; done) | (go_simp; with_reducible rfl))); simp only [Act.put, List.setIfInBounds_toArray, List.set_cons_zero, List.set_cons_succ]))
            -- stops at: load (Go.Op.load 9 (Go.Operand.tmp 98)) slot 99
            iterate 1 (first | (refine wpOrd_skip rfl (fun _ _ _ h => h) ?_; simp only [Act.put, List.setIfInBounds_toArray, List.set_cons_zero, List.set_cons_succ]) | (refine wpOrd_quiet (v := ?_) rfl (fun _ _ _ h => h) ?_ ?_; rotate_left; (intro w' hS;  (first | (go_simp; done) | (go_simp; with_reducible rfl))); simp only [Act.put, List.setIfInBounds_toArray, List.set_cons_zero, List.set_cons_succ]))
            iterate 1 (first | (refine wpOrd_skip rfl (fun _ _ _ h => h) ?_; simp only [Act.put, List.setIfInBounds_toArray, List.set_cons_zero, List.set_cons_succ]) | (refine wpOrd_quiet (v := ?_) rfl (fun _ _ _ h => h) ?_ ?_; rotate_left; (intro w' hS; (first | (go_simp; done) | (go_simp; with_reducible rfl))); simp only [Act.put, List.setIfInBounds_toArray, List.set_cons_zero, List.set_cons_succ]))
            iterate 1 (first | (refine wpOrd_skip rfl (fun _ _ _ h => h) ?_; simp only [Act.put, List.setIfInBounds_toArray, List.set_cons_zero, List.set_cons_succ]) | (refine wpOrd_quiet (v := ?_) rfl (fun _ _ _ h => h) ?_ ?_; rotate_left; (intro w' hS; (first | (go_simp; done) | (go_simp; with_reducible rfl))); simp only [Act.put, List.setIfInBounds_toArray, List.set_cons_zero, List.set_cons_succ]))
            iterate 1 (refine wpOrd_quiet (v := ?_) rfl (fun _ _ _ h => h) ?_ ?_; rotate_left; (intro w' hS; (first | (go_simp; done) | (go_simp; with_reducible rfl))); simp only [Act.put, List.setIfInBounds_toArray, List.set_cons_zero, List.set_cons_succ])
            refine wpOrd_nil ?_
            show Code.wp _ _ _ _ _
            -- stops at: cond
            refine wp_cond_false (rfl) ?_
            refine wp_skip ?_
            show Code.wp _ _ _ _ _
            refine wp_region_lit ?_
            iterate 3 (refine wpList_plain rfl (fun K hK => ?_); go_simp; refine hK _ _ ?_; clear hK K)
            refine wpList_nil ?_
            -- stops at: end ('roundend',)
            show _ ∧ _
            go_roundw
            case rel => exact ⟨k + 1, by omega, by simp, h20⟩
            case measure => simp [intOf]; omega
        · obtain rfl : k = ps.length := by omega
          refine wp_seq ?_
          refine wp_seq ?_
          refine wp_region_lit ?_
          iterate 4 (refine wpList_plain rfl (fun K hK => ?_); go_simp; refine hK _ _ ?_; clear hK K)
          refine wpList_nil ?_
          show Code.wp _ _ _ _ _
          -- stops at: cond
          refine wp_cond_false (rfl) ?_
          refine wp_exit ?_
          show Code.wp _ _ _ _ _
          refine wp_seq ?_
          refine wp_seq ?_
          refine wp_region_lit ?_
          iterate 1 (refine wpList_plain rfl (fun K hK => ?_); go_simp; refine hK _ _ ?_; clear hK K)
          refine wpList_nil ?_
          show Code.wp _ _ _ _ _
          refine wp_block ?_
          -- stops at: loop
          go_loopw [14] (fun v14 wr => ∃ k : Nat, k ≤ xs.length ∧ v14 = .int .i64 k ∧ St w H none 0 0 wr H13 [(wB.heap.size, .cells #[.pointer q] 49), (wC.heap.size, .cells #[.pointer qy] 49)] []) (fun v14 _ => xs.length - (intOf v14).toNat)
          case atStart => exact ⟨0, by omega, rfl, hs1⟩
          case round =>
            obtain ⟨k, hk, rfl, hs2⟩ := hrel
            by_cases hlt : k < xs.length
            · obtain ⟨bZ, oZ, _, e1, _⟩ := rZ.ne_nil (by omega)
              obtain ⟨bX, oX, _, e2, _⟩ := hr13.ne_nil (by omega)
              simp only [Value.slice.injEq, true_and] at e1 e2
              obtain ⟨rfl, rfl⟩ := e1
              obtain ⟨rfl, rfl⟩ := e2
              have g1 : (xs.map Value.string)[k]? = some (.string xs[k]) := by simp [hlt]
              have e5 : IntKind.i64.wrap ((k : Int) + 1) = (k : Int) + 1 := IntWalk.i64_in _ (by omega)
              refine wp_seq ?_
              refine wp_seq ?_
              refine wp_region_lit ?_
              iterate 4 (refine wpList_plain rfl (fun K hK => ?_); go_simp; refine hK _ _ ?_; clear hK K)
              refine wpList_nil ?_
              show Code.wp _ _ _ _ _
              -- stops at: cond
              refine wp_cond_true (rfl) ?_
              refine wp_skip ?_
              show Code.wp _ _ _ _ _
              refine wp_seq ?_
              refine wp_block ?_
              refine wp_seq ?_
              refine hs2.region [0, 1] [(0, true), (1, true), (2, true), (3, true), (4, true), (5, true), (6, true), (7, true), (8, true)] (by kernel_rfl) (by kernel_rfl) (fun w21 h21 => ?_)
              simp only [ordOps, List.map_cons, List.map_nil, List.getD_cons_zero, List.getD_cons_succ]
              iterate 3 (refine wpOrd_quiet (v := ?_) rfl (fun _ _ _ h => h) ?_ ?_; rotate_left; (intro w' hS; (first | (go_simp; done) | (go_simp; with_reducible rfl))); simp only [Act.put, List.setIfInBounds_toArray, List.set_cons_zero, List.set_cons_succ])
              -- stops at: load (Go.Op.load 9 (Go.Operand.tmp 111)) slot 112
              iterate 1 (refine wpOrd_quiet (v := ?_) rfl (fun _ _ _ h => h) ?_ ?_; rotate_left; (intro w' hS; have ce := rZ.cell hS.1 k g1; (first | (go_simp; done) | (go_simp; with_reducible rfl))); simp only [Act.put, List.setIfInBounds_toArray, List.set_cons_zero, List.set_cons_succ])
              iterate 3 (refine wpOrd_quiet (v := ?_) rfl (fun _ _ _ h => h) ?_ ?_; rotate_left; (intro w' hS; (first | (go_simp; done) | (go_simp; with_reducible rfl))); simp only [Act.put, List.setIfInBounds_toArray, List.set_cons_zero, List.set_cons_succ])
              -- stops at: load (Go.Op.load 9 (Go.Operand.tmp 115)) slot 116
              iterate 1 (refine wpOrd_quiet (v := ?_) rfl (fun _ _ _ h => h) ?_ ?_; rotate_left; (intro w' hS; have ce := hr13.cell hS.1 k g1; (first | (go_simp; done) | (go_simp; with_reducible rfl))); simp only [Act.put, List.setIfInBounds_toArray, List.set_cons_zero, List.set_cons_succ])
              iterate 1 (refine wpOrd_quiet (v := ?_) rfl (fun _ _ _ h => h) ?_ ?_; rotate_left; (intro w' hS; (first | (go_simp; done) | (go_simp; with_reducible rfl))); simp only [Act.put, List.setIfInBounds_toArray, List.set_cons_zero, List.set_cons_succ])
              refine wpOrd_nil ?_
              show Code.wp _ _ _ _ _
              -- stops at: cond
              refine wp_cond_false (rfl) ?_
              refine wp_skip ?_
              show Code.wp _ _ _ _ _
              refine wp_region_lit ?_
              iterate 3 (refine wpList_plain rfl (fun K hK => ?_); go_simp; refine hK _ _ ?_; clear hK K)
              refine wpList_nil ?_
              -- stops at: end ('roundend',)
              show _ ∧ _
              go_roundw
              case rel => exact ⟨k + 1, by omega, by simp, h21⟩
              case measure => simp [intOf]; omega
            · obtain rfl : k = xs.length := by omega
              refine wp_seq ?_
              refine wp_seq ?_
              refine wp_region_lit ?_
              iterate 4 (refine wpList_plain rfl (fun K hK => ?_); go_simp; refine hK _ _ ?_; clear hK K)
              refine wpList_nil ?_
              show Code.wp _ _ _ _ _
              -- stops at: cond
              refine wp_cond_false (rfl) ?_
              refine wp_exit ?_
              show Code.wp _ _ _ _ _
              refine wp_seq ?_
              refine wp_region_lit ?_
              have c_0_0 := hs2.cell 0 rfl 0 rfl
              iterate 3 (refine wpList_plain rfl (fun K hK => ?_); go_simp; refine hK _ _ ?_; clear hK K)
              clear c_0_0
              -- stops at: eff:call (Go.Op.call {'callee': (Go.Callee.value (Go.Operand.func 26)), 'args': [(Go.Operand.tmp 118), (Go.Operand.tmp 120)], 'argTypes': [49, 3]}) slot 121
              refine wpList_plain rfl (fun K hK => ?_); go_simp
              refine (CStr.drop_ok H13 _ _ _ _ (show _ ≤ _ by omega) hs2.fits hqL).mono ?_
              rintro e wP ⟨q14, rfl, hkP, hq14⟩
              have h22 := hs2.callk hkP
              refine hK _ _ ?_; clear hK K
              -- stops at: eff:call (Go.Op.call {'callee': (Go.Callee.value (Go.Operand.func 27)), 'args': [(Go.Operand.tmp 121)], 'argTypes': [49]}) slot 122
              refine wpList_plain rfl (fun K hK => ?_); go_simp
              refine (CStr.len_ok H13 _ _ _ h22.fits hq14).mono ?_
              rintro e wQ ⟨rfl, hkQ⟩
              rw [show (((xs.map Value.string).drop ((xs.length : Int)).toNat).length : Int) = 0 by simp]
              have h23 := h22.callk hkQ
              refine hK _ _ ?_; clear hK K
              iterate 2 (refine wpList_plain rfl (fun K hK => ?_); go_simp; refine hK _ _ ?_; clear hK K)
              have c_0_0 := h23.cell 0 rfl 0 rfl
              have c_1_0 := h23.cell 1 rfl 0 rfl
              first | go_skip | (iterate 2 (refine wpList_step (o := { dst := _, op := _, type := _, pos := _, after := _, guard := some (6, true) }) (fun K hK => ?_); go_simp; refine hK _ _ ?_; clear hK K)) | skip
              clear c_0_0 c_1_0
              -- stops at: eff:call (Go.Op.call {'callee': (Go.Callee.value (Go.Operand.func 23)), 'args': [(Go.Operand.tmp 125), (Go.Operand.tmp 126)], 'argTypes': [49, 49]}) slot 127
              refine wpList_step (fun K hK => ?_); go_simp
              refine (CStr.join_ok H13 _ _ _ xs ys (by omega) h23.fits hqL hqyL).mono ?_
              rintro e wR ⟨q15, H15, rfl, hp15, hq15⟩
              have h24 := h23.call0 hp15
              have hq_24 := hq_18.mono hp15.le
              have hqy_24 := hqy_18.mono hp15.le
              have hq7_24 := hq7_18.mono hp15.le
              have hqL_24 := hqL.mono hp15.le
              have hqyL_24 := hqyL.mono hp15.le
              refine hK _ _ ?_; clear hK K
              first | go_skip | (iterate 2 (refine wpList_step (o := { dst := _, op := _, type := _, pos := _, after := _, guard := some (6, true) }) (fun K hK => ?_); go_simp; refine hK _ _ ?_; clear hK K)) | skip
              -- stops at: eff:call (Go.Op.call {'callee': (Go.Callee.value (Go.Operand.func 26)), 'args': [(Go.Operand.tmp 127), (Go.Operand.tmp 129)], 'argTypes': [49, 3]}) slot 130
              refine wpList_step (fun K hK => ?_); go_simp
              refine (CStr.drop_ok H15 _ _ _ _ (show _ ≤ _ by omega) h24.fits hq15).mono ?_
              rintro e wS ⟨q16, rfl, hkS, hq16⟩
              have h25 := h24.callk hkS
              refine hK _ _ ?_; clear hK K
              -- stops at: eff:call (Go.Op.call {'callee': (Go.Callee.value (Go.Operand.func 27)), 'args': [(Go.Operand.tmp 130)], 'argTypes': [49]}) slot 131
              refine wpList_step (fun K hK => ?_); go_simp
              refine (CStr.len_ok H15 _ _ _ h25.fits hq16).mono ?_
              rintro e wT ⟨rfl, hkT⟩
              rw [show ((((xs ++ ys).map Value.string).drop ((xs.length : Int)).toNat).length : Int) = (ys.length : Int) by simp]
              have h26 := h25.callk hkT
              refine hK _ _ ?_; clear hK K
              have t6 : ((ys.length : Int) == (ys.length : Int)) = true := by simp
              first | go_skip | (iterate 3 (refine wpList_step (o := { dst := _, op := _, type := _, pos := _, after := _, guard := some (6, true) }) (fun K hK => ?_); go_simp; refine hK _ _ ?_; clear hK K)) | skip
              iterate 2 (refine wpList_plain rfl (fun K hK => ?_); go_simp; refine hK _ _ ?_; clear hK K)
              have c_0_0 := h26.cell 0 rfl 0 rfl
              first | go_skip | (iterate 2 (refine wpList_step (o := { dst := _, op := _, type := _, pos := _, after := _, guard := some (18, true) }) (fun K hK => ?_); go_simp; refine hK _ _ ?_; clear hK K)) | skip
              clear c_0_0
              -- stops at: eff:call (Go.Op.call {'callee': (Go.Callee.value (Go.Operand.func 26)), 'args': [(Go.Operand.tmp 137), (Go.Operand.tmp 138)], 'argTypes': [49, 3]}) slot 139
              refine wpList_step (fun K hK => ?_); go_simp
              refine (CStr.drop_ok H15 _ _ _ _ hn1 h26.fits hqL_24).mono ?_
              rintro e wU ⟨q17, rfl, hkU, hq17⟩
              have h27 := h26.callk hkU
              refine hK _ _ ?_; clear hK K
              -- stops at: eff:call (Go.Op.call {'callee': (Go.Callee.value (Go.Operand.func 27)), 'args': [(Go.Operand.tmp 139)], 'argTypes': [49]}) slot 140
              refine wpList_step (fun K hK => ?_); go_simp
              refine (CStr.len_ok H15 _ _ _ h27.fits hq17).mono ?_
              rintro e wV ⟨rfl, hkV⟩
              by_cases hn0 : n < 0
              · rw [show (((xs.map Value.string).drop n.toNat).length : Int) = (xs.length : Int) by simp; omega]
                have e8 : IntKind.i64.wrap (xs.length : Int) = (xs.length : Int) := IntWalk.i64_in _ (by omega)
                have t7 : ((xs.length : Int) == (xs.length : Int)) = true := by simp
                have z9 : ¬ ((xs.length : Int) < 0) := by omega
                have h28 := h27.callk hkV
                refine hK _ _ ?_; clear hK K
                first | go_skip | (iterate 9 (refine wpList_step (o := { dst := _, op := _, type := _, pos := _, after := _, guard := some (18, true) }) (fun K hK => ?_); go_simp; refine hK _ _ ?_; clear hK K)) | skip
                iterate 2 (refine wpList_plain rfl (fun K hK => ?_); go_simp; refine hK _ _ ?_; clear hK K)
                refine wpList_nil ?_
                show Code.wp _ _ _ _ _
                -- stops at: ret
                refine wp_ret ?_
                go_ret
                exact ⟨rfl, h28.post.keep⟩
              · obtain ⟨k, rfl⟩ : ∃ k : Nat, n = (k : Int) := ⟨n.toNat, by omega⟩
                have hn2 : ¬ ((k : Int) < 0) := by omega
                clear hn0
                obtain ⟨j, hj, hjl, hjm⟩ : ∃ j : Nat, (if xs.length < k then (xs.length : Int) else (k : Int)) = (j : Int) ∧ j ≤ xs.length ∧ Hid (j = min k xs.length) := by
                  by_cases hm : xs.length < k
                  · exact ⟨xs.length, by rw [if_pos (by omega)], by omega, by show _ = _; omega⟩
                  · exact ⟨k, by rw [if_neg (by omega)], by omega, by show _ = _; omega⟩
                rw [show (((xs.map Value.string).drop ((k : Int)).toNat).length : Int) = (xs.length : Int) - j by have := hjm.out; simp; omega]
                have e8 : IntKind.i64.wrap ((xs.length : Int) - (j : Int)) = (xs.length : Int) - j := IntWalk.i64_in _ (by omega)
                have t7 : ((xs.length : Int) - (j : Int) == (xs.length : Int) - (j : Int)) = true := by simp
                have h29 := h27.callk hkV
                refine hK _ _ ?_; clear hK K
                first | go_skip | (iterate 9 (refine wpList_step (o := { dst := _, op := _, type := _, pos := _, after := _, guard := some (18, true) }) (fun K hK => ?_); go_simp; refine hK _ _ ?_; clear hK K)) | skip
                iterate 2 (refine wpList_plain rfl (fun K hK => ?_); go_simp; refine hK _ _ ?_; clear hK K)
                refine wpList_nil ?_
                show Code.wp _ _ _ _ _
                -- stops at: ret
                refine wp_ret ?_
                go_ret
                exact ⟨rfl, h29.post.keep⟩
    · have hl2 : decide ((60 : Int) < (ys.length : Int)) = true := by simp; omega
      go_enter Try.func5, Try.ntmps5
      have h0 := St.start hpre
      refine wp_seq ?_
      refine wp_region_lit ?_
      iterate 1 (refine wpList_plain rfl (fun K hK => ?_); go_simp; refine hK _ _ ?_; clear hK K)
      refine wpList_nil ?_
      show Code.wp _ _ _ _ _
      refine wp_seq ?_
      refine wp_region_lit ?_
      -- stops at: eff:call (Go.Op.call {'callee': (Go.Callee.value (Go.Operand.func 6)), 'args': [], 'argTypes': []}) slot 15
      refine wpList_plain rfl (fun K hK => ?_); go_simp
      refine (awake_ok _).mono ?_
      rintro e wA ⟨rfl, hkA⟩
      have h1 := h0.callk hkA
      refine hK _ _ ?_; clear hK K
      iterate 1 (refine wpList_plain rfl (fun K hK => ?_); go_simp; refine hK _ _ ?_; clear hK K)
      refine wpList_nil ?_
      show Code.wp _ _ _ _ _
      refine wp_seq ?_
      refine wp_seq ?_
      refine wp_region_lit ?_
      iterate 2 (refine wpList_plain rfl (fun K hK => ?_); go_simp; refine hK _ _ ?_; clear hK K)
      refine wpList_nil ?_
      show Code.wp _ _ _ _ _
      -- stops at: cond
      refine wp_cond_false (rfl) ?_
      refine wp_skip ?_
      show Code.wp _ _ _ _ _
      refine wp_seq ?_
      refine wp_seq ?_
      refine wp_region_lit ?_
      iterate 4 (refine wpList_plain rfl (fun K hK => ?_); go_simp; refine hK _ _ ?_; clear hK K)
      first | go_skip | (iterate 3 (refine wpList_step (o := { dst := _, op := _, type := _, pos := _, after := _, guard := some (3, false) }) (fun K hK => ?_); go_simp; refine hK _ _ ?_; clear hK K)) | skip
      iterate 1 (refine wpList_plain rfl (fun K hK => ?_); go_simp; refine hK _ _ ?_; clear hK K)
      refine wpList_nil ?_
      show Code.wp _ _ _ _ _
      -- stops at: cond
      refine wp_cond_true (rfl) ?_
      refine wp_seq ?_
      refine wp_region_lit ?_
      iterate 1 (refine wpList_plain rfl (fun K hK => ?_); go_simp; refine hK _ _ ?_; clear hK K)
      refine wpList_nil ?_
      show Code.wp _ _ _ _ _
      -- stops at: ret
      refine wp_ret ?_
      go_ret
      exact ⟨rfl, h1.post.keep⟩
  · have hl1 : decide ((60 : Int) < (xs.length : Int)) = true := by simp; omega
    go_enter Try.func5, Try.ntmps5
    have h0 := St.start hpre
    refine wp_seq ?_
    refine wp_region_lit ?_
    iterate 1 (refine wpList_plain rfl (fun K hK => ?_); go_simp; refine hK _ _ ?_; clear hK K)
    refine wpList_nil ?_
    show Code.wp _ _ _ _ _
    refine wp_seq ?_
    refine wp_region_lit ?_
    -- stops at: eff:call (Go.Op.call {'callee': (Go.Callee.value (Go.Operand.func 6)), 'args': [], 'argTypes': []}) slot 15
    refine wpList_plain rfl (fun K hK => ?_); go_simp
    refine (awake_ok _).mono ?_
    rintro e wA ⟨rfl, hkA⟩
    have h1 := h0.callk hkA
    refine hK _ _ ?_; clear hK K
    iterate 1 (refine wpList_plain rfl (fun K hK => ?_); go_simp; refine hK _ _ ?_; clear hK K)
    refine wpList_nil ?_
    show Code.wp _ _ _ _ _
    refine wp_seq ?_
    refine wp_seq ?_
    refine wp_region_lit ?_
    iterate 2 (refine wpList_plain rfl (fun K hK => ?_); go_simp; refine hK _ _ ?_; clear hK K)
    refine wpList_nil ?_
    show Code.wp _ _ _ _ _
    -- stops at: cond
    refine wp_cond_false (rfl) ?_
    refine wp_skip ?_
    show Code.wp _ _ _ _ _
    refine wp_seq ?_
    refine wp_seq ?_
    refine wp_region_lit ?_
    iterate 4 (refine wpList_plain rfl (fun K hK => ?_); go_simp; refine hK _ _ ?_; clear hK K)
    first | go_skip | (iterate 3 (refine wpList_step (o := { dst := _, op := _, type := _, pos := _, after := _, guard := some (3, false) }) (fun K hK => ?_); go_simp; refine hK _ _ ?_; clear hK K)) | skip
    iterate 1 (refine wpList_plain rfl (fun K hK => ?_); go_simp; refine hK _ _ ?_; clear hK K)
    refine wpList_nil ?_
    show Code.wp _ _ _ _ _
    -- stops at: cond
    refine wp_cond_true (rfl) ?_
    refine wp_seq ?_
    refine wp_region_lit ?_
    iterate 1 (refine wpList_plain rfl (fun K hK => ?_); go_simp; refine hK _ _ ?_; clear hK K)
    refine wpList_nil ?_
    show Code.wp _ _ _ _ _
    -- stops at: ret
    refine wp_ret ?_
    go_ret
    exact ⟨rfl, h1.post.keep⟩
end Go.Proofs.Ytallllpjjhcaoaa
