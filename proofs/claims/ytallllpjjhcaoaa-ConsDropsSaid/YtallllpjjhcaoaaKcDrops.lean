/-
ConsDrops: its walk.
-/
import Derived.Test.YtallllpjjhcaoaaJcAwake
namespace Go.Proofs.Ytallllpjjhcaoaa
open Go Go.RowKit

set_option maxRecDepth 100000 in
set_option maxHeartbeats 4000000 in
theorem drops_walk (H : GH) (w : World) (v : Value) (xs : List Int) (n : Nat) (hn1 : n ≤ 255) (hf : Fits w H) (hr : IntRep H v xs) :
    Calls Try.prog 3 #[v, .int .u8 n] w fun e w' => e = .returned (.bool true) ∧ Keep none w w' := by
  have hpre : Pre w H none 0 0 := Pre.none hf 0 0
  obtain ⟨a, cap, rfl, hc1, hc2⟩ := hr.nil_or
  have hc3 : xs.length ≤ 9223372036854775807 := by unfold maxLen at hc2; omega
  clear hc2
  by_cases hl : xs.length ≤ 60
  · have hw : IntKind.i64.wrap (n : Int) = n := IntWalk.i64_in _ (by omega)
    obtain ⟨k, hk, hkl, hkm⟩ : ∃ k : Nat, (if xs.length < n then (xs.length : Int) else (n : Int)) = (k : Int) ∧ k ≤ xs.length ∧ Hid (k = min n xs.length) := by
      by_cases hm : xs.length < n
      · exact ⟨xs.length, by rw [if_pos (by omega)], by omega, by show _ = _; omega⟩
      · exact ⟨n, by rw [if_neg (by omega)], by omega, by show _ = _; omega⟩
    have hl1 : decide ((60 : Int) < (xs.length : Int)) = false := by simp; omega
    go_enter Try.func3, Try.ntmps3
    have h0 := St.start hpre
    refine wp_seq ?_
    refine wp_region_lit ?_
    iterate 1 (refine wpList_plain rfl (fun K hK => ?_); go_simp; refine hK _ _ ?_; clear hK K)
    refine wpList_nil ?_
    show Code.wp _ _ _ _ _
    refine wp_seq ?_
    refine wp_region_lit ?_
    -- stops at: eff:call (Go.Op.call {'callee': (Go.Callee.value (Go.Operand.func 6)), 'args': [], 'argTypes': []}) slot 11
    refine wpList_plain rfl (fun K hK => ?_); go_simp
    refine (awake_ok _).mono ?_
    rintro e wA ⟨rfl, hkA⟩
    have h1 := h0.callk hkA
    refine hK _ _ ?_; clear hK K
    iterate 1 (refine wpList_plain rfl (fun K hK => ?_); go_simp; refine hK _ _ ?_; clear hK K)
    refine wpList_nil ?_
    show Code.wp _ _ _ _ _
    refine wp_seq ?_
    refine wp_seq ?_
    refine wp_region_lit ?_
    iterate 2 (refine wpList_plain rfl (fun K hK => ?_); go_simp; refine hK _ _ ?_; clear hK K)
    refine wpList_nil ?_
    show Code.wp _ _ _ _ _
    -- stops at: cond
    refine wp_cond_false (rfl) ?_
    refine wp_skip ?_
    show Code.wp _ _ _ _ _
    refine wp_seq ?_
    refine wp_seq ?_
    refine wp_region_lit ?_
    iterate 3 (refine wpList_plain rfl (fun K hK => ?_); go_simp; refine hK _ _ ?_; clear hK K)
    refine wpList_nil ?_
    show Code.wp _ _ _ _ _
    -- stops at: cond
    refine wp_cond_false (rfl) ?_
    refine wp_skip ?_
    show Code.wp _ _ _ _ _
    refine wp_seq ?_
    refine wp_region_lit ?_
    iterate 1 (refine wpList_plain rfl (fun K hK => ?_); go_simp; refine hK _ _ ?_; clear hK K)
    -- stops at: eff:call (Go.Op.call {'callee': (Go.Callee.value (Go.Operand.func 7)), 'args': [(Go.Operand.tmp 17)], 'argTypes': [22]}) slot 18
    refine wpList_plain rfl (fun K hK => ?_); go_simp
    refine (CInt.of_ok H _ _ xs (by omega) h1.fits hr).mono ?_
    rintro e wB ⟨q, H2, rfl, hp2, hq⟩
    have h2 := h1.call0 hp2
    refine hK _ _ ?_; clear hK K
    have hr2 := hr.mono hp2.le
    refine wpList_plain rfl (fun K hK => ?_); go_simp
    refine h2.k_alloc (fun w3 h3 => ?_)
    refine hK _ _ ?_; clear hK K
    have c_0 := h3.cell 0 rfl 0 rfl
    have f_0 := h3.free 0 rfl 0
    refine wpList_plain rfl (fun K hK => ?_); go_simp
    clear c_0 f_0
    refine h3.k_set 0 rfl (fun w4 h4 => ?_)
    refine hK _ _ ?_; clear hK K
    refine wpList_nil ?_
    show Code.wp _ _ _ _ _
    refine wp_seq ?_
    refine wp_region_lit ?_
    have c_0_0 := h4.cell 0 rfl 0 rfl
    iterate 3 (refine wpList_plain rfl (fun K hK => ?_); go_simp; refine hK _ _ ?_; clear hK K)
    clear c_0_0
    -- stops at: eff:call (Go.Op.call {'callee': (Go.Callee.value (Go.Operand.func 8)), 'args': [(Go.Operand.tmp 19), (Go.Operand.tmp 21)], 'argTypes': [26, 3]}) slot 22
    refine wpList_plain rfl (fun K hK => ?_); go_simp
    refine (CInt.drop_ok H2 _ _ _ _ (show _ ≤ _ by omega) h4.fits hq).mono ?_
    rintro e wC ⟨q3, rfl, hkC, hq3⟩
    have h5 := h4.callk hkC
    refine hK _ _ ?_; clear hK K
    refine wpList_plain rfl (fun K hK => ?_); go_simp
    refine h5.k_alloc (fun w6 h6 => ?_)
    refine hK _ _ ?_; clear hK K
    have c_0 := h6.cell 1 rfl 0 rfl
    have f_0 := h6.free 1 rfl 0
    refine wpList_plain rfl (fun K hK => ?_); go_simp
    clear c_0 f_0
    refine h6.k_set 1 rfl (fun w7 h7 => ?_)
    refine hK _ _ ?_; clear hK K
    refine wpList_nil ?_
    show Code.wp _ _ _ _ _
    refine wp_seq ?_
    refine wp_region_lit ?_
    iterate 6 (refine wpList_plain rfl (fun K hK => ?_); go_simp; refine hK _ _ ?_; clear hK K)
    refine wpList_nil ?_
    show Code.wp _ _ _ _ _
    refine wp_seq ?_
    refine wp_seq ?_
    refine h7.region [0, 1] [(0, true), (2, true), (3, true), (4, true), (1, false), (5, false), (6, true), (7, true), (8, true), (10, true), (11, true), (12, true), (13, true), (9, false), (14, true), (15, true)] (by kernel_rfl) (by kernel_rfl) (fun w8 h8 => ?_)
    simp only [ordOps, List.map_cons, List.map_nil, List.getD_cons_zero, List.getD_cons_succ]
    iterate 4 (refine wpOrd_quiet (v := ?_) rfl (fun _ _ _ h => h) ?_ ?_; rotate_left; (intro w' hS; have c_1_0 := hS.cell 1 rfl 0 rfl; (first | (go_simp; done) | (go_simp; with_reducible rfl))); simp only [Act.put, List.setIfInBounds_toArray, List.set_cons_zero, List.set_cons_succ])
    -- stops at: eff:call (Go.Op.call {'callee': (Go.Callee.value (Go.Operand.func 10)), 'args': [(Go.Operand.tmp 28)], 'argTypes': [26]}) slot 29
    refine wpOrd_eff rfl (fun K hK => ?_); go_simp
    have e3 : ((xs.map (Value.int .i64)).drop ((n : Int)).toNat) = (xs.drop k).map (Value.int .i64) := by
      rw [hkm.out, ← List.map_drop]
      congr 1
      by_cases hm : xs.length ≤ n
      · rw [List.drop_eq_nil_of_le (by simpa using hm), List.drop_eq_nil_of_le (by omega)]
      · congr 1; simp; omega
    rw [e3] at hq3
    refine (CInt.all_ok H2 _ _ (xs.drop k) (by simp; omega) h8.fits hq3).mono ?_
    rintro e wG ⟨v3, rfl, hp5⟩
    obtain ⟨H5, hG, rG, leG⟩ := (h8.callrow hp5).settleRow 0 rfl
    have hr5 := hr2.mono leG
    have hq5 := hq3.mono leG
    obtain ⟨vS, hvS, hrS⟩ : ∃ vS, (Value.slice (if cap = k then a else Option.map (fun x => x.add k) a) (xs.length - k) (cap - k)) = vS ∧ IntRep H5 vS (xs.drop k) := by
      refine ⟨_, rfl, ?_⟩
      have := hr5.from k hkl
      simp only [Nat.mul_one, ← List.map_drop] at this
      unfold IntRep
      rw [List.length_drop]
      exact this
    have hq_9 := hq.mono leG
    refine hK _ _ (hG.sat' leG [0, 1] (by kernel_rfl)) ?_; clear hK K
    -- stops at: eff:call (Go.Op.call {'callee': (Go.Callee.value (Go.Operand.func 9)), 'args': [(Go.Operand.tmp 29), (Go.Operand.tmp 32)], 'argTypes': [22, 22]}) slot 33
    refine wpOrd_eff rfl (fun K hK => ?_); go_simp
    refine (same_ok H5 _ _ _ _ _ (by simp; omega) (by simp; omega) hG.fits rG hrS).mono ?_
    rintro e wJ ⟨rfl, hkJ⟩
    simp only [decide_true]
    have h10 := hG.callk hkJ
    refine hK _ _ (h10.sat' leG [0, 1] (by kernel_rfl)) ?_; clear hK K
    iterate 2 (refine wpOrd_quiet (v := ?_) rfl (fun _ _ _ h => h) ?_ ?_; rotate_left; (intro w' hS; (first | (go_simp; done) | (go_simp; with_reducible rfl))); simp only [Act.put, List.setIfInBounds_toArray, List.set_cons_zero, List.set_cons_succ])
    iterate 5 (refine wpOrd_quiet (v := ?_) rfl (fun _ _ _ h => h) ?_ ?_; rotate_left; (intro w' hS; have c_1_0 := hS.cell 1 rfl 0 rfl; (first | (go_simp; done) | (go_simp; with_reducible rfl))); simp only [Act.put, List.setIfInBounds_toArray, List.set_cons_zero, List.set_cons_succ])
    -- stops at: eff:call (Go.Op.call {'callee': (Go.Callee.value (Go.Operand.func 11)), 'args': [(Go.Operand.tmp 36)], 'argTypes': [26]}) slot 37
    refine wpOrd_eff rfl (fun K hK => ?_); go_simp
    refine (CInt.len_ok H5 _ _ _ h10.fits hq5).mono ?_
    rintro e wK ⟨rfl, hkK⟩
    have e4 : (((xs.drop k).map (Value.int .i64)).length : Int) = (xs.length : Int) - k := by simp; omega
    rw [e4]
    have e5 : IntKind.i64.wrap ((xs.length : Int) - k) = (xs.length : Int) - k := IntWalk.i64_in _ (by omega)
    have h11 := h10.callk hkK
    refine hK _ _ (h11.sat' leG [0, 1] (by kernel_rfl)) ?_; clear hK K
    iterate 1 (refine wpOrd_quiet (v := ?_) rfl (fun _ _ _ h => h) ?_ ?_; rotate_left; (intro w' hS; (first | (go_simp; done) | (go_simp; with_reducible rfl))); simp only [Act.put, List.setIfInBounds_toArray, List.set_cons_zero, List.set_cons_succ])
    iterate 1 (refine wpOrd_quiet (v := ?_) rfl (fun _ _ _ h => h) ?_ ?_; rotate_left; (intro w' hS; (first | (go_simp; done) | (go_simp; with_reducible rfl))); simp only [Act.put, List.setIfInBounds_toArray, List.set_cons_zero, List.set_cons_succ])
    refine wpOrd_nil ?_
    show Code.wp _ _ _ _ _
    -- stops at: cond
    refine wp_cond_false (rfl) ?_
    refine wp_skip ?_
    show Code.wp _ _ _ _ _
    refine wp_seq ?_
    refine wp_region_lit ?_
    have c_1_0 := h11.cell 1 rfl 0 rfl
    iterate 1 (refine wpList_plain rfl (fun K hK => ?_); go_simp; refine hK _ _ ?_; clear hK K)
    clear c_1_0
    -- stops at: eff:call (Go.Op.call {'callee': (Go.Callee.value (Go.Operand.func 12)), 'args': [(Go.Operand.tmp 45)], 'argTypes': [26]}) slot 46
    by_cases hkl2 : k < xs.length
    · have hd : (xs.drop k).map (Value.int .i64) = .int .i64 xs[k] :: (xs.drop (k + 1)).map (Value.int .i64) := by rw [show xs.drop k = xs[k] :: xs.drop (k + 1) from List.drop_eq_getElem_cons hkl2, List.map_cons]
      rw [hd] at hq5
      refine wpList_plain rfl (fun K hK => ?_); go_simp
      refine (CInt.first_cons H5 _ _ _ _ h11.fits hq5).mono ?_
      rintro e wL ⟨rfl, hkL⟩
      have h12 := h11.callk hkL
      refine hK _ _ ?_; clear hK K
      iterate 5 (refine wpList_plain rfl (fun K hK => ?_); go_simp; refine hK _ _ ?_; clear hK K)
      refine wpList_nil ?_
      show Code.wp _ _ _ _ _
      refine wp_seq ?_
      refine wp_seq ?_
      refine wp_region_lit ?_
      iterate 2 (refine wpList_plain rfl (fun K hK => ?_); go_simp; refine hK _ _ ?_; clear hK K)
      refine wpList_nil ?_
      show Code.wp _ _ _ _ _
      -- stops at: cond
      refine wp_cond_false (rfl) ?_
      refine wp_skip ?_
      show Code.wp _ _ _ _ _
      refine wp_seq ?_
      refine h12.region [0, 1] [(0, true), (2, true), (5, true), (6, true), (7, true), (1, false), (3, false), (4, false), (8, false), (9, true), (10, true), (11, true), (12, true), (13, true), (14, true), (15, true), (16, true), (17, true)] (by kernel_rfl) (by kernel_rfl) (fun w13 h13 => ?_)
      simp only [ordOps, List.map_cons, List.map_nil, List.getD_cons_zero, List.getD_cons_succ]
      iterate 5 (refine wpOrd_quiet (v := ?_) rfl (fun _ _ _ h => h) ?_ ?_; rotate_left; (intro w' hS; have c_1_0 := hS.cell 1 rfl 0 rfl; (first | (go_simp; done) | (go_simp; with_reducible rfl))); simp only [Act.put, List.setIfInBounds_toArray, List.set_cons_zero, List.set_cons_succ])
      -- stops at: eff:call (Go.Op.call {'callee': (Go.Callee.value (Go.Operand.func 13)), 'args': [(Go.Operand.tmp 61)], 'argTypes': [26]}) slot 62
      refine wpOrd_eff rfl (fun K hK => ?_); go_simp
      refine (CInt.rest_ok H5 _ _ _ h13.fits hq5).mono ?_
      rintro e wM ⟨q6, rfl, hkM, hq6⟩
      have h14 := h13.callk hkM
      refine hK _ _ (h14.sat' (GH.le_refl _) [0, 1] (by kernel_rfl)) ?_; clear hK K
      -- stops at: eff:call (Go.Op.call {'callee': (Go.Callee.value (Go.Operand.func 14)), 'args': [(Go.Operand.tmp 62), (Go.Operand.tmp 63)], 'argTypes': [26, 3]}) slot 64
      refine wpOrd_eff rfl (fun K hK => ?_); go_simp
      refine (CInt.push_ok H5 _ _ _ _ (by simp; omega) h14.fits hq6).mono ?_
      rintro e wN ⟨q7, H7, rfl, hp7, hq7⟩
      have h15 := h14.call0 hp7
      have hq_15 := hq_9.mono hp7.le
      refine hK _ _ (h15.sat' hp7.le [0, 1] (by kernel_rfl)) ?_; clear hK K
      -- stops at: eff:call (Go.Op.call {'callee': (Go.Callee.value (Go.Operand.func 10)), 'args': [(Go.Operand.tmp 64)], 'argTypes': [26]}) slot 65
      refine wpOrd_eff rfl (fun K hK => ?_); go_simp
      refine (CInt.all_ok H7 _ _ (xs.drop k) (by simp; omega) h15.fits (by rw [hd]; exact hq7)).mono ?_
      rintro e wO ⟨v8, rfl, hp8⟩
      obtain ⟨H8, hO, rO, leO⟩ := (h15.callrow hp8).settleRow 0 rfl
      have hr8 := (hr5.mono hp7.le).mono leO
      have hrS8 := (hrS.mono hp7.le).mono leO
      have hq_16 := hq_15.mono leO
      refine hK _ _ (hO.sat' (GH.le.trans hp7.le leO) [0, 1] (by kernel_rfl)) ?_; clear hK K
      -- stops at: eff:call (Go.Op.call {'callee': (Go.Callee.value (Go.Operand.func 9)), 'args': [(Go.Operand.tmp 65), (Go.Operand.tmp 68)], 'argTypes': [22, 22]}) slot 69
      refine wpOrd_eff rfl (fun K hK => ?_); go_simp
      refine (same_ok H8 _ _ _ _ _ (by simp; omega) (by simp; omega) hO.fits rO hrS8).mono ?_
      rintro e wP ⟨rfl, hkP⟩
      simp only [decide_true]
      have h17 := hO.callk hkP
      refine hK _ _ (h17.sat' (GH.le.trans hp7.le leO) [0, 1] (by kernel_rfl)) ?_; clear hK K
      obtain ⟨b, off, cap2, ee, _⟩ := hr.ne_nil (by omega)
      simp only [Value.slice.injEq, true_and] at ee
      obtain ⟨rfl, rfl⟩ := ee
      have g1 : (xs.map (Value.int .i64))[k]? = some (.int .i64 xs[k]) := by simp [hkl2]
      iterate 1 (refine wpOrd_quiet (v := ?_) rfl (fun _ _ _ h => h) ?_ ?_; rotate_left; (intro w' hS; (first | (go_simp; done) | (go_simp; with_reducible rfl))); simp only [Act.put, List.setIfInBounds_toArray, List.set_cons_zero, List.set_cons_succ])
      iterate 4 (refine wpOrd_quiet (v := ?_) rfl (fun _ _ _ h => h) ?_ ?_; rotate_left; (intro w' hS; (first | (go_simp; done) | (go_simp; with_reducible rfl))); simp only [Act.put, List.setIfInBounds_toArray, List.set_cons_zero, List.set_cons_succ])
      -- stops at: load (Go.Op.load 3 (Go.Operand.tmp 74)) slot 75
      iterate 1 (refine wpOrd_quiet (v := ?_) rfl (fun _ _ _ h => h) ?_ ?_; rotate_left; (intro w' hS; have ce := hr5.cell hS.1 k g1; (first | (go_simp; done) | (go_simp; with_reducible rfl))); simp only [Act.put, List.setIfInBounds_toArray, List.set_cons_zero, List.set_cons_succ])
      iterate 1 (refine wpOrd_quiet (v := ?_) rfl (fun _ _ _ h => h) ?_ ?_; rotate_left; (intro w' hS; (first | (go_simp; done) | (go_simp; with_reducible rfl))); simp only [Act.put, List.setIfInBounds_toArray, List.set_cons_zero, List.set_cons_succ])
      iterate 2 (refine wpOrd_quiet (v := ?_) rfl (fun _ _ _ h => h) ?_ ?_; rotate_left; (intro w' hS; (first | (go_simp; done) | (go_simp; with_reducible rfl))); simp only [Act.put, List.setIfInBounds_toArray, List.set_cons_zero, List.set_cons_succ])
      refine wpOrd_nil ?_
      show Code.wp _ _ _ _ _
      -- stops at: ret
      refine wp_ret ?_
      go_ret
      exact ⟨rfl, h17.post.keep⟩
    · obtain rfl : k = xs.length := by omega
      rw [List.drop_length] at hq5
      cases hq5 with
      | nil =>
      refine wpList_plain rfl (fun K hK => ?_); go_simp
      refine (CInt.first_nil H5 _ h11.fits).mono ?_
      rintro e wL ⟨rfl, hkL⟩
      have h18 := h11.callk hkL
      refine hK _ _ ?_; clear hK K
      iterate 5 (refine wpList_plain rfl (fun K hK => ?_); go_simp; refine hK _ _ ?_; clear hK K)
      refine wpList_nil ?_
      show Code.wp _ _ _ _ _
      refine wp_seq ?_
      refine wp_seq ?_
      refine wp_region_lit ?_
      iterate 2 (refine wpList_plain rfl (fun K hK => ?_); go_simp; refine hK _ _ ?_; clear hK K)
      refine wpList_nil ?_
      show Code.wp _ _ _ _ _
      -- stops at: cond
      refine wp_cond_true (rfl) ?_
      have hl5 : ((xs.length : Int) == (xs.length : Int)) = true := by simp
      refine wp_seq ?_
      refine wp_region_lit ?_
      iterate 5 (refine wpList_plain rfl (fun K hK => ?_); go_simp; refine hK _ _ ?_; clear hK K)
      have c_1_0 := h18.cell 1 rfl 0 rfl
      iterate 1 (first | go_skip | (refine wpList_step (fun K hK => ?_); go_simp; refine hK _ _ ?_; clear hK K))
      clear c_1_0
      -- stops at: eff:call (Go.Op.call {'callee': (Go.Callee.value (Go.Operand.func 13)), 'args': [(Go.Operand.tmp 56)], 'argTypes': [26]}) slot 57
      refine wpList_step (fun K hK => ?_); go_simp
      refine (CInt.rest_ok H5 _ _ [] h18.fits .nil).mono ?_
      rintro e wM ⟨q6, rfl, hkM, hq6⟩
      have h19 := h18.callk hkM
      refine hK _ _ ?_; clear hK K
      -- stops at: eff:call (Go.Op.call {'callee': (Go.Callee.value (Go.Operand.func 11)), 'args': [(Go.Operand.tmp 57)], 'argTypes': [26]}) slot 58
      refine wpList_step (fun K hK => ?_); go_simp
      refine (CInt.len_ok H5 _ _ _ h19.fits hq6).mono ?_
      rintro e wN ⟨rfl, hkN⟩
      have h20 := h19.callk hkN
      refine hK _ _ ?_; clear hK K
      iterate 1 (first | go_skip | (refine wpList_step (fun K hK => ?_); go_simp; refine hK _ _ ?_; clear hK K))
      iterate 2 (refine wpList_plain rfl (fun K hK => ?_); go_simp; refine hK _ _ ?_; clear hK K)
      refine wpList_nil ?_
      show Code.wp _ _ _ _ _
      -- stops at: ret
      refine wp_ret ?_
      go_ret
      exact ⟨rfl, h20.post.keep⟩
  · have hl1 : decide ((60 : Int) < (xs.length : Int)) = true := by simp; omega
    go_enter Try.func3, Try.ntmps3
    have h0 := St.start hpre
    refine wp_seq ?_
    refine wp_region_lit ?_
    iterate 1 (refine wpList_plain rfl (fun K hK => ?_); go_simp; refine hK _ _ ?_; clear hK K)
    refine wpList_nil ?_
    show Code.wp _ _ _ _ _
    refine wp_seq ?_
    refine wp_region_lit ?_
    -- stops at: eff:call (Go.Op.call {'callee': (Go.Callee.value (Go.Operand.func 6)), 'args': [], 'argTypes': []}) slot 11
    refine wpList_plain rfl (fun K hK => ?_); go_simp
    refine (awake_ok _).mono ?_
    rintro e wA ⟨rfl, hkA⟩
    have h1 := h0.callk hkA
    refine hK _ _ ?_; clear hK K
    iterate 1 (refine wpList_plain rfl (fun K hK => ?_); go_simp; refine hK _ _ ?_; clear hK K)
    refine wpList_nil ?_
    show Code.wp _ _ _ _ _
    refine wp_seq ?_
    refine wp_seq ?_
    refine wp_region_lit ?_
    iterate 2 (refine wpList_plain rfl (fun K hK => ?_); go_simp; refine hK _ _ ?_; clear hK K)
    refine wpList_nil ?_
    show Code.wp _ _ _ _ _
    -- stops at: cond
    refine wp_cond_false (rfl) ?_
    refine wp_skip ?_
    show Code.wp _ _ _ _ _
    refine wp_seq ?_
    refine wp_seq ?_
    refine wp_region_lit ?_
    iterate 3 (refine wpList_plain rfl (fun K hK => ?_); go_simp; refine hK _ _ ?_; clear hK K)
    refine wpList_nil ?_
    show Code.wp _ _ _ _ _
    -- stops at: cond
    refine wp_cond_true (rfl) ?_
    refine wp_seq ?_
    refine wp_region_lit ?_
    iterate 1 (refine wpList_plain rfl (fun K hK => ?_); go_simp; refine hK _ _ ?_; clear hK K)
    refine wpList_nil ?_
    show Code.wp _ _ _ _ _
    -- stops at: ret
    refine wp_ret ?_
    go_ret
    exact ⟨rfl, h1.post.keep⟩
end Go.Proofs.Ytallllpjjhcaoaa
