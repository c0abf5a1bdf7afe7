/-
The document's rows of trees: levelled; which has the least root; how many elements.
-/
import Derived.Test.YteigmfkkeofcaaaGreatDoorSdTrees
namespace Go.Proofs.YteigmfkkeofcaaaGreatDoor
open Go Go.RowKit
set_option linter.unusedVariables false

set_option maxRecDepth 100000 in
set_option maxHeartbeats 1000000 in
theorem rlevel_ok (H : GH) (w : World) (v : Value) (l : List (Tr El)) (hf : Fits w H) (hn : Rw.size l < 1000000) (hv : RsV H v l) :
    Calls Tryz.prog 57 #[v] w fun e w' => ∃ r H', e = .returned (.tuple #[r, .int .i64 (2 * Sk.levelN kf l : Nat)]) ∧ Post w H none w' H' 0 0 ∧ RsV H' r (Sk.level kf l) := by
  have hpre : Pre w H none 0 0 := Pre.none hf 0 0
  cases l with
  | nil =>
    obtain ⟨a0, c0, rfl, _, _⟩ := hv.form
    go_enter Tryz.func57, Tryz.ntmps57
    have h0 := St.start hpre
    refine wp_seq ?_
    repeat (first | simp only [List.nil_append] at h0 | simp only [List.cons_append] at h0 | simp only [List.set_cons_zero] at h0 | simp only [List.set_cons_succ] at h0 | simp only [List.eraseIdx_zero] at h0 | simp only [List.tail_cons] at h0 | simp only [List.eraseIdx_cons_zero] at h0 | simp only [List.eraseIdx_cons_succ] at h0 | simp only [List.setIfInBounds_toArray] at h0)
    refine wp_region_lit ?_
    iterate 2 (refine wpList_plainQ rfl (fun K Q' hK => ?_); go_simp; refine hK _ _ ?_; clear hK K; try clear Q')
    refine wpList_nil ?_
    show Code.wp _ _ _ _ _
    refine wp_seq ?_
    refine wp_seq ?_
    refine wp_region_lit ?_
    iterate 3 (refine wpList_plainQ rfl (fun K Q' hK => ?_); go_simp; refine hK _ _ ?_; clear hK K; try clear Q')
    refine wpList_nil ?_
    show Code.wp _ _ _ _ _
    -- stops at: cond
    refine wp_cond_true (rfl) ?_
    refine wp_seq ?_
    refine wp_region_lit ?_
    iterate 3 (refine wpList_plainQ rfl (fun K Q' hK => ?_); go_simp; refine hK _ _ ?_; clear hK K; try clear Q')
    refine wpList_nil ?_
    show Code.wp _ _ _ _ _
    -- stops at: ret
    refine wp_ret ?_
    go_ret2
    exact ⟨_, H, rfl, h0.post, hv⟩
  | cons t l =>
    obtain ⟨b0, o0, cap0, nn, vS, rfl, hnn, hn1, hn0, hcap0, hvS, hrest⟩ := hv.cons
    obtain ⟨aF, cF, aG, cG, r1, z1, hc, hr1, hf1⟩ := hv.head
    have d1 : ((nn : Int) == 0) = false := beq_eq_false_iff_ne.2 (by omega)
    simp [Addr.add] at hvS
    rw [Rw.size_cons] at hn
    go_enter Tryz.func57, Tryz.ntmps57
    have h0 := St.start hpre
    refine wp_seq ?_
    repeat (first | simp only [List.nil_append] at h0 | simp only [List.cons_append] at h0 | simp only [List.set_cons_zero] at h0 | simp only [List.set_cons_succ] at h0 | simp only [List.eraseIdx_zero] at h0 | simp only [List.tail_cons] at h0 | simp only [List.eraseIdx_cons_zero] at h0 | simp only [List.eraseIdx_cons_succ] at h0 | simp only [List.setIfInBounds_toArray] at h0)
    refine wp_region_lit ?_
    iterate 2 (refine wpList_plainQ rfl (fun K Q' hK => ?_); go_simp; refine hK _ _ ?_; clear hK K; try clear Q')
    refine wpList_nil ?_
    show Code.wp _ _ _ _ _
    refine wp_seq ?_
    refine wp_seq ?_
    refine wp_region_lit ?_
    iterate 3 (refine wpList_plainQ rfl (fun K Q' hK => ?_); go_simp; refine hK _ _ ?_; clear hK K; try clear Q')
    refine wpList_nil ?_
    show Code.wp _ _ _ _ _
    -- stops at: cond
    refine wp_cond_false (rfl) ?_
    refine wp_skip ?_
    show Code.wp _ _ _ _ _
    refine wp_seq ?_
    refine h0.region [] [(0, true), (1, true), (2, true), (3, true), (4, true), (5, false), (6, true), (7, true), (8, true), (9, true)] (by kernel_rfl) (by kernel_rfl) (fun w1 h1 => ?_)
    refine wpOrd_hide (fun _ _ d _ _ h => by cases d <;> exact h) (fun QR hQn hQp => ?_)
    simp only [ordOps, List.map_cons, List.map_nil, List.getD_cons_zero, List.getD_cons_succ]
    iterate 2 (refine wpOrd_quiet (v := ?_) rfl (fun _ _ _ => hQp _ _ _ _ _) ?_ ?_; rotate_left; (intro w' hS; (first | (go_simp; done) | (go_simp; with_reducible rfl))); simp only [Act.put, List.setIfInBounds_toArray, List.set_cons_zero, List.set_cons_succ])
    -- stops at: load (Go.Op.load 103 (Go.Operand.tmp 9)) slot 10
    iterate 1 (refine wpOrd_quiet (v := ?_) rfl (fun _ _ _ => hQp _ _ _ _ _) ?_ ?_; rotate_left; (intro w' hS; obtain ⟨q0, q1, q2, q3, q4, q5⟩ := hc.out _ hS.1; (first | (go_simp; done) | (go_simp; with_reducible rfl))); simp only [Act.put, List.setIfInBounds_toArray, List.set_cons_zero, List.set_cons_succ])
    iterate 2 (refine wpOrd_quiet (v := ?_) rfl (fun _ _ _ => hQp _ _ _ _ _) ?_ ?_; rotate_left; (intro w' hS; (first | (go_simp; done) | (go_simp; with_reducible rfl))); simp only [Act.put, List.setIfInBounds_toArray, List.set_cons_zero, List.set_cons_succ])
    -- stops at: eff:call (Go.Op.call {'callee': (Go.Callee.value (Go.Operand.func 83)), 'args': [(Go.Operand.tmp 10), (Go.Operand.tmp 12)], 'argTypes': [103, 33]}) slot 13
    refine wpOrd_effQ rfl (fun K Q' hK => ?_); go_simp
    refine (rput_ok l t H _ _ vS h1.fits hn hf1 hrest).mono ?_
    rintro e wA ⟨r, H1, rfl, hpA, hA⟩
    obtain ⟨aP, cP, rfl, _, _⟩ := hA.form
    have h2 := h1.call0 hpA
    refine hK _ _ (h2.sat' hpA.le [] (by kernel_rfl)) ?_; clear hK K; try clear Q'
    iterate 4 (refine wpOrd_quiet (v := ?_) rfl (fun _ _ _ => hQp _ _ _ _ _) ?_ ?_; rotate_left; (intro w' hS; (first | (go_simp; done) | (go_simp; with_reducible rfl))); simp only [Act.put, List.setIfInBounds_toArray, List.set_cons_zero, List.set_cons_succ])
    refine wpOrd_nil (hQn _ _ ?_); clear hQn hQp QR
    show Code.wp _ _ _ _ _
    -- stops at: ret
    refine wp_ret ?_
    go_ret2
    exact ⟨_, H1, rfl, h2.post, hA⟩

set_option maxRecDepth 100000 in
set_option maxHeartbeats 4000000 in
theorem rleast_ok (H : GH) (w : World) (v : Value) (t0 : Tr El) (l0 : List (Tr El)) (hf : Fits w H) (hn : Rw.size (t0 :: l0) < 1000000) (hv : RsV H v (t0 :: l0)) :
    Calls Tryz.prog 66 #[v] w fun e w' => e = .returned (.int .i64 (Rw.least kf (t0 :: l0) : Nat)) ∧ Keep none w w' := by
  have hpre : Pre w H none 0 0 := Pre.none hf 0 0
  obtain ⟨b9, o9, cap9, nn, _, rfl, hnn, _, _, hcap, _, _⟩ := hv.cons
  have hkl : Hid (nn = l0.length + 1) := hnn
  have hlb : nn < 1000000 := by have := hkl.out; have := Rw.length_le (t0 :: l0); simp at this; omega
  go_enter Tryz.func66, Tryz.ntmps66
  have h0 := St.start hpre
  refine wp_seq ?_
  repeat (first | simp only [List.nil_append] at h0 | simp only [List.cons_append] at h0 | simp only [List.set_cons_zero] at h0 | simp only [List.set_cons_succ] at h0 | simp only [List.eraseIdx_zero] at h0 | simp only [List.tail_cons] at h0 | simp only [List.eraseIdx_cons_zero] at h0 | simp only [List.eraseIdx_cons_succ] at h0 | simp only [List.setIfInBounds_toArray] at h0)
  refine wp_region_lit ?_
  iterate 1 (refine wpList_plainQ rfl (fun K Q' hK => ?_); go_simp; refine hK _ _ ?_; clear hK K; try clear Q')
  refine wpList_nil ?_
  show Code.wp _ _ _ _ _
  refine wp_seq ?_
  refine wp_region_lit ?_
  iterate 1 (refine wpList_plainQ rfl (fun K Q' hK => ?_); go_simp; refine hK _ _ ?_; clear hK K; try clear Q')
  refine wpList_nil ?_
  show Code.wp _ _ _ _ _
  refine wp_seq ?_
  refine wp_seq ?_
  refine wp_region_lit ?_
  iterate 1 (refine wpList_plainQ rfl (fun K Q' hK => ?_); go_simp; refine hK _ _ ?_; clear hK K; try clear Q')
  refine wpList_nil ?_
  show Code.wp _ _ _ _ _
  refine wp_block ?_
  -- stops at: loop
  go_loopw [3, 4] (fun v3 v4 wr => ∃ (j bst : Nat), j ≤ l0.length ∧ Hid (bst = Rw.leastAt kf (t0 :: l0) t0.x j) ∧ v3 = .int .i64 bst ∧ v4 = .int .i64 ((j : Int) + 1) ∧ St w H none 0 0 wr H [] []) (fun _ v4 _ => l0.length + 1 - (intOf v4).toNat)
  case atStart => exact ⟨0, 0, by omega, rfl, rfl, rfl, h0⟩
  case round =>
    obtain ⟨j, bst, hj, hb, rfl, rfl, hs⟩ := hrel
    by_cases hlt : j < l0.length
    · have hbj : bst < nn := by have := hb.out; have := Rw.leastAt_le kf (t0 :: l0) t0.x j; have := hkl.out; omega
      obtain ⟨j1, hj1e⟩ : ∃ j1, Hid (j + 1 = j1) := ⟨_, show _ = _ from rfl⟩
      have ei : ((j : Int) + 1) = (j1 : Int) := by have := hj1e.out; omega
      have hj1' : j1 < nn := by have := hj1e.out; have := hkl.out; omega
      have e8 : IntKind.i64.wrap ((j1 : Int) + 1) = (j1 : Int) + 1 := IntWalk.i64_in _ (by omega)
      obtain ⟨tX, htX⟩ : ∃ t, (t0 :: l0)[j1]? = some t := ⟨(t0 :: l0)[j1]'(by have := hkl.out; simp; omega), by simp⟩
      obtain ⟨_, _, _, _, hcX, _, _, _, _⟩ := hv.at j1 htX
      obtain ⟨tY, htY⟩ : ∃ t, (t0 :: l0)[bst]? = some t := ⟨(t0 :: l0)[bst]'(by have := hkl.out; simp; omega), by simp⟩
      obtain ⟨_, _, _, _, hcY, _, _, _, _⟩ := hv.at bst htY
      rw [ei]
      clear ei
      refine wp_seq ?_
      refine wp_seq ?_
      repeat (first | simp only [List.nil_append] at hs | simp only [List.cons_append] at hs | simp only [List.set_cons_zero] at hs | simp only [List.set_cons_succ] at hs | simp only [List.eraseIdx_zero] at hs | simp only [List.tail_cons] at hs | simp only [List.eraseIdx_cons_zero] at hs | simp only [List.eraseIdx_cons_succ] at hs | simp only [List.setIfInBounds_toArray] at hs)
      refine wp_region_lit ?_
      iterate 4 (refine wpList_plainQ rfl (fun K Q' hK => ?_); go_simp; refine hK _ _ ?_; clear hK K; try clear Q')
      refine wpList_nil ?_
      show Code.wp _ _ _ _ _
      -- stops at: cond
      refine wp_cond_true (rfl) ?_
      refine wp_skip ?_
      show Code.wp _ _ _ _ _
      refine wp_seq ?_
      refine wp_block ?_
      refine wp_seq ?_
      refine hs.region [] [(0, true), (1, true), (2, true), (3, true), (4, true), (5, true), (6, true), (7, true), (8, true), (9, true), (10, false), (11, true)] (by kernel_rfl) (by kernel_rfl) (fun w1 h1 => ?_)
      refine wpOrd_hide (fun _ _ d _ _ h => by cases d <;> exact h) (fun QR hQn hQp => ?_)
      simp only [ordOps, List.map_cons, List.map_nil, List.getD_cons_zero, List.getD_cons_succ]
      iterate 4 (refine wpOrd_quiet (v := ?_) rfl (fun _ _ _ => hQp _ _ _ _ _) ?_ ?_; rotate_left; (intro w' hS; (first | (go_simp; done) | (go_simp; with_reducible rfl))); simp only [Act.put, List.setIfInBounds_toArray, List.set_cons_zero, List.set_cons_succ])
      -- stops at: load (Go.Op.load 32 (Go.Operand.tmp 15)) slot 16
      iterate 1 (refine wpOrd_quiet (v := ?_) rfl (fun _ _ _ => hQp _ _ _ _ _) ?_ ?_; rotate_left; (intro w' hS; obtain ⟨q0, q1, q2, q3, q4, q5⟩ := hcX.out _ hS.1; (first | (go_simp; done) | (go_simp; with_reducible rfl))); simp only [Act.put, List.setIfInBounds_toArray, List.set_cons_zero, List.set_cons_succ])
      iterate 4 (refine wpOrd_quiet (v := ?_) rfl (fun _ _ _ => hQp _ _ _ _ _) ?_ ?_; rotate_left; (intro w' hS; (first | (go_simp; done) | (go_simp; with_reducible rfl))); simp only [Act.put, List.setIfInBounds_toArray, List.set_cons_zero, List.set_cons_succ])
      -- stops at: load (Go.Op.load 32 (Go.Operand.tmp 20)) slot 21
      iterate 1 (refine wpOrd_quiet (v := ?_) rfl (fun _ _ _ => hQp _ _ _ _ _) ?_ ?_; rotate_left; (intro w' hS; obtain ⟨q0, q1, q2, q3, q4, q5⟩ := hcY.out _ hS.1; (first | (go_simp; done) | (go_simp; with_reducible rfl))); simp only [Act.put, List.setIfInBounds_toArray, List.set_cons_zero, List.set_cons_succ])
      -- stops at: eff:call (Go.Op.call {'callee': (Go.Callee.value (Go.Operand.func 26)), 'args': [(Go.Operand.tmp 16), (Go.Operand.tmp 21)], 'argTypes': [32, 32]}) slot 22
      refine wpOrd_effQ rfl (fun K Q' hK => ?_); go_simp
      refine (rless_ok H _ tX.x tY.x h1.fits).mono ?_
      rintro e wC ⟨rfl, hkC⟩
      obtain ⟨lt, hltt⟩ : ∃ lt, Hid (El.lt tX.x tY.x = lt) := ⟨_, show _ = _ from rfl⟩
      rw [hltt.out]
      have h2 := h1.callk hkC
      refine hK _ _ (h2.sat' (GH.le_refl _) [] (by kernel_rfl)) ?_; clear hK K; try clear Q'
      iterate 1 (refine wpOrd_quiet (v := ?_) rfl (fun _ _ _ => hQp _ _ _ _ _) ?_ ?_; rotate_left; (intro w' hS; (first | (go_simp; done) | (go_simp; with_reducible rfl))); simp only [Act.put, List.setIfInBounds_toArray, List.set_cons_zero, List.set_cons_succ])
      refine wpOrd_nil (hQn _ _ ?_); clear hQn hQp QR
      show Code.wp _ _ _ _ _
      refine wp_seq ?_
      repeat (first | simp only [List.nil_append] at h2 | simp only [List.cons_append] at h2 | simp only [List.set_cons_zero] at h2 | simp only [List.set_cons_succ] at h2 | simp only [List.eraseIdx_zero] at h2 | simp only [List.tail_cons] at h2 | simp only [List.eraseIdx_cons_zero] at h2 | simp only [List.eraseIdx_cons_succ] at h2 | simp only [List.setIfInBounds_toArray] at h2)
      refine wp_region_lit ?_
      iterate 1 (refine wpList_plainQ rfl (fun K Q' hK => ?_); go_simp; refine hK _ _ ?_; clear hK K; try clear Q')
      refine wpList_nil ?_
      show Code.wp _ _ _ _ _
      -- stops at: cond
      have hstep : Hid (Rw.leastAt kf (t0 :: l0) t0.x j1 = if lt then j1 else bst) := by
        show _ = _
        rw [← hj1e.out, Rw.leastAt_succ, ← hb.out, hj1e.out, Rw.rootAt_get _ htX, Rw.rootAt_get _ htY, show El.lt (kf tX.x) (kf tY.x) = lt from hltt.out]
      cases lt with
      | true =>
        refine wp_cond_true (rfl) ?_
        refine wp_region_lit ?_
        iterate 2 (refine wpList_plainQ rfl (fun K Q' hK => ?_); go_simp; refine hK _ _ ?_; clear hK K; try clear Q')
        refine wpList_nil ?_
        show Code.wp _ _ _ _ _
        refine wp_region_lit ?_
        iterate 3 (refine wpList_plainQ rfl (fun K Q' hK => ?_); go_simp; refine hK _ _ ?_; clear hK K; try clear Q')
        refine wpList_nil ?_
        -- stops at: end ('roundend',)
        show _ ∧ _
        go_roundw
        case rel => exact ⟨j1, j1, by have := hj1e.out; omega, hstep.out.symm, rfl, rfl, h2⟩
        case measure => simp [intOf]; have := hj1e.out; omega
      | false =>
        refine wp_cond_false (rfl) ?_
        refine wp_skip ?_
        show Code.wp _ _ _ _ _
        refine wp_region_lit ?_
        iterate 3 (refine wpList_plainQ rfl (fun K Q' hK => ?_); go_simp; refine hK _ _ ?_; clear hK K; try clear Q')
        refine wpList_nil ?_
        -- stops at: end ('roundend',)
        show _ ∧ _
        go_roundw
        case rel => exact ⟨j1, bst, by have := hj1e.out; omega, hstep.out.symm, rfl, rfl, h2⟩
        case measure => simp [intOf]; have := hj1e.out; omega
    · obtain rfl : j = l0.length := by omega
      have d1 : decide ((l0.length : Int) + 1 < (nn : Int)) = false := decide_eq_false (by have := hkl.out; omega)
      refine wp_seq ?_
      refine wp_seq ?_
      repeat (first | simp only [List.nil_append] at hs | simp only [List.cons_append] at hs | simp only [List.set_cons_zero] at hs | simp only [List.set_cons_succ] at hs | simp only [List.eraseIdx_zero] at hs | simp only [List.tail_cons] at hs | simp only [List.eraseIdx_cons_zero] at hs | simp only [List.eraseIdx_cons_succ] at hs | simp only [List.setIfInBounds_toArray] at hs)
      refine wp_region_lit ?_
      iterate 4 (refine wpList_plainQ rfl (fun K Q' hK => ?_); go_simp; refine hK _ _ ?_; clear hK K; try clear Q')
      refine wpList_nil ?_
      show Code.wp _ _ _ _ _
      -- stops at: cond
      refine wp_cond_false (rfl) ?_
      refine wp_exit ?_
      show Code.wp _ _ _ _ _
      refine wp_seq ?_
      refine wp_region_lit ?_
      iterate 2 (refine wpList_plainQ rfl (fun K Q' hK => ?_); go_simp; refine hK _ _ ?_; clear hK K; try clear Q')
      refine wpList_nil ?_
      show Code.wp _ _ _ _ _
      -- stops at: ret
      refine wp_ret ?_
      go_ret
      exact ⟨by rw [show Rw.least kf (t0 :: l0) = bst from hb.out.symm]; rfl, hs.post.keep⟩

set_option maxRecDepth 100000 in
set_option maxHeartbeats 2000000 in
theorem r7size_ok (H : GH) (w : World) (v : Value) (l : List (Tr El)) (hf : Fits w H) (hn : Rw.size l < 1000000) (hv : RsV H v l) :
    Calls Tryz.prog 40 #[.agg #[v]] w fun e w' => e = .returned (.int .i64 (Rw.size l : Nat)) ∧ Keep none w w' := by
  have hpre : Pre w H none 0 0 := Pre.none hf 0 0
  obtain ⟨a0, c0, rfl, _, _⟩ := hv.form
  obtain ⟨nn, hnn⟩ : ∃ nn, Hid (l.length = nn) := ⟨_, show _ = _ from rfl⟩
  have hlb : nn < 1000000 := by have := hnn.out; have := Rw.length_le l; omega
  rw [hnn.out] at hv ⊢
  go_enter Tryz.func40, Tryz.ntmps40
  have h0 := St.start hpre
  refine wp_seq ?_
  repeat (first | simp only [List.nil_append] at h0 | simp only [List.cons_append] at h0 | simp only [List.set_cons_zero] at h0 | simp only [List.set_cons_succ] at h0 | simp only [List.eraseIdx_zero] at h0 | simp only [List.tail_cons] at h0 | simp only [List.eraseIdx_cons_zero] at h0 | simp only [List.eraseIdx_cons_succ] at h0 | simp only [List.setIfInBounds_toArray] at h0)
  refine wp_region_lit ?_
  refine wpList_plainQ rfl (fun K Q' hK => ?_); go_simp
  refine h0.k_alloc (fun w1 h1 => ?_)
  refine hK _ _ ?_; clear hK K; try clear Q'
  iterate 1 (refine wpList_plainQ rfl (fun K Q' hK => ?_); go_simp; refine hK _ _ ?_; clear hK K; try clear Q')
  refine wpList_nil ?_
  show Code.wp _ _ _ _ _
  refine wp_seq ?_
  repeat (first | simp only [List.nil_append] at h1 | simp only [List.cons_append] at h1 | simp only [List.set_cons_zero] at h1 | simp only [List.set_cons_succ] at h1 | simp only [List.eraseIdx_zero] at h1 | simp only [List.tail_cons] at h1 | simp only [List.eraseIdx_cons_zero] at h1 | simp only [List.eraseIdx_cons_succ] at h1 | simp only [List.setIfInBounds_toArray] at h1)
  refine wp_region_lit ?_
  iterate 1 (refine wpList_plainQ rfl (fun K Q' hK => ?_); go_simp; refine hK _ _ ?_; clear hK K; try clear Q')
  refine wpList_nil ?_
  show Code.wp _ _ _ _ _
  refine wp_seq ?_
  refine wp_seq ?_
  refine wp_region_lit ?_
  iterate 1 (refine wpList_plainQ rfl (fun K Q' hK => ?_); go_simp; refine hK _ _ ?_; clear hK K; try clear Q')
  refine wpList_nil ?_
  show Code.wp _ _ _ _ _
  refine wp_block ?_
  -- stops at: loop
  go_loopw [3, 4] (fun v3 v4 wr => ∃ j : Nat, j ≤ nn ∧ v3 = .int .i64 (Rw.size (l.take j) : Nat) ∧ v4 = .int .i64 j ∧ St w H none 0 0 wr H [(w.heap.size, .cells #[.slice a0 nn c0] 91)] []) (fun _ v4 _ => nn - (intOf v4).toNat)
  case atStart => exact ⟨0, by omega, by simp [Rw.size, Rw.els], rfl, h1⟩
  case round =>
    obtain ⟨j, hj, rfl, rfl, hs⟩ := hrel
    by_cases hlt : j < nn
    · obtain ⟨tj, htj⟩ : ∃ t, l[j]? = some t := ⟨l[j]'(by have := hnn.out; omega), by simp⟩
      obtain ⟨b9, o9, cap9, e9⟩ : ∃ b o c, (Value.slice a0 nn c0) = .slice (some ⟨b, o, none⟩) nn c := by
        obtain ⟨cs, h1, _⟩ := hv
        obtain ⟨b, o, c, e, _⟩ := h1.ne_nil (by have := hnn.out; omega)
        rw [hnn.out] at e
        exact ⟨b, o, c, e⟩
      simp only [Value.slice.injEq, true_and] at e9
      obtain ⟨rfl, rfl⟩ := e9
      obtain ⟨_, _, _, zj, hc, _, hz, _, _⟩ := hv.at j htj
      have hst := sumSz_take l j tj htj
      have hsm := size_take_le l (j + 1)
      obtain ⟨s0, hs0⟩ : ∃ s0, Hid (Rw.size (l.take j) = s0) := ⟨_, show _ = _ from rfl⟩
      obtain ⟨s2, hs2⟩ : ∃ s2, Hid (Rw.size (l.take (j + 1)) = s2) := ⟨_, show _ = _ from rfl⟩
      have e7 : IntKind.i64.wrap ((s0 : Int) + (zj : Int)) = (s2 : Int) := by have := hs0.out; have := hz.out; have := hs2.out; rw [IntWalk.i64_in _ (by omega)]; omega
      have e8 : IntKind.i64.wrap ((j : Int) + 1) = (j : Int) + 1 := IntWalk.i64_in _ (by omega)
      rw [hs0.out]
      clear hst hsm
      refine wp_seq ?_
      refine wp_seq ?_
      repeat (first | simp only [List.nil_append] at hs | simp only [List.cons_append] at hs | simp only [List.set_cons_zero] at hs | simp only [List.set_cons_succ] at hs | simp only [List.eraseIdx_zero] at hs | simp only [List.tail_cons] at hs | simp only [List.eraseIdx_cons_zero] at hs | simp only [List.eraseIdx_cons_succ] at hs | simp only [List.setIfInBounds_toArray] at hs)
      refine wp_region_lit ?_
      have c_0_0 := hs.cell 0 rfl 0 rfl
      iterate 5 (refine wpList_plainQ rfl (fun K Q' hK => ?_); go_simp; refine hK _ _ ?_; clear hK K; try clear Q')
      clear c_0_0
      refine wpList_nil ?_
      show Code.wp _ _ _ _ _
      -- stops at: cond
      refine wp_cond_true (rfl) ?_
      refine wp_skip ?_
      show Code.wp _ _ _ _ _
      refine wp_seq ?_
      refine wp_block ?_
      refine wp_region_lit ?_
      have c_0_0 := hs.cell 0 rfl 0 rfl
      iterate 6 (refine wpList_plainQ rfl (fun K Q' hK => ?_); go_simp; refine hK _ _ ?_; clear hK K; try clear Q')
      clear c_0_0
      -- stops at: load (Go.Op.load 3 (Go.Operand.tmp 17)) slot 18
      have ce := hc.out _ hs.fits
      obtain ⟨q0, q1, q2, q3, q4, q5⟩ := ce
      iterate 1 (refine wpList_plainQ rfl (fun K Q' hK => ?_); go_simp; refine hK _ _ ?_; clear hK K; try clear Q')
      clear q0 q1 q2 q3 q4 q5
      iterate 2 (refine wpList_plainQ rfl (fun K Q' hK => ?_); go_simp; refine hK _ _ ?_; clear hK K; try clear Q')
      refine wpList_nil ?_
      show Code.wp _ _ _ _ _
      refine wp_region_lit ?_
      iterate 3 (refine wpList_plainQ rfl (fun K Q' hK => ?_); go_simp; refine hK _ _ ?_; clear hK K; try clear Q')
      refine wpList_nil ?_
      -- stops at: end ('roundend',)
      show _ ∧ _
      go_roundw
      case rel => exact ⟨j + 1, by omega, by rw [hs2.out], by simp, hs⟩
      case measure => simp [intOf]; omega
    · obtain rfl : j = nn := by omega
      refine wp_seq ?_
      refine wp_seq ?_
      repeat (first | simp only [List.nil_append] at hs | simp only [List.cons_append] at hs | simp only [List.set_cons_zero] at hs | simp only [List.set_cons_succ] at hs | simp only [List.eraseIdx_zero] at hs | simp only [List.tail_cons] at hs | simp only [List.eraseIdx_cons_zero] at hs | simp only [List.eraseIdx_cons_succ] at hs | simp only [List.setIfInBounds_toArray] at hs)
      refine wp_region_lit ?_
      have c_0_0 := hs.cell 0 rfl 0 rfl
      iterate 5 (refine wpList_plainQ rfl (fun K Q' hK => ?_); go_simp; refine hK _ _ ?_; clear hK K; try clear Q')
      clear c_0_0
      refine wpList_nil ?_
      show Code.wp _ _ _ _ _
      -- stops at: cond
      refine wp_cond_false (rfl) ?_
      refine wp_exit ?_
      show Code.wp _ _ _ _ _
      refine wp_seq ?_
      refine wp_region_lit ?_
      iterate 2 (refine wpList_plainQ rfl (fun K Q' hK => ?_); go_simp; refine hK _ _ ?_; clear hK K; try clear Q')
      refine wpList_nil ?_
      show Code.wp _ _ _ _ _
      -- stops at: ret
      refine wp_ret ?_
      go_ret
      refine ⟨?_, hs.post.keep⟩
      rw [← hnn.out, List.take_length]
      rfl
end Go.Proofs.YteigmfkkeofcaaaGreatDoor
