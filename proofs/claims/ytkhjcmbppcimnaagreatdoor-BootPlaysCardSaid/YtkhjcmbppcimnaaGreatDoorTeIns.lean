/-
The document's rows of trees of heaps: which has the least root; a heap put in.
-/
import Derived.Test.YtkhjcmbppcimnaaGreatDoorTdTrees
namespace Go.Proofs.YtkhjcmbppcimnaaGreatDoor
open Go Go.RowKit
set_option linter.unusedVariables false

theorem wsum_take (ts : List (Tr Vp)) (i : Nat) (t : Tr Vp) (h : ts[i]? = some t) : Rw.size (ts.take (i + 1)) = Rw.size (ts.take i) + t.size := by
  rw [List.take_add_one, h, Rw.size_append]; simp [Rw.size, Rw.els]; rfl
theorem wsize_take_le (ts : List (Tr Vp)) (i : Nat) : Rw.size (ts.take i) ≤ Rw.size ts := by
  have h := Rw.size_append (ts.take i) (ts.drop i)
  rw [List.take_append_drop] at h
  omega
theorem wsize_mem {ts : List (Tr Vp)} {i : Nat} {t : Tr Vp} (h : ts[i]? = some t) : t.size ≤ Rw.size ts := by
  have h1 := wsum_take ts i t h
  have h2 := wsize_take_le ts (i + 1)
  omega
set_option maxRecDepth 100000 in
set_option maxHeartbeats 4000000 in
theorem wleast_ok (H : GH) (w : World) (v : Value) (t0 : Tr Vp) (l0 : List (Tr Vp)) (hf : Fits w H) (hn : Rw.size (t0 :: l0) < 1000000) (hv : RsW H v (t0 :: l0)) :
    Calls Tryz.prog 31 #[v] w fun e w' => e = .returned (.int .i64 (Rw.least kw (t0 :: l0) : Nat)) ∧ Keep none w w' := by
  have hpre : Pre w H none 0 0 := Pre.none hf 0 0
  obtain ⟨b9, o9, cap9, nn, _, rfl, hnn, _, _, hcap, _, _⟩ := hv.cons
  have hkl : Hid (nn = l0.length + 1) := hnn
  have hlb : nn < 1000000 := by have := hkl.out; have := Rw.length_le (t0 :: l0); simp at this; omega
  go_enter Tryz.func31, Tryz.ntmps31
  have h0 := St.start hpre
  refine wp_seq ?_
  repeat (first | simp only [List.nil_append] at h0 | simp only [List.cons_append] at h0 | simp only [List.set_cons_zero] at h0 | simp only [List.set_cons_succ] at h0 | simp only [List.eraseIdx_zero] at h0 | simp only [List.tail_cons] at h0 | simp only [List.eraseIdx_cons_zero] at h0 | simp only [List.eraseIdx_cons_succ] at h0 | simp only [List.setIfInBounds_toArray] at h0)
  refine wp_region_lit ?_
  iterate 1 (refine wpList_plainQ rfl (fun K Q' hK => ?_); go_simp; refine hK _ _ ?_; clear hK K; try clear Q')
  refine wpList_nil ?_
  show Code.wp _ _ _ _ _
  refine wp_seq ?_
  refine wp_region_lit ?_
  iterate 1 (refine wpList_plainQ rfl (fun K Q' hK => ?_); go_simp; refine hK _ _ ?_; clear hK K; try clear Q')
  refine wpList_nil ?_
  show Code.wp _ _ _ _ _
  refine wp_seq ?_
  refine wp_seq ?_
  refine wp_region_lit ?_
  iterate 1 (refine wpList_plainQ rfl (fun K Q' hK => ?_); go_simp; refine hK _ _ ?_; clear hK K; try clear Q')
  refine wpList_nil ?_
  show Code.wp _ _ _ _ _
  refine wp_block ?_
  -- stops at: loop
  go_loopw [3, 4] (fun v3 v4 wr => ∃ (j bst : Nat), j ≤ l0.length ∧ Hid (bst = Rw.leastAt kw (t0 :: l0) t0.x j) ∧ v3 = .int .i64 bst ∧ v4 = .int .i64 ((j : Int) + 1) ∧ St w H none 0 0 wr H [] []) (fun _ v4 _ => l0.length + 1 - (intOf v4).toNat)
  case atStart => exact ⟨0, 0, by omega, rfl, rfl, rfl, h0⟩
  case round =>
    obtain ⟨j, bst, hj, hb, rfl, rfl, hs⟩ := hrel
    by_cases hlt : j < l0.length
    · have hbj : bst < nn := by have := hb.out; have := Rw.leastAt_le kw (t0 :: l0) t0.x j; have := hkl.out; omega
      obtain ⟨j1, hj1e⟩ : ∃ j1, Hid (j + 1 = j1) := ⟨_, show _ = _ from rfl⟩
      have ei : ((j : Int) + 1) = (j1 : Int) := by have := hj1e.out; omega
      have hj1' : j1 < nn := by have := hj1e.out; have := hkl.out; omega
      have e8 : IntKind.i64.wrap ((j1 : Int) + 1) = (j1 : Int) + 1 := IntWalk.i64_in _ (by omega)
      obtain ⟨tX, htX⟩ : ∃ t, (t0 :: l0)[j1]? = some t := ⟨(t0 :: l0)[j1]'(by have := hkl.out; simp; omega), by simp⟩
      obtain ⟨bRX, oRX, cRX, _, _, _, _, _, hcRX, hcX, _, hxX, _, _⟩ := hv.at j1 htX
      obtain ⟨_, _, _, _, hdX⟩ := hxX.cells
      obtain ⟨tY, htY⟩ : ∃ t, (t0 :: l0)[bst]? = some t := ⟨(t0 :: l0)[bst]'(by have := hkl.out; simp; omega), by simp⟩
      obtain ⟨bRY, oRY, cRY, _, _, _, _, _, hcRY, hcY, _, hxY, _, _⟩ := hv.at bst htY
      obtain ⟨_, _, _, _, hdY⟩ := hxY.cells
      rw [ei]
      clear ei
      refine wp_seq ?_
      refine wp_seq ?_
      repeat (first | simp only [List.nil_append] at hs | simp only [List.cons_append] at hs | simp only [List.set_cons_zero] at hs | simp only [List.set_cons_succ] at hs | simp only [List.eraseIdx_zero] at hs | simp only [List.tail_cons] at hs | simp only [List.eraseIdx_cons_zero] at hs | simp only [List.eraseIdx_cons_succ] at hs | simp only [List.setIfInBounds_toArray] at hs)
      refine wp_region_lit ?_
      iterate 4 (refine wpList_plainQ rfl (fun K Q' hK => ?_); go_simp; refine hK _ _ ?_; clear hK K; try clear Q')
      refine wpList_nil ?_
      show Code.wp _ _ _ _ _
      -- stops at: cond
      refine wp_cond_true (rfl) ?_
      refine wp_skip ?_
      show Code.wp _ _ _ _ _
      refine wp_seq ?_
      refine wp_block ?_
      refine wp_seq ?_
      refine hs.region [] [(0, true), (1, true), (2, true), (3, true), (4, true), (5, true), (6, true), (7, true), (8, true), (9, true), (10, true), (11, true), (12, true), (13, true), (14, true), (15, true), (16, false), (17, true)] (by kernel_rfl) (by kernel_rfl) (fun w1 h1 => ?_)
      refine wpOrd_hide (fun _ _ d _ _ h => by cases d <;> exact h) (fun QR hQn hQp => ?_)
      simp only [ordOps, List.map_cons, List.map_nil, List.getD_cons_zero, List.getD_cons_succ]
      iterate 4 (refine wpOrd_quiet (v := ?_) rfl (fun _ _ _ => hQp _ _ _ _ _) ?_ ?_; rotate_left; (intro w' hS; (first | (go_simp; done) | (go_simp; with_reducible rfl))); simp only [Act.put, List.setIfInBounds_toArray, List.set_cons_zero, List.set_cons_succ])
      -- stops at: load (Go.Op.load 36 (Go.Operand.tmp 15)) slot 16
      iterate 1 (refine wpOrd_quiet (v := ?_) rfl (fun _ _ _ => hQp _ _ _ _ _) ?_ ?_; rotate_left; (intro w' hS; obtain ⟨q0, q1, q2, q3⟩ := hcX.out _ hS.1; (first | (go_simp; done) | (go_simp; with_reducible rfl))); simp only [Act.put, List.setIfInBounds_toArray, List.set_cons_zero, List.set_cons_succ])
      iterate 2 (refine wpOrd_quiet (v := ?_) rfl (fun _ _ _ => hQp _ _ _ _ _) ?_ ?_; rotate_left; (intro w' hS; (first | (go_simp; done) | (go_simp; with_reducible rfl))); simp only [Act.put, List.setIfInBounds_toArray, List.set_cons_zero, List.set_cons_succ])
      -- stops at: load (Go.Op.load 32 (Go.Operand.tmp 18)) slot 19
      iterate 1 (refine wpOrd_quiet (v := ?_) rfl (fun _ _ _ => hQp _ _ _ _ _) ?_ ?_; rotate_left; (intro w' hS; obtain ⟨q0, q1, q2, q3⟩ := hdX.out _ hS.1; (first | (go_simp; done) | (go_simp; with_reducible rfl))); simp only [Act.put, List.setIfInBounds_toArray, List.set_cons_zero, List.set_cons_succ])
      iterate 4 (refine wpOrd_quiet (v := ?_) rfl (fun _ _ _ => hQp _ _ _ _ _) ?_ ?_; rotate_left; (intro w' hS; (first | (go_simp; done) | (go_simp; with_reducible rfl))); simp only [Act.put, List.setIfInBounds_toArray, List.set_cons_zero, List.set_cons_succ])
      -- stops at: load (Go.Op.load 36 (Go.Operand.tmp 23)) slot 24
      iterate 1 (refine wpOrd_quiet (v := ?_) rfl (fun _ _ _ => hQp _ _ _ _ _) ?_ ?_; rotate_left; (intro w' hS; obtain ⟨q0, q1, q2, q3⟩ := hcY.out _ hS.1; (first | (go_simp; done) | (go_simp; with_reducible rfl))); simp only [Act.put, List.setIfInBounds_toArray, List.set_cons_zero, List.set_cons_succ])
      iterate 2 (refine wpOrd_quiet (v := ?_) rfl (fun _ _ _ => hQp _ _ _ _ _) ?_ ?_; rotate_left; (intro w' hS; (first | (go_simp; done) | (go_simp; with_reducible rfl))); simp only [Act.put, List.setIfInBounds_toArray, List.set_cons_zero, List.set_cons_succ])
      -- stops at: load (Go.Op.load 32 (Go.Operand.tmp 26)) slot 27
      iterate 1 (refine wpOrd_quiet (v := ?_) rfl (fun _ _ _ => hQp _ _ _ _ _) ?_ ?_; rotate_left; (intro w' hS; obtain ⟨q0, q1, q2, q3⟩ := hdY.out _ hS.1; (first | (go_simp; done) | (go_simp; with_reducible rfl))); simp only [Act.put, List.setIfInBounds_toArray, List.set_cons_zero, List.set_cons_succ])
      -- stops at: eff:call (Go.Op.call {'callee': (Go.Callee.value (Go.Operand.func 26)), 'args': [(Go.Operand.tmp 19), (Go.Operand.tmp 27)], 'argTypes': [32, 32]}) slot 28
      refine wpOrd_effQ rfl (fun K Q' hK => ?_); go_simp
      refine (rless_ok H _ (kw tX.x) (kw tY.x) h1.fits).mono ?_
      rintro e wC ⟨rfl, hkC⟩
      obtain ⟨lt, hltt⟩ : ∃ lt, Hid (El.lt (kw tX.x) (kw tY.x) = lt) := ⟨_, show _ = _ from rfl⟩
      rw [hltt.out]
      have h2 := h1.callk hkC
      refine hK _ _ (h2.sat' (GH.le_refl _) [] (by kernel_rfl)) ?_; clear hK K; try clear Q'
      iterate 1 (refine wpOrd_quiet (v := ?_) rfl (fun _ _ _ => hQp _ _ _ _ _) ?_ ?_; rotate_left; (intro w' hS; (first | (go_simp; done) | (go_simp; with_reducible rfl))); simp only [Act.put, List.setIfInBounds_toArray, List.set_cons_zero, List.set_cons_succ])
      refine wpOrd_nil (hQn _ _ ?_); clear hQn hQp QR
      show Code.wp _ _ _ _ _
      refine wp_seq ?_
      repeat (first | simp only [List.nil_append] at h2 | simp only [List.cons_append] at h2 | simp only [List.set_cons_zero] at h2 | simp only [List.set_cons_succ] at h2 | simp only [List.eraseIdx_zero] at h2 | simp only [List.tail_cons] at h2 | simp only [List.eraseIdx_cons_zero] at h2 | simp only [List.eraseIdx_cons_succ] at h2 | simp only [List.setIfInBounds_toArray] at h2)
      refine wp_region_lit ?_
      iterate 1 (refine wpList_plainQ rfl (fun K Q' hK => ?_); go_simp; refine hK _ _ ?_; clear hK K; try clear Q')
      refine wpList_nil ?_
      show Code.wp _ _ _ _ _
      -- stops at: cond
      have hstep : Hid (Rw.leastAt kw (t0 :: l0) t0.x j1 = if lt then j1 else bst) := by
        show _ = _
        rw [← hj1e.out, Rw.leastAt_succ, ← hb.out, hj1e.out, Rw.rootAt_get _ htX, Rw.rootAt_get _ htY, hltt.out]
      cases lt with
      | true =>
        refine wp_cond_true (rfl) ?_
        refine wp_region_lit ?_
        iterate 2 (refine wpList_plainQ rfl (fun K Q' hK => ?_); go_simp; refine hK _ _ ?_; clear hK K; try clear Q')
        refine wpList_nil ?_
        show Code.wp _ _ _ _ _
        refine wp_region_lit ?_
        iterate 3 (refine wpList_plainQ rfl (fun K Q' hK => ?_); go_simp; refine hK _ _ ?_; clear hK K; try clear Q')
        refine wpList_nil ?_
        -- stops at: end ('roundend',)
        show _ ∧ _
        go_roundw
        case rel => exact ⟨j1, j1, by have := hj1e.out; omega, hstep.out.symm, rfl, rfl, h2⟩
        case measure => simp [intOf]; have := hj1e.out; omega
      | false =>
        refine wp_cond_false (rfl) ?_
        refine wp_skip ?_
        show Code.wp _ _ _ _ _
        refine wp_region_lit ?_
        iterate 3 (refine wpList_plainQ rfl (fun K Q' hK => ?_); go_simp; refine hK _ _ ?_; clear hK K; try clear Q')
        refine wpList_nil ?_
        -- stops at: end ('roundend',)
        show _ ∧ _
        go_roundw
        case rel => exact ⟨j1, bst, by have := hj1e.out; omega, hstep.out.symm, rfl, rfl, h2⟩
        case measure => simp [intOf]; have := hj1e.out; omega
    · obtain rfl : j = l0.length := by omega
      have d1 : decide ((l0.length : Int) + 1 < (nn : Int)) = false := decide_eq_false (by have := hkl.out; omega)
      refine wp_seq ?_
      refine wp_seq ?_
      repeat (first | simp only [List.nil_append] at hs | simp only [List.cons_append] at hs | simp only [List.set_cons_zero] at hs | simp only [List.set_cons_succ] at hs | simp only [List.eraseIdx_zero] at hs | simp only [List.tail_cons] at hs | simp only [List.eraseIdx_cons_zero] at hs | simp only [List.eraseIdx_cons_succ] at hs | simp only [List.setIfInBounds_toArray] at hs)
      refine wp_region_lit ?_
      iterate 4 (refine wpList_plainQ rfl (fun K Q' hK => ?_); go_simp; refine hK _ _ ?_; clear hK K; try clear Q')
      refine wpList_nil ?_
      show Code.wp _ _ _ _ _
      -- stops at: cond
      refine wp_cond_false (rfl) ?_
      refine wp_exit ?_
      show Code.wp _ _ _ _ _
      refine wp_seq ?_
      refine wp_region_lit ?_
      iterate 2 (refine wpList_plainQ rfl (fun K Q' hK => ?_); go_simp; refine hK _ _ ?_; clear hK K; try clear Q')
      refine wpList_nil ?_
      show Code.wp _ _ _ _ _
      -- stops at: ret
      refine wp_ret ?_
      go_ret
      exact ⟨by rw [show Rw.least kw (t0 :: l0) = bst from hb.out.symm]; rfl, hs.post.keep⟩

theorem HsV.one {H : GH} {v : Value} {x : Vp} (h : SliceRep H 4 v 1 x.1) (hx : vC x) : HsV H v [x] := by
  refine ⟨?_, fun y hy => by rw [List.mem_singleton.1 hy]; exact hx⟩
  show SliceRep H 4 v 1 (x.1 ++ [])
  rw [List.append_nil]; exact h
theorem HsV.push {H : GH} {v : Value} {x : Vp} {l : List Vp} (h : SliceRep H 4 v (1 + l.length) (x.1 ++ vpC l)) (hx : vC x) (hl : ∀ y ∈ l, vC y) : HsV H v (x :: l) := by
  refine ⟨?_, fun y hy => (List.mem_cons.1 hy).elim (fun e => e ▸ hx) (hl y)⟩
  rw [List.length_cons, Nat.add_comm]
  exact h
set_option maxRecDepth 100000 in
set_option maxHeartbeats 4000000 in
theorem wins_nil (H : GH) (w : World) (x : Vp) (v : Value) (hx : vC x) (hf : Fits w H) (hv : RsW H v []) :
    Calls Tryz.prog 27 #[.agg x.1.toArray, v] w fun e w' => ∃ q' H', e = .returned (.tuple #[q', .int .i64 (Sk.insC ([] : List (Tr Vp)) + Sk.insD ([] : List (Tr Vp)) : Nat)]) ∧ Post w H none w' H' 0 0 ∧ RsW H' q' (Sk.insert kw x []) := by
  have hpre : Pre w H none 0 0 := Pre.none hf 0 0
  obtain ⟨xs, bx⟩ := x
  have hx' := hx
  obtain ⟨ax, nx, cx, exs⟩ := hx'
  simp only at exs
  subst exs
  have hv' := hv
  obtain ⟨a0, c0, rfl, _, _⟩ := hv.form
  have hll : ([] : List (Tr Vp)).length < 1000000 := by simp
  go_enter Tryz.func27, Tryz.ntmps27
  have h0 := St.start hpre
  refine wp_seq ?_
  repeat (first | simp only [List.nil_append] at h0 | simp only [List.cons_append] at h0 | simp only [List.set_cons_zero] at h0 | simp only [List.set_cons_succ] at h0 | simp only [List.eraseIdx_zero] at h0 | simp only [List.tail_cons] at h0 | simp only [List.eraseIdx_cons_zero] at h0 | simp only [List.eraseIdx_cons_succ] at h0 | simp only [List.setIfInBounds_toArray] at h0)
  refine wp_region_lit ?_
  refine wpList_plainQ rfl (fun K Q' hK => ?_); go_simp
  refine h0.k_alloc (fun w1 h1 => ?_)
  refine hK _ _ ?_; clear hK K; try clear Q'
  iterate 2 (refine wpList_plainQ rfl (fun K Q' hK => ?_); go_simp; refine hK _ _ ?_; clear hK K; try clear Q')
  refine wpList_nil ?_
  show Code.wp _ _ _ _ _
  refine wp_seq ?_
  refine wp_seq ?_
  repeat (first | simp only [List.nil_append] at h1 | simp only [List.cons_append] at h1 | simp only [List.set_cons_zero] at h1 | simp only [List.set_cons_succ] at h1 | simp only [List.eraseIdx_zero] at h1 | simp only [List.tail_cons] at h1 | simp only [List.eraseIdx_cons_zero] at h1 | simp only [List.eraseIdx_cons_succ] at h1 | simp only [List.setIfInBounds_toArray] at h1)
  refine h1.region [] [(0, true), (1, true), (2, true), (3, true), (4, true), (5, true), (6, true), (7, true), (8, true), (9, true), (10, true), (11, true), (12, true), (13, true)] (by kernel_rfl) (by kernel_rfl) (fun w2 h2 => ?_)
  refine wpOrd_hide (fun _ _ d _ _ h => by cases d <;> exact h) (fun QR hQn hQp => ?_)
  simp only [ordOps, List.map_cons, List.map_nil, List.getD_cons_zero, List.getD_cons_succ]
  iterate 4 (refine wpOrd_quiet (v := ?_) rfl (fun _ _ _ => hQp _ _ _ _ _) ?_ ?_; rotate_left; (intro w' hS; (first | (go_simp; done) | (go_simp; with_reducible rfl))); simp only [Act.put, List.setIfInBounds_toArray, List.set_cons_zero, List.set_cons_succ])
  iterate 3 (first | (refine wpOrd_skip rfl (fun _ _ _ => hQp _ _ _ _ _) ?_; simp only [Act.put, List.setIfInBounds_toArray, List.set_cons_zero, List.set_cons_succ]) | (refine wpOrd_quiet (v := ?_) rfl (fun _ _ _ => hQp _ _ _ _ _) ?_ ?_; rotate_left; (intro w' hS; (first | (go_simp; done) | (go_simp; with_reducible rfl))); simp only [Act.put, List.setIfInBounds_toArray, List.set_cons_zero, List.set_cons_succ]))
  -- stops at: load (Go.Op.load 3 (Go.Operand.tmp 19)) slot 20
  refine wpOrd_skip rfl (fun _ _ _ => hQp _ _ _ _ _) ?_; simp only [Act.put, List.setIfInBounds_toArray, List.set_cons_zero, List.set_cons_succ]
  iterate 3 (first | (refine wpOrd_skip rfl (fun _ _ _ => hQp _ _ _ _ _) ?_; simp only [Act.put, List.setIfInBounds_toArray, List.set_cons_zero, List.set_cons_succ]) | (refine wpOrd_quiet (v := ?_) rfl (fun _ _ _ => hQp _ _ _ _ _) ?_ ?_; rotate_left; (intro w' hS; (first | (go_simp; done) | (go_simp; with_reducible rfl))); simp only [Act.put, List.setIfInBounds_toArray, List.set_cons_zero, List.set_cons_succ]))
  -- stops at: load (Go.Op.load 3 (Go.Operand.tmp 23)) slot 24
  refine wpOrd_skip rfl (fun _ _ _ => hQp _ _ _ _ _) ?_; simp only [Act.put, List.setIfInBounds_toArray, List.set_cons_zero, List.set_cons_succ]
  iterate 1 (first | (refine wpOrd_skip rfl (fun _ _ _ => hQp _ _ _ _ _) ?_; simp only [Act.put, List.setIfInBounds_toArray, List.set_cons_zero, List.set_cons_succ]) | (refine wpOrd_quiet (v := ?_) rfl (fun _ _ _ => hQp _ _ _ _ _) ?_ ?_; rotate_left; (intro w' hS; (first | (go_simp; done) | (go_simp; with_reducible rfl))); simp only [Act.put, List.setIfInBounds_toArray, List.set_cons_zero, List.set_cons_succ]))
  iterate 1 (refine wpOrd_quiet (v := ?_) rfl (fun _ _ _ => hQp _ _ _ _ _) ?_ ?_; rotate_left; (intro w' hS; (first | (go_simp; done) | (go_simp; with_reducible rfl))); simp only [Act.put, List.setIfInBounds_toArray, List.set_cons_zero, List.set_cons_succ])
  refine wpOrd_nil (hQn _ _ ?_); clear hQn hQp QR
  show Code.wp _ _ _ _ _
  -- stops at: cond
  refine wp_cond_true (rfl) ?_
  refine wp_seq ?_
  repeat (first | simp only [List.nil_append] at h2 | simp only [List.cons_append] at h2 | simp only [List.set_cons_zero] at h2 | simp only [List.set_cons_succ] at h2 | simp only [List.eraseIdx_zero] at h2 | simp only [List.tail_cons] at h2 | simp only [List.eraseIdx_cons_zero] at h2 | simp only [List.eraseIdx_cons_succ] at h2 | simp only [List.setIfInBounds_toArray] at h2)
  refine wp_region_lit ?_
  have c_0_0 := h2.cell 0 rfl 0 rfl
  have c_0_1 := h2.cell 0 rfl 1 rfl
  have c_0_2 := h2.cell 0 rfl 2 rfl
  have c_0_3 := h2.cell 0 rfl 3 rfl
  iterate 1 (refine wpList_plainQ rfl (fun K Q' hK => ?_); go_simp; refine hK _ _ ?_; clear hK K; try clear Q')
  clear c_0_0 c_0_1 c_0_2 c_0_3
  refine wpList_plainQ rfl (fun K Q' hK => ?_); go_simp
  refine h2.k_alloc (fun w3 h3 => ?_)
  refine hK _ _ ?_; clear hK K; try clear Q'
  iterate 1 (refine wpList_plainQ rfl (fun K Q' hK => ?_); go_simp; refine hK _ _ ?_; clear hK K; try clear Q')
  refine wpList_plainQ rfl (fun K Q' hK => ?_); go_simp
  refine h3.k_alloc (fun w4 h4 => ?_)
  refine hK _ _ ?_; clear hK K; try clear Q'
  iterate 1 (refine wpList_plainQ rfl (fun K Q' hK => ?_); go_simp; refine hK _ _ ?_; clear hK K; try clear Q')
  refine wpList_nil ?_
  show Code.wp _ _ _ _ _
  refine wp_seq ?_
  repeat (first | simp only [List.nil_append] at h4 | simp only [List.cons_append] at h4 | simp only [List.set_cons_zero] at h4 | simp only [List.set_cons_succ] at h4 | simp only [List.eraseIdx_zero] at h4 | simp only [List.tail_cons] at h4 | simp only [List.eraseIdx_cons_zero] at h4 | simp only [List.eraseIdx_cons_succ] at h4 | simp only [List.setIfInBounds_toArray] at h4)
  refine wp_region_lit ?_
  iterate 2 (refine wpList_plainQ rfl (fun K Q' hK => ?_); go_simp; refine hK _ _ ?_; clear hK K; try clear Q')
  -- stops at: eff:Builtin.append (Go.Op.call {'callee': (Go.Callee.builtin Go.Builtin.append), 'args': [(Go.Operand.tmp 31), (Go.Operand.tmp 32)], 'argTypes': [33, 33]}) slot 33
  have hR0 := h4.rowOf 1 rfl 4 1 rfl (by unfold maxLen; omega)
  obtain ⟨H5, h5, rX, leX⟩ := hR0.settleRow 0 rfl
  have hR := h5.rowOf 1 rfl 4 1 rfl (by unfold maxLen; omega)
  refine wpList_plainQ rfl (fun K Q' hK => ?_)
  obtain ⟨cs, hv1, hv2⟩ := hv'.mono leX
  refine hR.op_append_rep 0 rfl rfl infoTT rfl cs rfl hv1 (TW.one hv2) (by have := hll; omega) (by have := hll; unfold maxLen; omega) (fun v1 wB hB => ?_)
  refine hK _ _ ?_; clear hK K; try clear Q'
  obtain ⟨aV, cV, rfl⟩ := hB.row_form 0 rfl
  obtain ⟨H9, h9, rA, leA⟩ := hB.settleRow 0 rfl
  iterate 2 (refine wpList_plainQ rfl (fun K Q' hK => ?_); go_simp; refine hK _ _ ?_; clear hK K; try clear Q')
  refine wpList_nil ?_
  show Code.wp _ _ _ _ _
  -- stops at: ret
  refine wp_ret ?_
  go_ret2
  refine ⟨_, H9, rfl, h9.post, ?_⟩
  rw [show Sk.insert kw (([.bool true, .int .i64 bx.root.1, .int .i64 bx.root.2, .slice ax nx cx] : List Value), bx) [] = [Tr.leaf (([.bool true, .int .i64 bx.root.1, .int .i64 bx.root.2, .slice ax nx cx] : List Value), bx)] from rfl]
  refine ⟨_, ?_, TW.push (t := Tr.leaf (([.bool true, .int .i64 bx.root.1, .int .i64 bx.root.2, .slice ax nx cx] : List Value), bx)) (r := 0) rfl ((HsV.one rX hx).mono leA) (HsV.nil _) (RsW.nil _) (hv2.mono leA)⟩
  show SliceRep H9 4 _ ((([] : List (Tr Vp))).length + 1) _
  rw [Nat.add_comm (([] : List (Tr Vp))).length 1]
  exact rA
set_option maxRecDepth 100000 in
set_option maxHeartbeats 4000000 in
theorem wins_one (H : GH) (w : World) (x : Vp) (v : Value) (a : Tr Vp) (hx : vC x) (hf : Fits w H) (hv : RsW H v [a]) :
    Calls Tryz.prog 27 #[.agg x.1.toArray, v] w fun e w' => ∃ q' H', e = .returned (.tuple #[q', .int .i64 (Sk.insC [a] + Sk.insD [a] : Nat)]) ∧ Post w H none w' H' 0 0 ∧ RsW H' q' (Sk.insert kw x [a]) := by
  have hpre : Pre w H none 0 0 := Pre.none hf 0 0
  obtain ⟨xs, bx⟩ := x
  have hx' := hx
  obtain ⟨ax, nx, cx, exs⟩ := hx'
  simp only at exs
  subst exs
  have hv' := hv
  obtain ⟨b0, o0, cap0, nn, vS, rfl, hnn, hn1, hn0, hcap0, hvS, hrest⟩ := hv.cons
  have hnn1 : nn = 1 := hnn.out
  subst hnn1
  have hll : [a].length < 1000000 := by simp
  go_enter Tryz.func27, Tryz.ntmps27
  have h0 := St.start hpre
  refine wp_seq ?_
  repeat (first | simp only [List.nil_append] at h0 | simp only [List.cons_append] at h0 | simp only [List.set_cons_zero] at h0 | simp only [List.set_cons_succ] at h0 | simp only [List.eraseIdx_zero] at h0 | simp only [List.tail_cons] at h0 | simp only [List.eraseIdx_cons_zero] at h0 | simp only [List.eraseIdx_cons_succ] at h0 | simp only [List.setIfInBounds_toArray] at h0)
  refine wp_region_lit ?_
  refine wpList_plainQ rfl (fun K Q' hK => ?_); go_simp
  refine h0.k_alloc (fun w1 h1 => ?_)
  refine hK _ _ ?_; clear hK K; try clear Q'
  iterate 2 (refine wpList_plainQ rfl (fun K Q' hK => ?_); go_simp; refine hK _ _ ?_; clear hK K; try clear Q')
  refine wpList_nil ?_
  show Code.wp _ _ _ _ _
  refine wp_seq ?_
  refine wp_seq ?_
  repeat (first | simp only [List.nil_append] at h1 | simp only [List.cons_append] at h1 | simp only [List.set_cons_zero] at h1 | simp only [List.set_cons_succ] at h1 | simp only [List.eraseIdx_zero] at h1 | simp only [List.tail_cons] at h1 | simp only [List.eraseIdx_cons_zero] at h1 | simp only [List.eraseIdx_cons_succ] at h1 | simp only [List.setIfInBounds_toArray] at h1)
  refine h1.region [] [(0, true), (1, true), (2, true), (3, true), (4, true), (5, true), (6, true), (7, true), (8, true), (9, true), (10, true), (11, true), (12, true), (13, true)] (by kernel_rfl) (by kernel_rfl) (fun w2 h2 => ?_)
  refine wpOrd_hide (fun _ _ d _ _ h => by cases d <;> exact h) (fun QR hQn hQp => ?_)
  simp only [ordOps, List.map_cons, List.map_nil, List.getD_cons_zero, List.getD_cons_succ]
  iterate 4 (refine wpOrd_quiet (v := ?_) rfl (fun _ _ _ => hQp _ _ _ _ _) ?_ ?_; rotate_left; (intro w' hS; (first | (go_simp; done) | (go_simp; with_reducible rfl))); simp only [Act.put, List.setIfInBounds_toArray, List.set_cons_zero, List.set_cons_succ])
  iterate 3 (first | (refine wpOrd_skip rfl (fun _ _ _ => hQp _ _ _ _ _) ?_; simp only [Act.put, List.setIfInBounds_toArray, List.set_cons_zero, List.set_cons_succ]) | (refine wpOrd_quiet (v := ?_) rfl (fun _ _ _ => hQp _ _ _ _ _) ?_ ?_; rotate_left; (intro w' hS; (first | (go_simp; done) | (go_simp; with_reducible rfl))); simp only [Act.put, List.setIfInBounds_toArray, List.set_cons_zero, List.set_cons_succ]))
  -- stops at: load (Go.Op.load 3 (Go.Operand.tmp 19)) slot 20
  refine wpOrd_skip rfl (fun _ _ _ => hQp _ _ _ _ _) ?_; simp only [Act.put, List.setIfInBounds_toArray, List.set_cons_zero, List.set_cons_succ]
  iterate 3 (first | (refine wpOrd_skip rfl (fun _ _ _ => hQp _ _ _ _ _) ?_; simp only [Act.put, List.setIfInBounds_toArray, List.set_cons_zero, List.set_cons_succ]) | (refine wpOrd_quiet (v := ?_) rfl (fun _ _ _ => hQp _ _ _ _ _) ?_ ?_; rotate_left; (intro w' hS; (first | (go_simp; done) | (go_simp; with_reducible rfl))); simp only [Act.put, List.setIfInBounds_toArray, List.set_cons_zero, List.set_cons_succ]))
  -- stops at: load (Go.Op.load 3 (Go.Operand.tmp 23)) slot 24
  refine wpOrd_skip rfl (fun _ _ _ => hQp _ _ _ _ _) ?_; simp only [Act.put, List.setIfInBounds_toArray, List.set_cons_zero, List.set_cons_succ]
  iterate 1 (first | (refine wpOrd_skip rfl (fun _ _ _ => hQp _ _ _ _ _) ?_; simp only [Act.put, List.setIfInBounds_toArray, List.set_cons_zero, List.set_cons_succ]) | (refine wpOrd_quiet (v := ?_) rfl (fun _ _ _ => hQp _ _ _ _ _) ?_ ?_; rotate_left; (intro w' hS; (first | (go_simp; done) | (go_simp; with_reducible rfl))); simp only [Act.put, List.setIfInBounds_toArray, List.set_cons_zero, List.set_cons_succ]))
  iterate 1 (refine wpOrd_quiet (v := ?_) rfl (fun _ _ _ => hQp _ _ _ _ _) ?_ ?_; rotate_left; (intro w' hS; (first | (go_simp; done) | (go_simp; with_reducible rfl))); simp only [Act.put, List.setIfInBounds_toArray, List.set_cons_zero, List.set_cons_succ])
  refine wpOrd_nil (hQn _ _ ?_); clear hQn hQp QR
  show Code.wp _ _ _ _ _
  -- stops at: cond
  refine wp_cond_true (rfl) ?_
  refine wp_seq ?_
  repeat (first | simp only [List.nil_append] at h2 | simp only [List.cons_append] at h2 | simp only [List.set_cons_zero] at h2 | simp only [List.set_cons_succ] at h2 | simp only [List.eraseIdx_zero] at h2 | simp only [List.tail_cons] at h2 | simp only [List.eraseIdx_cons_zero] at h2 | simp only [List.eraseIdx_cons_succ] at h2 | simp only [List.setIfInBounds_toArray] at h2)
  refine wp_region_lit ?_
  have c_0_0 := h2.cell 0 rfl 0 rfl
  have c_0_1 := h2.cell 0 rfl 1 rfl
  have c_0_2 := h2.cell 0 rfl 2 rfl
  have c_0_3 := h2.cell 0 rfl 3 rfl
  iterate 1 (refine wpList_plainQ rfl (fun K Q' hK => ?_); go_simp; refine hK _ _ ?_; clear hK K; try clear Q')
  clear c_0_0 c_0_1 c_0_2 c_0_3
  refine wpList_plainQ rfl (fun K Q' hK => ?_); go_simp
  refine h2.k_alloc (fun w3 h3 => ?_)
  refine hK _ _ ?_; clear hK K; try clear Q'
  iterate 1 (refine wpList_plainQ rfl (fun K Q' hK => ?_); go_simp; refine hK _ _ ?_; clear hK K; try clear Q')
  refine wpList_plainQ rfl (fun K Q' hK => ?_); go_simp
  refine h3.k_alloc (fun w4 h4 => ?_)
  refine hK _ _ ?_; clear hK K; try clear Q'
  iterate 1 (refine wpList_plainQ rfl (fun K Q' hK => ?_); go_simp; refine hK _ _ ?_; clear hK K; try clear Q')
  refine wpList_nil ?_
  show Code.wp _ _ _ _ _
  refine wp_seq ?_
  repeat (first | simp only [List.nil_append] at h4 | simp only [List.cons_append] at h4 | simp only [List.set_cons_zero] at h4 | simp only [List.set_cons_succ] at h4 | simp only [List.eraseIdx_zero] at h4 | simp only [List.tail_cons] at h4 | simp only [List.eraseIdx_cons_zero] at h4 | simp only [List.eraseIdx_cons_succ] at h4 | simp only [List.setIfInBounds_toArray] at h4)
  refine wp_region_lit ?_
  iterate 2 (refine wpList_plainQ rfl (fun K Q' hK => ?_); go_simp; refine hK _ _ ?_; clear hK K; try clear Q')
  -- stops at: eff:Builtin.append (Go.Op.call {'callee': (Go.Callee.builtin Go.Builtin.append), 'args': [(Go.Operand.tmp 31), (Go.Operand.tmp 32)], 'argTypes': [33, 33]}) slot 33
  have hR0 := h4.rowOf 1 rfl 4 1 rfl (by unfold maxLen; omega)
  obtain ⟨H5, h5, rX, leX⟩ := hR0.settleRow 0 rfl
  have hR := h5.rowOf 1 rfl 4 1 rfl (by unfold maxLen; omega)
  refine wpList_plainQ rfl (fun K Q' hK => ?_)
  obtain ⟨cs, hv1, hv2⟩ := hv'.mono leX
  refine hR.op_append_rep 0 rfl rfl infoTT rfl cs rfl hv1 (TW.one hv2) (by have := hll; omega) (by have := hll; unfold maxLen; omega) (fun v1 wB hB => ?_)
  refine hK _ _ ?_; clear hK K; try clear Q'
  obtain ⟨aV, cV, rfl⟩ := hB.row_form 0 rfl
  obtain ⟨H9, h9, rA, leA⟩ := hB.settleRow 0 rfl
  iterate 2 (refine wpList_plainQ rfl (fun K Q' hK => ?_); go_simp; refine hK _ _ ?_; clear hK K; try clear Q')
  refine wpList_nil ?_
  show Code.wp _ _ _ _ _
  -- stops at: ret
  refine wp_ret ?_
  go_ret2
  refine ⟨_, H9, rfl, h9.post, ?_⟩
  rw [show Sk.insert kw (([.bool true, .int .i64 bx.root.1, .int .i64 bx.root.2, .slice ax nx cx] : List Value), bx) [a] = [Tr.leaf (([.bool true, .int .i64 bx.root.1, .int .i64 bx.root.2, .slice ax nx cx] : List Value), bx), a] from rfl]
  refine ⟨_, ?_, TW.push (t := Tr.leaf (([.bool true, .int .i64 bx.root.1, .int .i64 bx.root.2, .slice ax nx cx] : List Value), bx)) (r := 0) rfl ((HsV.one rX hx).mono leA) (HsV.nil _) (RsW.nil _) (hv2.mono leA)⟩
  show SliceRep H9 4 _ (([a]).length + 1) _
  rw [Nat.add_comm ([a]).length 1]
  exact rA
set_option maxRecDepth 100000 in
set_option maxHeartbeats 4000000 in
theorem wins_ne (H : GH) (w : World) (x : Vp) (v : Value) (a b : Tr Vp) (r : List (Tr Vp)) (hx : vC x) (hf : Fits w H) (hn : Rw.size (a :: b :: r) < 900000) (hv : RsW H v (a :: b :: r)) (hrk : ¬ a.rank = b.rank) :
    Calls Tryz.prog 27 #[.agg x.1.toArray, v] w fun e w' => ∃ q' H', e = .returned (.tuple #[q', .int .i64 (Sk.insC (a :: b :: r) + Sk.insD (a :: b :: r) : Nat)]) ∧ Post w H none w' H' 0 0 ∧ RsW H' q' (Sk.insert kw x (a :: b :: r)) := by
  have hpre : Pre w H none 0 0 := Pre.none hf 0 0
  obtain ⟨xs, bx⟩ := x
  have hx' := hx
  obtain ⟨ax, nx, cx, exs⟩ := hx'
  simp only at exs
  subst exs
  have hv' := hv
  obtain ⟨b0, o0, cap0, nn, vS, rfl, hnn, hn1, hn0, hcap0, hvS, hrest⟩ := hv.cons
  obtain ⟨bF, oF, cF, aF, cF2, aG, cG, r1, hcF, hcA, hr1, hfA, _, _, _⟩ := hv.head
  obtain ⟨bM, oM, cM, aM, cM2, aN, cN, r2, hcM, hcB0, hr2, hxB, hbB, hkB⟩ := hv.at 1 (t := b) rfl
  have hfB : TrW H (tW r2 (.slice (some ⟨bM, oM, none⟩) 1 cM) (.slice aM b.b.length cM2) (.slice aN b.k.toL.length cN)) b := ⟨_, _, _, r2, rfl, hr2, hxB, hbB, hkB⟩
  have hcB : Hid (∀ W, Fits W H → W.cell? ⟨b0, o0 + 4, none⟩ = some (.int .i64 (r2 : Int)) ∧ W.cell? ⟨b0, o0 + 5, none⟩ = some (.slice (some ⟨bM, oM, none⟩) 1 cM) ∧ W.cell? ⟨b0, o0 + 6, none⟩ = some (.slice aM b.b.length cM2) ∧ W.cell? ⟨b0, o0 + 7, none⟩ = some (.slice aN b.k.toL.length cN)) := fun W hF => by
    have := hcB0.out W hF
    simpa [Nat.add_assoc] using this
  have hsz : Hid (a.size + (b.size + Rw.size r) < 900000) := by rw [Rw.size_cons, Rw.size_cons] at hn; exact hn
  have hnr : Hid (nn = r.length + 2) := by have := hnn.out; show _ = _; simp at this; omega
  have hn2 : (1 : Int) < (nn : Int) := by have := hnr.out; omega
  have hlb : nn < 1000000 := by have := hnr.out; have := Rw.length_le r; have := hsz.out; omega
  have dn : decide ((nn : Int) < 2) = false := decide_eq_false (by omega)
  have d1 : ((r1 : Int) != (r2 : Int)) = true := bne_iff_ne.2 (by have := hr1.out; have := hr2.out; omega)
  have heq := Sk.insert_ne kw (x := (([.bool true, .int .i64 bx.root.1, .int .i64 bx.root.2, .slice ax nx cx] : List Value), bx)) r hrk
  have hst : Sk.insC (a :: b :: r) + Sk.insD (a :: b :: r) = 1 := by simp only [Sk.insC, Sk.insD, if_neg hrk]
  obtain ⟨fl, hfl⟩ : ∃ fl, Hid (a :: b :: r = fl) := ⟨_, show _ = _ from rfl⟩
  rw [hfl.out] at hv'
  have hll : fl.length < 1000000 := by rw [← hfl.out]; have := hnr.out; simp; omega
  go_enter Tryz.func27, Tryz.ntmps27
  have h0 := St.start hpre
  refine wp_seq ?_
  repeat (first | simp only [List.nil_append] at h0 | simp only [List.cons_append] at h0 | simp only [List.set_cons_zero] at h0 | simp only [List.set_cons_succ] at h0 | simp only [List.eraseIdx_zero] at h0 | simp only [List.tail_cons] at h0 | simp only [List.eraseIdx_cons_zero] at h0 | simp only [List.eraseIdx_cons_succ] at h0 | simp only [List.setIfInBounds_toArray] at h0)
  refine wp_region_lit ?_
  refine wpList_plainQ rfl (fun K Q' hK => ?_); go_simp
  refine h0.k_alloc (fun w1 h1 => ?_)
  refine hK _ _ ?_; clear hK K; try clear Q'
  iterate 2 (refine wpList_plainQ rfl (fun K Q' hK => ?_); go_simp; refine hK _ _ ?_; clear hK K; try clear Q')
  refine wpList_nil ?_
  show Code.wp _ _ _ _ _
  refine wp_seq ?_
  refine wp_seq ?_
  repeat (first | simp only [List.nil_append] at h1 | simp only [List.cons_append] at h1 | simp only [List.set_cons_zero] at h1 | simp only [List.set_cons_succ] at h1 | simp only [List.eraseIdx_zero] at h1 | simp only [List.tail_cons] at h1 | simp only [List.eraseIdx_cons_zero] at h1 | simp only [List.eraseIdx_cons_succ] at h1 | simp only [List.setIfInBounds_toArray] at h1)
  refine h1.region [] [(0, true), (1, true), (2, true), (3, true), (4, true), (5, true), (6, true), (7, true), (8, true), (9, true), (10, true), (11, true), (12, true), (13, true)] (by kernel_rfl) (by kernel_rfl) (fun w2 h2 => ?_)
  refine wpOrd_hide (fun _ _ d _ _ h => by cases d <;> exact h) (fun QR hQn hQp => ?_)
  simp only [ordOps, List.map_cons, List.map_nil, List.getD_cons_zero, List.getD_cons_succ]
  iterate 4 (refine wpOrd_quiet (v := ?_) rfl (fun _ _ _ => hQp _ _ _ _ _) ?_ ?_; rotate_left; (intro w' hS; (first | (go_simp; done) | (go_simp; with_reducible rfl))); simp only [Act.put, List.setIfInBounds_toArray, List.set_cons_zero, List.set_cons_succ])
  iterate 3 (refine wpOrd_quiet (v := ?_) (by kernel_rfl) (fun _ _ _ => hQp _ _ _ _ _) ?_ ?_; rotate_left; (intro w' hS; (first | (go_simp; done) | (go_simp; with_reducible rfl))); simp only [Act.put, List.setIfInBounds_toArray, List.set_cons_zero, List.set_cons_succ])
  -- stops at: load (Go.Op.load 3 (Go.Operand.tmp 19)) slot 20
  iterate 1 (refine wpOrd_quiet (v := ?_) (by kernel_rfl) (fun _ _ _ => hQp _ _ _ _ _) ?_ ?_; rotate_left; (intro w' hS; obtain ⟨q0, q1, q2, q3⟩ := hcA.out _ hS.1; (first | (go_simp; done) | (go_simp; with_reducible rfl))); simp only [Act.put, List.setIfInBounds_toArray, List.set_cons_zero, List.set_cons_succ])
  iterate 3 (refine wpOrd_quiet (v := ?_) (by kernel_rfl) (fun _ _ _ => hQp _ _ _ _ _) ?_ ?_; rotate_left; (intro w' hS; (first | (go_simp; done) | (go_simp; with_reducible rfl))); simp only [Act.put, List.setIfInBounds_toArray, List.set_cons_zero, List.set_cons_succ])
  -- stops at: load (Go.Op.load 3 (Go.Operand.tmp 23)) slot 24
  iterate 1 (refine wpOrd_quiet (v := ?_) (by kernel_rfl) (fun _ _ _ => hQp _ _ _ _ _) ?_ ?_; rotate_left; (intro w' hS; obtain ⟨q0, q1, q2, q3⟩ := hcB.out _ hS.1; (first | (go_simp; done) | (go_simp; with_reducible rfl))); simp only [Act.put, List.setIfInBounds_toArray, List.set_cons_zero, List.set_cons_succ])
  iterate 1 (refine wpOrd_quiet (v := ?_) (by kernel_rfl) (fun _ _ _ => hQp _ _ _ _ _) ?_ ?_; rotate_left; (intro w' hS; (first | (go_simp; done) | (go_simp; with_reducible rfl))); simp only [Act.put, List.setIfInBounds_toArray, List.set_cons_zero, List.set_cons_succ])
  iterate 1 (refine wpOrd_quiet (v := ?_) rfl (fun _ _ _ => hQp _ _ _ _ _) ?_ ?_; rotate_left; (intro w' hS; (first | (go_simp; done) | (go_simp; with_reducible rfl))); simp only [Act.put, List.setIfInBounds_toArray, List.set_cons_zero, List.set_cons_succ])
  refine wpOrd_nil (hQn _ _ ?_); clear hQn hQp QR
  show Code.wp _ _ _ _ _
  -- stops at: cond
  refine wp_cond_true (rfl) ?_
  refine wp_seq ?_
  repeat (first | simp only [List.nil_append] at h2 | simp only [List.cons_append] at h2 | simp only [List.set_cons_zero] at h2 | simp only [List.set_cons_succ] at h2 | simp only [List.eraseIdx_zero] at h2 | simp only [List.tail_cons] at h2 | simp only [List.eraseIdx_cons_zero] at h2 | simp only [List.eraseIdx_cons_succ] at h2 | simp only [List.setIfInBounds_toArray] at h2)
  refine wp_region_lit ?_
  have c_0_0 := h2.cell 0 rfl 0 rfl
  have c_0_1 := h2.cell 0 rfl 1 rfl
  have c_0_2 := h2.cell 0 rfl 2 rfl
  have c_0_3 := h2.cell 0 rfl 3 rfl
  iterate 1 (refine wpList_plainQ rfl (fun K Q' hK => ?_); go_simp; refine hK _ _ ?_; clear hK K; try clear Q')
  clear c_0_0 c_0_1 c_0_2 c_0_3
  refine wpList_plainQ rfl (fun K Q' hK => ?_); go_simp
  refine h2.k_alloc (fun w3 h3 => ?_)
  refine hK _ _ ?_; clear hK K; try clear Q'
  iterate 1 (refine wpList_plainQ rfl (fun K Q' hK => ?_); go_simp; refine hK _ _ ?_; clear hK K; try clear Q')
  refine wpList_plainQ rfl (fun K Q' hK => ?_); go_simp
  refine h3.k_alloc (fun w4 h4 => ?_)
  refine hK _ _ ?_; clear hK K; try clear Q'
  iterate 1 (refine wpList_plainQ rfl (fun K Q' hK => ?_); go_simp; refine hK _ _ ?_; clear hK K; try clear Q')
  refine wpList_nil ?_
  show Code.wp _ _ _ _ _
  refine wp_seq ?_
  repeat (first | simp only [List.nil_append] at h4 | simp only [List.cons_append] at h4 | simp only [List.set_cons_zero] at h4 | simp only [List.set_cons_succ] at h4 | simp only [List.eraseIdx_zero] at h4 | simp only [List.tail_cons] at h4 | simp only [List.eraseIdx_cons_zero] at h4 | simp only [List.eraseIdx_cons_succ] at h4 | simp only [List.setIfInBounds_toArray] at h4)
  refine wp_region_lit ?_
  iterate 2 (refine wpList_plainQ rfl (fun K Q' hK => ?_); go_simp; refine hK _ _ ?_; clear hK K; try clear Q')
  -- stops at: eff:Builtin.append (Go.Op.call {'callee': (Go.Callee.builtin Go.Builtin.append), 'args': [(Go.Operand.tmp 31), (Go.Operand.tmp 32)], 'argTypes': [33, 33]}) slot 33
  have hR0 := h4.rowOf 1 rfl 4 1 rfl (by unfold maxLen; omega)
  obtain ⟨H5, h5, rX, leX⟩ := hR0.settleRow 0 rfl
  have hR := h5.rowOf 1 rfl 4 1 rfl (by unfold maxLen; omega)
  refine wpList_plainQ rfl (fun K Q' hK => ?_)
  obtain ⟨cs, hv1, hv2⟩ := hv'.mono leX
  refine hR.op_append_rep 0 rfl rfl infoTT rfl cs rfl hv1 (TW.one hv2) (by have := hll; omega) (by have := hll; unfold maxLen; omega) (fun v1 wB hB => ?_)
  refine hK _ _ ?_; clear hK K; try clear Q'
  obtain ⟨aV, cV, rfl⟩ := hB.row_form 0 rfl
  obtain ⟨H9, h9, rA, leA⟩ := hB.settleRow 0 rfl
  iterate 2 (refine wpList_plainQ rfl (fun K Q' hK => ?_); go_simp; refine hK _ _ ?_; clear hK K; try clear Q')
  refine wpList_nil ?_
  show Code.wp _ _ _ _ _
  -- stops at: ret
  refine wp_ret ?_
  go_ret2
  refine ⟨_, H9, (by rw [hst]; rfl), h9.post, ?_⟩
  rw [heq, hfl.out]
  refine ⟨_, ?_, TW.push (t := Tr.leaf (([.bool true, .int .i64 bx.root.1, .int .i64 bx.root.2, .slice ax nx cx] : List Value), bx)) (r := 0) rfl ((HsV.one rX hx).mono leA) (HsV.nil _) (RsW.nil _) (hv2.mono leA)⟩
  show SliceRep H9 4 _ ((fl).length + 1) _
  rw [Nat.add_comm (fl).length 1]
  exact rA
set_option maxRecDepth 100000 in
set_option maxHeartbeats 8000000 in
theorem wins_eq (H : GH) (w : World) (x : Vp) (v : Value) (a b : Tr Vp) (r : List (Tr Vp)) (hx : vC x) (hf : Fits w H) (hn : Rw.size (a :: b :: r) < 900000) (hv : RsW H v (a :: b :: r)) (hrk : a.rank = b.rank) :
    Calls Tryz.prog 27 #[.agg x.1.toArray, v] w fun e w' => ∃ q' H', e = .returned (.tuple #[q', .int .i64 (Sk.insC (a :: b :: r) + Sk.insD (a :: b :: r) : Nat)]) ∧ Post w H none w' H' 0 0 ∧ RsW H' q' (Sk.insert kw x (a :: b :: r)) := by
  have hpre : Pre w H none 0 0 := Pre.none hf 0 0
  obtain ⟨xs, bx⟩ := x
  have hx' := hx
  obtain ⟨ax, nx, cx, exs⟩ := hx'
  simp only at exs
  subst exs
  have hv' := hv
  obtain ⟨b0, o0, cap0, nn, vS, rfl, hnn, hn1, hn0, hcap0, hvS, hrest⟩ := hv.cons
  obtain ⟨bF, oF, cF, aF, cF2, aG, cG, r1, hcF, hcA, hr1, hfA, _, _, _⟩ := hv.head
  obtain ⟨bM, oM, cM, aM, cM2, aN, cN, r2, hcM, hcB0, hr2, hxB, hbB, hkB⟩ := hv.at 1 (t := b) rfl
  have hfB : TrW H (tW r2 (.slice (some ⟨bM, oM, none⟩) 1 cM) (.slice aM b.b.length cM2) (.slice aN b.k.toL.length cN)) b := ⟨_, _, _, r2, rfl, hr2, hxB, hbB, hkB⟩
  have hcB : Hid (∀ W, Fits W H → W.cell? ⟨b0, o0 + 4, none⟩ = some (.int .i64 (r2 : Int)) ∧ W.cell? ⟨b0, o0 + 5, none⟩ = some (.slice (some ⟨bM, oM, none⟩) 1 cM) ∧ W.cell? ⟨b0, o0 + 6, none⟩ = some (.slice aM b.b.length cM2) ∧ W.cell? ⟨b0, o0 + 7, none⟩ = some (.slice aN b.k.toL.length cN)) := fun W hF => by
    have := hcB0.out W hF
    simpa [Nat.add_assoc] using this
  have hsz : Hid (a.size + (b.size + Rw.size r) < 900000) := by rw [Rw.size_cons, Rw.size_cons] at hn; exact hn
  have hnr : Hid (nn = r.length + 2) := by have := hnn.out; show _ = _; simp at this; omega
  have hn2 : (1 : Int) < (nn : Int) := by have := hnr.out; omega
  have hlb : nn < 1000000 := by have := hnr.out; have := Rw.length_le r; have := hsz.out; omega
  have dn : decide ((nn : Int) < 2) = false := decide_eq_false (by omega)
  have d1 : ((r1 : Int) != (r2 : Int)) = false := by have h1 := hr1.out; have h2 := hr2.out; rw [show r1 = r2 by omega]; exact bne_self_eq_false _
  have hst : Sk.insC (a :: b :: r) + Sk.insD (a :: b :: r) = 4 := by simp only [Sk.insC, Sk.insD, if_pos hrk]
  obtain ⟨l, hl⟩ : ∃ l, Hid (Tr.link kw a b = l) := ⟨_, show _ = _ from rfl⟩
  obtain ⟨aS, haS⟩ : ∃ a, (if cap0 = 2 then (some ⟨b0, o0, none⟩ : Option Addr) else some ⟨b0, o0 + 8, none⟩) = a := ⟨_, rfl⟩
  obtain ⟨nS, hnS⟩ : ∃ a, nn - 2 = a := ⟨_, rfl⟩
  obtain ⟨cS, hcS⟩ : ∃ a, cap0 - 2 = a := ⟨_, rfl⟩
  have hre : RsW H (.slice aS nS cS) r := by
    obtain ⟨cs, h1, h2⟩ := hv'
    obtain ⟨rv, bv, kv, kcs, rest, r0, rfl, _, _, _, _, _, h5⟩ := h2
    obtain ⟨rv', bv', kv', kcs', rest', r0', rfl, _, _, _, _, _, h6⟩ := h5
    have e : (a :: b :: r).length = nn := by rw [hnr.out]; rfl
    rw [e] at h1
    have h7 := h1.from 2 (by omega)
    have hadd : (⟨b0, o0, none⟩ : Addr).add (2 * 4) = ⟨b0, o0 + 8, none⟩ := by unfold Addr.add; simp
    simp only [Option.map_some, hadd] at h7
    rw [haS, hnS, hcS] at h7
    refine ⟨rest', ?_, h6⟩
    rw [show r.length = nS by have := hnr.out; omega]
    exact h7
  have hsl2 : (2 : Int) ≤ (nn : Int) := by omega
  go_enter Tryz.func27, Tryz.ntmps27
  have h0 := St.start hpre
  refine wp_seq ?_
  repeat (first | simp only [List.nil_append] at h0 | simp only [List.cons_append] at h0 | simp only [List.set_cons_zero] at h0 | simp only [List.set_cons_succ] at h0 | simp only [List.eraseIdx_zero] at h0 | simp only [List.tail_cons] at h0 | simp only [List.eraseIdx_cons_zero] at h0 | simp only [List.eraseIdx_cons_succ] at h0 | simp only [List.setIfInBounds_toArray] at h0)
  refine wp_region_lit ?_
  refine wpList_plainQ rfl (fun K Q' hK => ?_); go_simp
  refine h0.k_alloc (fun w1 h1 => ?_)
  refine hK _ _ ?_; clear hK K; try clear Q'
  iterate 2 (refine wpList_plainQ rfl (fun K Q' hK => ?_); go_simp; refine hK _ _ ?_; clear hK K; try clear Q')
  refine wpList_nil ?_
  show Code.wp _ _ _ _ _
  refine wp_seq ?_
  refine wp_seq ?_
  repeat (first | simp only [List.nil_append] at h1 | simp only [List.cons_append] at h1 | simp only [List.set_cons_zero] at h1 | simp only [List.set_cons_succ] at h1 | simp only [List.eraseIdx_zero] at h1 | simp only [List.tail_cons] at h1 | simp only [List.eraseIdx_cons_zero] at h1 | simp only [List.eraseIdx_cons_succ] at h1 | simp only [List.setIfInBounds_toArray] at h1)
  refine h1.region [] [(0, true), (1, true), (2, true), (3, true), (4, true), (5, true), (6, true), (7, true), (8, true), (9, true), (10, true), (11, true), (12, true), (13, true)] (by kernel_rfl) (by kernel_rfl) (fun w2 h2 => ?_)
  refine wpOrd_hide (fun _ _ d _ _ h => by cases d <;> exact h) (fun QR hQn hQp => ?_)
  simp only [ordOps, List.map_cons, List.map_nil, List.getD_cons_zero, List.getD_cons_succ]
  iterate 4 (refine wpOrd_quiet (v := ?_) rfl (fun _ _ _ => hQp _ _ _ _ _) ?_ ?_; rotate_left; (intro w' hS; (first | (go_simp; done) | (go_simp; with_reducible rfl))); simp only [Act.put, List.setIfInBounds_toArray, List.set_cons_zero, List.set_cons_succ])
  iterate 3 (refine wpOrd_quiet (v := ?_) (by kernel_rfl) (fun _ _ _ => hQp _ _ _ _ _) ?_ ?_; rotate_left; (intro w' hS; (first | (go_simp; done) | (go_simp; with_reducible rfl))); simp only [Act.put, List.setIfInBounds_toArray, List.set_cons_zero, List.set_cons_succ])
  -- stops at: load (Go.Op.load 3 (Go.Operand.tmp 19)) slot 20
  iterate 1 (refine wpOrd_quiet (v := ?_) (by kernel_rfl) (fun _ _ _ => hQp _ _ _ _ _) ?_ ?_; rotate_left; (intro w' hS; obtain ⟨q0, q1, q2, q3⟩ := hcA.out _ hS.1; (first | (go_simp; done) | (go_simp; with_reducible rfl))); simp only [Act.put, List.setIfInBounds_toArray, List.set_cons_zero, List.set_cons_succ])
  iterate 3 (refine wpOrd_quiet (v := ?_) (by kernel_rfl) (fun _ _ _ => hQp _ _ _ _ _) ?_ ?_; rotate_left; (intro w' hS; (first | (go_simp; done) | (go_simp; with_reducible rfl))); simp only [Act.put, List.setIfInBounds_toArray, List.set_cons_zero, List.set_cons_succ])
  -- stops at: load (Go.Op.load 3 (Go.Operand.tmp 23)) slot 24
  iterate 1 (refine wpOrd_quiet (v := ?_) (by kernel_rfl) (fun _ _ _ => hQp _ _ _ _ _) ?_ ?_; rotate_left; (intro w' hS; obtain ⟨q0, q1, q2, q3⟩ := hcB.out _ hS.1; (first | (go_simp; done) | (go_simp; with_reducible rfl))); simp only [Act.put, List.setIfInBounds_toArray, List.set_cons_zero, List.set_cons_succ])
  iterate 1 (refine wpOrd_quiet (v := ?_) (by kernel_rfl) (fun _ _ _ => hQp _ _ _ _ _) ?_ ?_; rotate_left; (intro w' hS; (first | (go_simp; done) | (go_simp; with_reducible rfl))); simp only [Act.put, List.setIfInBounds_toArray, List.set_cons_zero, List.set_cons_succ])
  iterate 1 (refine wpOrd_quiet (v := ?_) rfl (fun _ _ _ => hQp _ _ _ _ _) ?_ ?_; rotate_left; (intro w' hS; (first | (go_simp; done) | (go_simp; with_reducible rfl))); simp only [Act.put, List.setIfInBounds_toArray, List.set_cons_zero, List.set_cons_succ])
  refine wpOrd_nil (hQn _ _ ?_); clear hQn hQp QR
  show Code.wp _ _ _ _ _
  -- stops at: cond
  refine wp_cond_false (rfl) ?_
  refine wp_skip ?_
  show Code.wp _ _ _ _ _
  refine wp_seq ?_
  repeat (first | simp only [List.nil_append] at h2 | simp only [List.cons_append] at h2 | simp only [List.set_cons_zero] at h2 | simp only [List.set_cons_succ] at h2 | simp only [List.eraseIdx_zero] at h2 | simp only [List.tail_cons] at h2 | simp only [List.eraseIdx_cons_zero] at h2 | simp only [List.eraseIdx_cons_succ] at h2 | simp only [List.setIfInBounds_toArray] at h2)
  refine h2.regionT [] (.one 0 true (.one 1 true (.one 2 true (.one 3 true (.one 4 true (.one 5 true (.two (.one 6 false (.one 7 false (.one 8 false .nil))) (.one 7 false (.one 6 false (.one 8 false .nil)))))))))) (by as_aux_lemma => kernel_rfl) (by as_aux_lemma => kernel_rfl) (fun w3 h3 => ?_)
  refine wpT_hide (fun _ _ d _ _ h => by cases d <;> exact h) (fun QR hQn hQp => ?_)
  dsimp only [OT.ops, List.getD_cons_zero, List.getD_cons_succ]
  iterate 2 (refine wpT_quiet (v := ?_) rfl (fun _ _ _ => hQp _ _ _ _ _) ?_ ?_; rotate_left; (intro w' hS; (first | (go_simp; done) | (go_simp; with_reducible rfl))); simp only [Act.put, List.setIfInBounds_toArray])
  -- stops at: load (Go.Op.load 82 (Go.Operand.tmp 35)) slot 36
  iterate 1 (refine wpT_quiet (v := ?_) rfl (fun _ _ _ => hQp _ _ _ _ _) ?_ ?_; rotate_left; (intro w' hS; obtain ⟨q0, q1, q2, q3⟩ := hcA.out _ hS.1; (first | (go_simp; done) | (go_simp; with_reducible rfl))); simp only [Act.put])
  iterate 2 (refine wpT_quiet (v := ?_) rfl (fun _ _ _ => hQp _ _ _ _ _) ?_ ?_; rotate_left; (intro w' hS; (first | (go_simp; done) | (go_simp; with_reducible rfl))); simp only [Act.put])
  -- stops at: load (Go.Op.load 82 (Go.Operand.tmp 38)) slot 39
  iterate 1 (refine wpT_quiet (v := ?_) rfl (fun _ _ _ => hQp _ _ _ _ _) ?_ ?_; rotate_left; (intro w' hS; obtain ⟨q0, q1, q2, q3⟩ := hcB.out _ hS.1; (first | (go_simp; done) | (go_simp; with_reducible rfl))); simp only [Act.put])
  refine wpT_two ?_ ?_
  -- stops at: fork 
  · skip
    -- stops at: eff:call (Go.Op.call {'callee': (Go.Callee.value (Go.Operand.func 52)), 'args': [(Go.Operand.tmp 36), (Go.Operand.tmp 39)], 'argTypes': [82, 82]}) slot 40
    refine wpT_effQ rfl (fun K Q' hK => ?_); go_simp
    refine (wlink_ok H _ _ _ a b h3.fits (by have := hsz.out; omega) hfA hfB).mono ?_
    rintro e wS ⟨u, H1, rfl, hpL, hL⟩
    rw [hl.out] at hL
    obtain ⟨bU, oU, cU, aU, cU2, aW, cW, r3, rfl, hcU, hr3, hxl, hbl, hkl⟩ := hL.form
    obtain ⟨al, ml, kl, exl, hcl⟩ := hxl.cells
    have hvl : vC l.x := ⟨al, ml, kl, exl⟩
    have hlbn : l.b.length < 1000000 := by
      have h5 : l.size = a.size + b.size := by rw [← hl.out]; exact Tr.link_size kw a b
      have h6 : l.size = 1 + (l.b.length + l.k.els.length) := by simp [Tr.size, Tr.els]; omega
      have := hsz.out
      omega
    have h4 := h3.call0 hpL
    refine hK _ _ (h4.sat' hpL.le [] (by kernel_rfl)) ?_; clear hK K; try clear Q'
    refine wpT_effQ rfl (fun K Q' hK => ?_); go_simp
    refine h4.k_alloc (fun w5 h5 => ?_)
    refine hK _ _ (h5.sat' hpL.le [] (by kernel_rfl)) ?_; clear hK K; try clear Q'
    have c_0 := h5.cell 1 rfl 0 rfl
    have f_0 := h5.free 1 rfl 0
    have c_1 := h5.cell 1 rfl 1 rfl
    have f_1 := h5.free 1 rfl 1
    have c_2 := h5.cell 1 rfl 2 rfl
    have f_2 := h5.free 1 rfl 2
    have c_3 := h5.cell 1 rfl 3 rfl
    have f_3 := h5.free 1 rfl 3
    refine wpT_effQ rfl (fun K Q' hK => ?_); go_simp
    clear c_0 f_0 c_1 f_1 c_2 f_2 c_3 f_3
    refine (((h5.set (i := 1) rfl 0 _).set (i := 1) rfl 1 _).set (i := 1) rfl 2 _).k_set 1 rfl (fun w6 h6 => ?_)
    refine hK _ _ (h6.sat' hpL.le [] (by kernel_rfl)) ?_; clear hK K; try clear Q'
    refine wpT_nil (hQn _ _ ?_); clear hQn hQp QR
    show Code.wp _ _ _ _ _
    refine wp_seq ?_
    repeat (first | simp only [List.nil_append] at h6 | simp only [List.cons_append] at h6 | simp only [List.set_cons_zero] at h6 | simp only [List.set_cons_succ] at h6 | simp only [List.eraseIdx_zero] at h6 | simp only [List.tail_cons] at h6 | simp only [List.eraseIdx_cons_zero] at h6 | simp only [List.eraseIdx_cons_succ] at h6 | simp only [List.setIfInBounds_toArray] at h6)
    refine wp_region_lit ?_
    have c_0_0 := h6.cell 0 rfl 0 rfl
    have c_0_1 := h6.cell 0 rfl 1 rfl
    have c_0_2 := h6.cell 0 rfl 2 rfl
    have c_0_3 := h6.cell 0 rfl 3 rfl
    iterate 1 (refine wpList_plainQ rfl (fun K Q' hK => ?_); go_simp; refine hK _ _ ?_; clear hK K; try clear Q')
    clear c_0_0 c_0_1 c_0_2 c_0_3
    refine wpList_plainQ rfl (fun K Q' hK => ?_); go_simp
    refine h6.k_alloc (fun w7 h7 => ?_)
    refine hK _ _ ?_; clear hK K; try clear Q'
    have c_0 := h7.cell 2 rfl 0 rfl
    have f_0 := h7.free 2 rfl 0
    have c_1 := h7.cell 2 rfl 1 rfl
    have f_1 := h7.free 2 rfl 1
    have c_2 := h7.cell 2 rfl 2 rfl
    have f_2 := h7.free 2 rfl 2
    have c_3 := h7.cell 2 rfl 3 rfl
    have f_3 := h7.free 2 rfl 3
    refine wpList_plainQ rfl (fun K Q' hK => ?_); go_simp
    clear c_0 f_0 c_1 f_1 c_2 f_2 c_3 f_3
    refine (((h7.set (i := 2) rfl 0 _).set (i := 2) rfl 1 _).set (i := 2) rfl 2 _).k_set 2 rfl (fun w8 h8 => ?_)
    refine hK _ _ ?_; clear hK K; try clear Q'
    refine wpList_nil ?_
    show Code.wp _ _ _ _ _
    refine wp_seq ?_
    repeat (first | simp only [List.nil_append] at h8 | simp only [List.cons_append] at h8 | simp only [List.set_cons_zero] at h8 | simp only [List.set_cons_succ] at h8 | simp only [List.eraseIdx_zero] at h8 | simp only [List.tail_cons] at h8 | simp only [List.eraseIdx_cons_zero] at h8 | simp only [List.eraseIdx_cons_succ] at h8 | simp only [List.setIfInBounds_toArray] at h8)
    refine wp_region_lit ?_
    have c_1_1 := h8.cell 1 rfl 1 rfl
    iterate 3 (refine wpList_plainQ rfl (fun K Q' hK => ?_); go_simp; refine hK _ _ ?_; clear hK K; try clear Q')
    clear c_1_1
    -- stops at: load (Go.Op.load 35 (Go.Operand.tmp 44)) slot 45
    cases hlt : El.lt (kw l.x) bx.root with
    | true =>
      have heq : Tr.skew kw (([.bool true, .int .i64 bx.root.1, .int .i64 bx.root.2, .slice ax nx cx] : List Value), bx) a b = ⟨l.x, (([.bool true, .int .i64 bx.root.1, .int .i64 bx.root.2, .slice ax nx cx] : List Value), bx) :: l.b, l.k⟩ := by have := Tr.skew_lt kw (x := (([.bool true, .int .i64 bx.root.1, .int .i64 bx.root.2, .slice ax nx cx] : List Value), bx)) (a := a) (b := b) (by rw [hl.out]; exact hlt); rw [hl.out] at this; exact this
      have ce := hcl.out _ h8.fits
      obtain ⟨q0, q1, q2, q3⟩ := ce
      iterate 1 (refine wpList_plainQ rfl (fun K Q' hK => ?_); go_simp; refine hK _ _ ?_; clear hK K; try clear Q')
      clear q0 q1 q2 q3
      refine wpList_plainQ rfl (fun K Q' hK => ?_); go_simp
      refine h8.k_alloc (fun w9 h9 => ?_)
      refine hK _ _ ?_; clear hK K; try clear Q'
      have c_0 := h9.cell 3 rfl 0 rfl
      have f_0 := h9.free 3 rfl 0
      have c_1 := h9.cell 3 rfl 1 rfl
      have f_1 := h9.free 3 rfl 1
      have c_2 := h9.cell 3 rfl 2 rfl
      have f_2 := h9.free 3 rfl 2
      have c_3 := h9.cell 3 rfl 3 rfl
      have f_3 := h9.free 3 rfl 3
      refine wpList_plainQ rfl (fun K Q' hK => ?_); go_simp
      clear c_0 f_0 c_1 f_1 c_2 f_2 c_3 f_3
      refine (((h9.set (i := 3) rfl 0 _).set (i := 3) rfl 1 _).set (i := 3) rfl 2 _).k_set 3 rfl (fun w10 h10 => ?_)
      refine hK _ _ ?_; clear hK K; try clear Q'
      refine wpList_nil ?_
      show Code.wp _ _ _ _ _
      refine wp_seq ?_
      repeat (first | simp only [List.nil_append] at h10 | simp only [List.cons_append] at h10 | simp only [List.set_cons_zero] at h10 | simp only [List.set_cons_succ] at h10 | simp only [List.eraseIdx_zero] at h10 | simp only [List.tail_cons] at h10 | simp only [List.eraseIdx_cons_zero] at h10 | simp only [List.eraseIdx_cons_succ] at h10 | simp only [List.setIfInBounds_toArray] at h10)
      refine h10.region [0, 1] [(0, true), (1, true), (2, true), (3, true), (4, true), (5, true), (6, true), (7, false), (8, true)] (by kernel_rfl) (by kernel_rfl) (fun w11 h11 => ?_)
      refine wpOrd_hide (fun _ _ d _ _ h => by cases d <;> exact h) (fun QR hQn hQp => ?_)
      simp only [ordOps, List.map_cons, List.map_nil, List.getD_cons_zero, List.getD_cons_succ]
      iterate 4 (refine wpOrd_quiet (v := ?_) rfl (fun _ _ _ => hQp _ _ _ _ _) ?_ ?_; rotate_left; (intro w' hS; have c_1_1 := hS.cell 1 rfl 1 rfl; (first | (go_simp; done) | (go_simp; with_reducible rfl))); simp only [Act.put, List.setIfInBounds_toArray, List.set_cons_zero, List.set_cons_succ])
      -- stops at: load (Go.Op.load 32 (Go.Operand.tmp 49)) slot 50
      iterate 1 (refine wpOrd_quiet (v := ?_) rfl (fun _ _ _ => hQp _ _ _ _ _) ?_ ?_; rotate_left; (intro w' hS; obtain ⟨q0, q1, q2, q3⟩ := hcl.out _ hS.1; (first | (go_simp; done) | (go_simp; with_reducible rfl))); simp only [Act.put, List.setIfInBounds_toArray, List.set_cons_zero, List.set_cons_succ])
      iterate 2 (refine wpOrd_quiet (v := ?_) rfl (fun _ _ _ => hQp _ _ _ _ _) ?_ ?_; rotate_left; (intro w' hS; have c_0_1 := hS.cell 0 rfl 1 rfl; have c_0_2 := hS.cell 0 rfl 2 rfl; (first | (go_simp; done) | (go_simp; with_reducible rfl))); simp only [Act.put, List.setIfInBounds_toArray, List.set_cons_zero, List.set_cons_succ])
      -- stops at: eff:call (Go.Op.call {'callee': (Go.Callee.value (Go.Operand.func 26)), 'args': [(Go.Operand.tmp 50), (Go.Operand.tmp 52)], 'argTypes': [32, 32]}) slot 53
      refine wpOrd_effQ rfl (fun K Q' hK => ?_); go_simp
      refine (rless_ok H1 _ (kw l.x) bx.root h11.fits).mono ?_
      rintro e wA ⟨rfl, hkA⟩
      rw [hlt]
      have h12 := h11.callk hkA
      refine hK _ _ (h12.sat' (GH.le_refl _) [0, 1] (by kernel_rfl)) ?_; clear hK K; try clear Q'
      iterate 1 (refine wpOrd_quiet (v := ?_) rfl (fun _ _ _ => hQp _ _ _ _ _) ?_ ?_; rotate_left; (intro w' hS; (first | (go_simp; done) | (go_simp; with_reducible rfl))); simp only [Act.put, List.setIfInBounds_toArray, List.set_cons_zero, List.set_cons_succ])
      refine wpOrd_nil (hQn _ _ ?_); clear hQn hQp QR
      show Code.wp _ _ _ _ _
      refine wp_seq ?_
      refine wp_seq ?_
      repeat (first | simp only [List.nil_append] at h12 | simp only [List.cons_append] at h12 | simp only [List.set_cons_zero] at h12 | simp only [List.set_cons_succ] at h12 | simp only [List.eraseIdx_zero] at h12 | simp only [List.tail_cons] at h12 | simp only [List.eraseIdx_cons_zero] at h12 | simp only [List.eraseIdx_cons_succ] at h12 | simp only [List.setIfInBounds_toArray] at h12)
      refine wp_region_lit ?_
      iterate 1 (refine wpList_plainQ rfl (fun K Q' hK => ?_); go_simp; refine hK _ _ ?_; clear hK K; try clear Q')
      refine wpList_nil ?_
      show Code.wp _ _ _ _ _
      -- stops at: cond
      refine wp_cond_true (rfl) ?_
      refine wp_seq ?_
      refine wp_region_lit ?_
      have c_1_1 := h12.cell 1 rfl 1 rfl
      iterate 3 (refine wpList_plainQ rfl (fun K Q' hK => ?_); go_simp; refine hK _ _ ?_; clear hK K; try clear Q')
      clear c_1_1
      -- stops at: load (Go.Op.load 35 (Go.Operand.tmp 57)) slot 58
      have ce := hcl.out _ h12.fits
      obtain ⟨q0, q1, q2, q3⟩ := ce
      iterate 1 (refine wpList_plainQ rfl (fun K Q' hK => ?_); go_simp; refine hK _ _ ?_; clear hK K; try clear Q')
      clear q0 q1 q2 q3
      have c_0 := h12.cell 2 rfl 0 rfl
      have f_0 := h12.free 2 rfl 0
      have c_1 := h12.cell 2 rfl 1 rfl
      have f_1 := h12.free 2 rfl 1
      have c_2 := h12.cell 2 rfl 2 rfl
      have f_2 := h12.free 2 rfl 2
      have c_3 := h12.cell 2 rfl 3 rfl
      have f_3 := h12.free 2 rfl 3
      refine wpList_plainQ rfl (fun K Q' hK => ?_); go_simp
      clear c_0 f_0 c_1 f_1 c_2 f_2 c_3 f_3
      refine (((h12.set (i := 2) rfl 0 _).set (i := 2) rfl 1 _).set (i := 2) rfl 2 _).k_set 2 rfl (fun w13 h13 => ?_)
      refine hK _ _ ?_; clear hK K; try clear Q'
      refine wpList_nil ?_
      show Code.wp _ _ _ _ _
      repeat (first | simp only [List.nil_append] at h13 | simp only [List.cons_append] at h13 | simp only [List.set_cons_zero] at h13 | simp only [List.set_cons_succ] at h13 | simp only [List.eraseIdx_zero] at h13 | simp only [List.tail_cons] at h13 | simp only [List.eraseIdx_cons_zero] at h13 | simp only [List.eraseIdx_cons_succ] at h13 | simp only [List.setIfInBounds_toArray] at h13)
      refine wp_region_lit ?_
      have c_0_0 := h13.cell 0 rfl 0 rfl
      have c_0_1 := h13.cell 0 rfl 1 rfl
      have c_0_2 := h13.cell 0 rfl 2 rfl
      have c_0_3 := h13.cell 0 rfl 3 rfl
      iterate 1 (refine wpList_plainQ rfl (fun K Q' hK => ?_); go_simp; refine hK _ _ ?_; clear hK K; try clear Q')
      clear c_0_0 c_0_1 c_0_2 c_0_3
      have c_0 := h13.cell 3 rfl 0 rfl
      have f_0 := h13.free 3 rfl 0
      have c_1 := h13.cell 3 rfl 1 rfl
      have f_1 := h13.free 3 rfl 1
      have c_2 := h13.cell 3 rfl 2 rfl
      have f_2 := h13.free 3 rfl 2
      have c_3 := h13.cell 3 rfl 3 rfl
      have f_3 := h13.free 3 rfl 3
      refine wpList_plainQ rfl (fun K Q' hK => ?_); go_simp
      clear c_0 f_0 c_1 f_1 c_2 f_2 c_3 f_3
      refine (((h13.set (i := 3) rfl 0 _).set (i := 3) rfl 1 _).set (i := 3) rfl 2 _).k_set 3 rfl (fun w14 h14 => ?_)
      refine hK _ _ ?_; clear hK K; try clear Q'
      refine wpList_nil ?_
      show Code.wp _ _ _ _ _
      refine wp_seq ?_
      repeat (first | simp only [List.nil_append] at h14 | simp only [List.cons_append] at h14 | simp only [List.set_cons_zero] at h14 | simp only [List.set_cons_succ] at h14 | simp only [List.eraseIdx_zero] at h14 | simp only [List.tail_cons] at h14 | simp only [List.eraseIdx_cons_zero] at h14 | simp only [List.eraseIdx_cons_succ] at h14 | simp only [List.setIfInBounds_toArray] at h14)
      refine wp_region_lit ?_
      have c_3_0 := h14.cell 3 rfl 0 rfl
      have c_3_1 := h14.cell 3 rfl 1 rfl
      have c_3_2 := h14.cell 3 rfl 2 rfl
      have c_3_3 := h14.cell 3 rfl 3 rfl
      iterate 1 (refine wpList_plainQ rfl (fun K Q' hK => ?_); go_simp; refine hK _ _ ?_; clear hK K; try clear Q')
      clear c_3_0 c_3_1 c_3_2 c_3_3
      refine wpList_plainQ rfl (fun K Q' hK => ?_); go_simp
      refine h14.k_alloc (fun w15 h15 => ?_)
      refine hK _ _ ?_; clear hK K; try clear Q'
      iterate 1 (refine wpList_plainQ rfl (fun K Q' hK => ?_); go_simp; refine hK _ _ ?_; clear hK K; try clear Q')
      refine wpList_nil ?_
      show Code.wp _ _ _ _ _
      refine wp_seq ?_
      repeat (first | simp only [List.nil_append] at h15 | simp only [List.cons_append] at h15 | simp only [List.set_cons_zero] at h15 | simp only [List.set_cons_succ] at h15 | simp only [List.eraseIdx_zero] at h15 | simp only [List.tail_cons] at h15 | simp only [List.eraseIdx_cons_zero] at h15 | simp only [List.eraseIdx_cons_succ] at h15 | simp only [List.setIfInBounds_toArray] at h15)
      refine wp_region_lit ?_
      have c_1_2 := h15.cell 1 rfl 2 rfl
      iterate 3 (refine wpList_plainQ rfl (fun K Q' hK => ?_); go_simp; refine hK _ _ ?_; clear hK K; try clear Q')
      clear c_1_2
      -- stops at: eff:Builtin.append (Go.Op.call {'callee': (Go.Callee.builtin Go.Builtin.append), 'args': [(Go.Operand.tmp 62), (Go.Operand.tmp 64)], 'argTypes': [36, 36]}) slot 65
      have hR := h15.rowOf 4 rfl 4 1 rfl (by unfold maxLen; omega)
      refine wpList_plainQ rfl (fun K Q' hK => ?_)
      refine hR.op_append_rep 0 rfl rfl infoHV rfl (vpC l.b) rfl hbl.1 (vpC_one hbl.2) (by omega) (by unfold maxLen; omega) (fun v1 wB hB => ?_)
      refine hK _ _ ?_; clear hK K; try clear Q'
      obtain ⟨aV, cV, rfl⟩ := hB.row_form 0 rfl
      obtain ⟨H6, h6, rB, leB⟩ := hB.settleRow 0 rfl
      iterate 1 (refine wpList_plainQ rfl (fun K Q' hK => ?_); go_simp; refine hK _ _ ?_; clear hK K; try clear Q')
      refine wpList_nil ?_
      show Code.wp _ _ _ _ _
      refine wp_seq ?_
      repeat (first | simp only [List.nil_append] at h6 | simp only [List.cons_append] at h6 | simp only [List.set_cons_zero] at h6 | simp only [List.set_cons_succ] at h6 | simp only [List.eraseIdx_zero] at h6 | simp only [List.tail_cons] at h6 | simp only [List.eraseIdx_cons_zero] at h6 | simp only [List.eraseIdx_cons_succ] at h6 | simp only [List.setIfInBounds_toArray] at h6)
      refine wp_region_lit ?_
      have c_1_0 := h6.cell 1 rfl 0 rfl
      have c_2_0 := h6.cell 2 rfl 0 rfl
      have c_2_1 := h6.cell 2 rfl 1 rfl
      have c_2_2 := h6.cell 2 rfl 2 rfl
      have c_2_3 := h6.cell 2 rfl 3 rfl
      iterate 3 (refine wpList_plainQ rfl (fun K Q' hK => ?_); go_simp; refine hK _ _ ?_; clear hK K; try clear Q')
      clear c_1_0 c_2_0 c_2_1 c_2_2 c_2_3
      refine wpList_plainQ rfl (fun K Q' hK => ?_); go_simp
      refine h6.k_alloc (fun w17 h17 => ?_)
      refine hK _ _ ?_; clear hK K; try clear Q'
      have c_1_3 := h17.cell 1 rfl 3 rfl
      iterate 4 (refine wpList_plainQ rfl (fun K Q' hK => ?_); go_simp; refine hK _ _ ?_; clear hK K; try clear Q')
      clear c_1_3
      refine wpList_plainQ rfl (fun K Q' hK => ?_); go_simp
      refine h17.k_alloc (fun w18 h18 => ?_)
      refine hK _ _ ?_; clear hK K; try clear Q'
      iterate 1 (refine wpList_plainQ rfl (fun K Q' hK => ?_); go_simp; refine hK _ _ ?_; clear hK K; try clear Q')
      refine wpList_nil ?_
      show Code.wp _ _ _ _ _
      refine wp_seq ?_
      repeat (first | simp only [List.nil_append] at h18 | simp only [List.cons_append] at h18 | simp only [List.set_cons_zero] at h18 | simp only [List.set_cons_succ] at h18 | simp only [List.eraseIdx_zero] at h18 | simp only [List.tail_cons] at h18 | simp only [List.eraseIdx_cons_zero] at h18 | simp only [List.eraseIdx_cons_succ] at h18 | simp only [List.setIfInBounds_toArray] at h18)
      refine wp_region_lit ?_
      iterate 3 (refine wpList_plainQ rfl (fun K Q' hK => ?_); go_simp; refine hK _ _ ?_; clear hK K; try clear Q')
      -- stops at: eff:Builtin.append (Go.Op.call {'callee': (Go.Callee.builtin Go.Builtin.append), 'args': [(Go.Operand.tmp 75), (Go.Operand.tmp 77)], 'argTypes': [33, 33]}) slot 78
      have hR0 := h18.rowOf 4 rfl 4 1 rfl (by unfold maxLen; omega)
      obtain ⟨H7, h5, rX, leX⟩ := hR0.settleRow 0 rfl
      have hR := h5.rowOf 4 rfl 4 1 rfl (by unfold maxLen; omega)
      refine wpList_plainQ rfl (fun K Q' hK => ?_)
      obtain ⟨cs, hv1, hv2⟩ := ((hre.mono hpL.le).mono leB).mono leX
      refine hR.op_append_rep 0 rfl rfl infoTT rfl cs rfl hv1 (TW.one hv2) (by have := hnr.out; omega) (by have := hnr.out; unfold maxLen; omega) (fun v1 wB hB => ?_)
      refine hK _ _ ?_; clear hK K; try clear Q'
      obtain ⟨aV, cV, rfl⟩ := hB.row_form 0 rfl
      obtain ⟨H9, h9, rA, leA⟩ := hB.settleRow 0 rfl
      iterate 2 (refine wpList_plainQ rfl (fun K Q' hK => ?_); go_simp; refine hK _ _ ?_; clear hK K; try clear Q')
      refine wpList_nil ?_
      show Code.wp _ _ _ _ _
      -- stops at: ret
      refine wp_ret ?_
      go_ret2
      refine ⟨_, H9, by rw [hst]; rfl, h9.post, ?_⟩
      rw [Sk.insert_eq kw r hrk, heq]
      refine ⟨_, ?_, TW.push (t := ⟨l.x, (([.bool true, .int .i64 bx.root.1, .int .i64 bx.root.2, .slice ax nx cx] : List Value), bx) :: l.b, l.k⟩) (r := r3) hr3 ((HsV.one (by first | exact rX | (rw [exl]; exact rX)) hvl).mono leA) (((HsV.push (by first | exact rB | (rw [exl]; exact rB)) hx hbl.2).mono leX).mono leA) (((hkl.mono leB).mono leX).mono leA) (hv2.mono leA)⟩
      show SliceRep H9 4 _ (r.length + 1) _
      rw [Nat.add_comm r.length 1]
      exact rA
    | false =>
      have heq : Tr.skew kw (([.bool true, .int .i64 bx.root.1, .int .i64 bx.root.2, .slice ax nx cx] : List Value), bx) a b = ⟨(([.bool true, .int .i64 bx.root.1, .int .i64 bx.root.2, .slice ax nx cx] : List Value), bx), l.x :: l.b, l.k⟩ := by have := Tr.skew_ge kw (x := (([.bool true, .int .i64 bx.root.1, .int .i64 bx.root.2, .slice ax nx cx] : List Value), bx)) (a := a) (b := b) (by rw [hl.out]; exact hlt); rw [hl.out] at this; exact this
      have ce := hcl.out _ h8.fits
      obtain ⟨q0, q1, q2, q3⟩ := ce
      iterate 1 (refine wpList_plainQ rfl (fun K Q' hK => ?_); go_simp; refine hK _ _ ?_; clear hK K; try clear Q')
      clear q0 q1 q2 q3
      refine wpList_plainQ rfl (fun K Q' hK => ?_); go_simp
      refine h8.k_alloc (fun w20 h20 => ?_)
      refine hK _ _ ?_; clear hK K; try clear Q'
      have c_0 := h20.cell 3 rfl 0 rfl
      have f_0 := h20.free 3 rfl 0
      have c_1 := h20.cell 3 rfl 1 rfl
      have f_1 := h20.free 3 rfl 1
      have c_2 := h20.cell 3 rfl 2 rfl
      have f_2 := h20.free 3 rfl 2
      have c_3 := h20.cell 3 rfl 3 rfl
      have f_3 := h20.free 3 rfl 3
      refine wpList_plainQ rfl (fun K Q' hK => ?_); go_simp
      clear c_0 f_0 c_1 f_1 c_2 f_2 c_3 f_3
      refine (((h20.set (i := 3) rfl 0 _).set (i := 3) rfl 1 _).set (i := 3) rfl 2 _).k_set 3 rfl (fun w21 h21 => ?_)
      refine hK _ _ ?_; clear hK K; try clear Q'
      refine wpList_nil ?_
      show Code.wp _ _ _ _ _
      refine wp_seq ?_
      repeat (first | simp only [List.nil_append] at h21 | simp only [List.cons_append] at h21 | simp only [List.set_cons_zero] at h21 | simp only [List.set_cons_succ] at h21 | simp only [List.eraseIdx_zero] at h21 | simp only [List.tail_cons] at h21 | simp only [List.eraseIdx_cons_zero] at h21 | simp only [List.eraseIdx_cons_succ] at h21 | simp only [List.setIfInBounds_toArray] at h21)
      refine h21.region [0, 1] [(0, true), (1, true), (2, true), (3, true), (4, true), (5, true), (6, true), (7, false), (8, true)] (by kernel_rfl) (by kernel_rfl) (fun w22 h22 => ?_)
      refine wpOrd_hide (fun _ _ d _ _ h => by cases d <;> exact h) (fun QR hQn hQp => ?_)
      simp only [ordOps, List.map_cons, List.map_nil, List.getD_cons_zero, List.getD_cons_succ]
      iterate 4 (refine wpOrd_quiet (v := ?_) rfl (fun _ _ _ => hQp _ _ _ _ _) ?_ ?_; rotate_left; (intro w' hS; have c_1_1 := hS.cell 1 rfl 1 rfl; (first | (go_simp; done) | (go_simp; with_reducible rfl))); simp only [Act.put, List.setIfInBounds_toArray, List.set_cons_zero, List.set_cons_succ])
      -- stops at: load (Go.Op.load 32 (Go.Operand.tmp 49)) slot 50
      iterate 1 (refine wpOrd_quiet (v := ?_) rfl (fun _ _ _ => hQp _ _ _ _ _) ?_ ?_; rotate_left; (intro w' hS; obtain ⟨q0, q1, q2, q3⟩ := hcl.out _ hS.1; (first | (go_simp; done) | (go_simp; with_reducible rfl))); simp only [Act.put, List.setIfInBounds_toArray, List.set_cons_zero, List.set_cons_succ])
      iterate 2 (refine wpOrd_quiet (v := ?_) rfl (fun _ _ _ => hQp _ _ _ _ _) ?_ ?_; rotate_left; (intro w' hS; have c_0_1 := hS.cell 0 rfl 1 rfl; have c_0_2 := hS.cell 0 rfl 2 rfl; (first | (go_simp; done) | (go_simp; with_reducible rfl))); simp only [Act.put, List.setIfInBounds_toArray, List.set_cons_zero, List.set_cons_succ])
      -- stops at: eff:call (Go.Op.call {'callee': (Go.Callee.value (Go.Operand.func 26)), 'args': [(Go.Operand.tmp 50), (Go.Operand.tmp 52)], 'argTypes': [32, 32]}) slot 53
      refine wpOrd_effQ rfl (fun K Q' hK => ?_); go_simp
      refine (rless_ok H1 _ (kw l.x) bx.root h22.fits).mono ?_
      rintro e wA ⟨rfl, hkA⟩
      rw [hlt]
      have h23 := h22.callk hkA
      refine hK _ _ (h23.sat' (GH.le_refl _) [0, 1] (by kernel_rfl)) ?_; clear hK K; try clear Q'
      iterate 1 (refine wpOrd_quiet (v := ?_) rfl (fun _ _ _ => hQp _ _ _ _ _) ?_ ?_; rotate_left; (intro w' hS; (first | (go_simp; done) | (go_simp; with_reducible rfl))); simp only [Act.put, List.setIfInBounds_toArray, List.set_cons_zero, List.set_cons_succ])
      refine wpOrd_nil (hQn _ _ ?_); clear hQn hQp QR
      show Code.wp _ _ _ _ _
      refine wp_seq ?_
      refine wp_seq ?_
      repeat (first | simp only [List.nil_append] at h23 | simp only [List.cons_append] at h23 | simp only [List.set_cons_zero] at h23 | simp only [List.set_cons_succ] at h23 | simp only [List.eraseIdx_zero] at h23 | simp only [List.tail_cons] at h23 | simp only [List.eraseIdx_cons_zero] at h23 | simp only [List.eraseIdx_cons_succ] at h23 | simp only [List.setIfInBounds_toArray] at h23)
      refine wp_region_lit ?_
      iterate 1 (refine wpList_plainQ rfl (fun K Q' hK => ?_); go_simp; refine hK _ _ ?_; clear hK K; try clear Q')
      refine wpList_nil ?_
      show Code.wp _ _ _ _ _
      -- stops at: cond
      refine wp_cond_false (rfl) ?_
      refine wp_skip ?_
      show Code.wp _ _ _ _ _
      refine wp_seq ?_
      refine wp_region_lit ?_
      have c_3_0 := h23.cell 3 rfl 0 rfl
      have c_3_1 := h23.cell 3 rfl 1 rfl
      have c_3_2 := h23.cell 3 rfl 2 rfl
      have c_3_3 := h23.cell 3 rfl 3 rfl
      iterate 1 (refine wpList_plainQ rfl (fun K Q' hK => ?_); go_simp; refine hK _ _ ?_; clear hK K; try clear Q')
      clear c_3_0 c_3_1 c_3_2 c_3_3
      refine wpList_plainQ rfl (fun K Q' hK => ?_); go_simp
      refine h23.k_alloc (fun w24 h24 => ?_)
      refine hK _ _ ?_; clear hK K; try clear Q'
      iterate 1 (refine wpList_plainQ rfl (fun K Q' hK => ?_); go_simp; refine hK _ _ ?_; clear hK K; try clear Q')
      refine wpList_nil ?_
      show Code.wp _ _ _ _ _
      refine wp_seq ?_
      repeat (first | simp only [List.nil_append] at h24 | simp only [List.cons_append] at h24 | simp only [List.set_cons_zero] at h24 | simp only [List.set_cons_succ] at h24 | simp only [List.eraseIdx_zero] at h24 | simp only [List.tail_cons] at h24 | simp only [List.eraseIdx_cons_zero] at h24 | simp only [List.eraseIdx_cons_succ] at h24 | simp only [List.setIfInBounds_toArray] at h24)
      refine wp_region_lit ?_
      have c_1_2 := h24.cell 1 rfl 2 rfl
      iterate 3 (refine wpList_plainQ rfl (fun K Q' hK => ?_); go_simp; refine hK _ _ ?_; clear hK K; try clear Q')
      clear c_1_2
      -- stops at: eff:Builtin.append (Go.Op.call {'callee': (Go.Callee.builtin Go.Builtin.append), 'args': [(Go.Operand.tmp 62), (Go.Operand.tmp 64)], 'argTypes': [36, 36]}) slot 65
      have hR := h24.rowOf 4 rfl 4 1 rfl (by unfold maxLen; omega)
      refine wpList_plainQ rfl (fun K Q' hK => ?_)
      refine hR.op_append_rep 0 rfl rfl infoHV rfl (vpC l.b) rfl hbl.1 (vpC_one hbl.2) (by omega) (by unfold maxLen; omega) (fun v1 wB hB => ?_)
      refine hK _ _ ?_; clear hK K; try clear Q'
      obtain ⟨aV, cV, rfl⟩ := hB.row_form 0 rfl
      obtain ⟨H6, h6, rB, leB⟩ := hB.settleRow 0 rfl
      iterate 1 (refine wpList_plainQ rfl (fun K Q' hK => ?_); go_simp; refine hK _ _ ?_; clear hK K; try clear Q')
      refine wpList_nil ?_
      show Code.wp _ _ _ _ _
      refine wp_seq ?_
      repeat (first | simp only [List.nil_append] at h6 | simp only [List.cons_append] at h6 | simp only [List.set_cons_zero] at h6 | simp only [List.set_cons_succ] at h6 | simp only [List.eraseIdx_zero] at h6 | simp only [List.tail_cons] at h6 | simp only [List.eraseIdx_cons_zero] at h6 | simp only [List.eraseIdx_cons_succ] at h6 | simp only [List.setIfInBounds_toArray] at h6)
      refine wp_region_lit ?_
      have c_1_0 := h6.cell 1 rfl 0 rfl
      have c_2_0 := h6.cell 2 rfl 0 rfl
      have c_2_1 := h6.cell 2 rfl 1 rfl
      have c_2_2 := h6.cell 2 rfl 2 rfl
      have c_2_3 := h6.cell 2 rfl 3 rfl
      iterate 3 (refine wpList_plainQ rfl (fun K Q' hK => ?_); go_simp; refine hK _ _ ?_; clear hK K; try clear Q')
      clear c_1_0 c_2_0 c_2_1 c_2_2 c_2_3
      refine wpList_plainQ rfl (fun K Q' hK => ?_); go_simp
      refine h6.k_alloc (fun w26 h26 => ?_)
      refine hK _ _ ?_; clear hK K; try clear Q'
      have c_1_3 := h26.cell 1 rfl 3 rfl
      iterate 4 (refine wpList_plainQ rfl (fun K Q' hK => ?_); go_simp; refine hK _ _ ?_; clear hK K; try clear Q')
      clear c_1_3
      refine wpList_plainQ rfl (fun K Q' hK => ?_); go_simp
      refine h26.k_alloc (fun w27 h27 => ?_)
      refine hK _ _ ?_; clear hK K; try clear Q'
      iterate 1 (refine wpList_plainQ rfl (fun K Q' hK => ?_); go_simp; refine hK _ _ ?_; clear hK K; try clear Q')
      refine wpList_nil ?_
      show Code.wp _ _ _ _ _
      refine wp_seq ?_
      repeat (first | simp only [List.nil_append] at h27 | simp only [List.cons_append] at h27 | simp only [List.set_cons_zero] at h27 | simp only [List.set_cons_succ] at h27 | simp only [List.eraseIdx_zero] at h27 | simp only [List.tail_cons] at h27 | simp only [List.eraseIdx_cons_zero] at h27 | simp only [List.eraseIdx_cons_succ] at h27 | simp only [List.setIfInBounds_toArray] at h27)
      refine wp_region_lit ?_
      iterate 3 (refine wpList_plainQ rfl (fun K Q' hK => ?_); go_simp; refine hK _ _ ?_; clear hK K; try clear Q')
      -- stops at: eff:Builtin.append (Go.Op.call {'callee': (Go.Callee.builtin Go.Builtin.append), 'args': [(Go.Operand.tmp 75), (Go.Operand.tmp 77)], 'argTypes': [33, 33]}) slot 78
      have hR0 := h27.rowOf 4 rfl 4 1 rfl (by unfold maxLen; omega)
      obtain ⟨H7, h5, rX, leX⟩ := hR0.settleRow 0 rfl
      have hR := h5.rowOf 4 rfl 4 1 rfl (by unfold maxLen; omega)
      refine wpList_plainQ rfl (fun K Q' hK => ?_)
      obtain ⟨cs, hv1, hv2⟩ := ((hre.mono hpL.le).mono leB).mono leX
      refine hR.op_append_rep 0 rfl rfl infoTT rfl cs rfl hv1 (TW.one hv2) (by have := hnr.out; omega) (by have := hnr.out; unfold maxLen; omega) (fun v1 wB hB => ?_)
      refine hK _ _ ?_; clear hK K; try clear Q'
      obtain ⟨aV, cV, rfl⟩ := hB.row_form 0 rfl
      obtain ⟨H9, h9, rA, leA⟩ := hB.settleRow 0 rfl
      iterate 2 (refine wpList_plainQ rfl (fun K Q' hK => ?_); go_simp; refine hK _ _ ?_; clear hK K; try clear Q')
      refine wpList_nil ?_
      show Code.wp _ _ _ _ _
      -- stops at: ret
      refine wp_ret ?_
      go_ret2
      refine ⟨_, H9, by rw [hst]; rfl, h9.post, ?_⟩
      rw [Sk.insert_eq kw r hrk, heq]
      refine ⟨_, ?_, TW.push (t := ⟨(([.bool true, .int .i64 bx.root.1, .int .i64 bx.root.2, .slice ax nx cx] : List Value), bx), l.x :: l.b, l.k⟩) (r := r3) hr3 ((HsV.one (by first | exact rX | (rw [exl]; exact rX)) hx).mono leA) (((HsV.push (by first | exact rB | (rw [exl]; exact rB)) hvl hbl.2).mono leX).mono leA) (((hkl.mono leB).mono leX).mono leA) (hv2.mono leA)⟩
      show SliceRep H9 4 _ (r.length + 1) _
      rw [Nat.add_comm r.length 1]
      exact rA
  · skip
    refine wpT_effQ rfl (fun K Q' hK => ?_); go_simp
    refine h3.k_alloc (fun w29 h29 => ?_)
    refine hK _ _ (h29.sat' (GH.le_refl _) [] (by kernel_rfl)) ?_; clear hK K; try clear Q'
    -- stops at: eff:call (Go.Op.call {'callee': (Go.Callee.value (Go.Operand.func 52)), 'args': [(Go.Operand.tmp 36), (Go.Operand.tmp 39)], 'argTypes': [82, 82]}) slot 40
    refine wpT_effQ rfl (fun K Q' hK => ?_); go_simp
    refine (wlink_ok H _ _ _ a b h29.fits (by have := hsz.out; omega) hfA hfB).mono ?_
    rintro e wS ⟨u, H1, rfl, hpL, hL⟩
    rw [hl.out] at hL
    obtain ⟨bU, oU, cU, aU, cU2, aW, cW, r3, rfl, hcU, hr3, hxl, hbl, hkl⟩ := hL.form
    obtain ⟨al, ml, kl, exl, hcl⟩ := hxl.cells
    have hvl : vC l.x := ⟨al, ml, kl, exl⟩
    have hlbn : l.b.length < 1000000 := by
      have h5 : l.size = a.size + b.size := by rw [← hl.out]; exact Tr.link_size kw a b
      have h6 : l.size = 1 + (l.b.length + l.k.els.length) := by simp [Tr.size, Tr.els]; omega
      have := hsz.out
      omega
    have h30 := h29.call0 hpL
    refine hK _ _ (h30.sat' hpL.le [] (by kernel_rfl)) ?_; clear hK K; try clear Q'
    have c_0 := h30.cell 1 rfl 0 rfl
    have f_0 := h30.free 1 rfl 0
    have c_1 := h30.cell 1 rfl 1 rfl
    have f_1 := h30.free 1 rfl 1
    have c_2 := h30.cell 1 rfl 2 rfl
    have f_2 := h30.free 1 rfl 2
    have c_3 := h30.cell 1 rfl 3 rfl
    have f_3 := h30.free 1 rfl 3
    refine wpT_effQ rfl (fun K Q' hK => ?_); go_simp
    clear c_0 f_0 c_1 f_1 c_2 f_2 c_3 f_3
    refine (((h30.set (i := 1) rfl 0 _).set (i := 1) rfl 1 _).set (i := 1) rfl 2 _).k_set 1 rfl (fun w31 h31 => ?_)
    refine hK _ _ (h31.sat' hpL.le [] (by kernel_rfl)) ?_; clear hK K; try clear Q'
    refine wpT_nil (hQn _ _ ?_); clear hQn hQp QR
    show Code.wp _ _ _ _ _
    refine wp_seq ?_
    repeat (first | simp only [List.nil_append] at h31 | simp only [List.cons_append] at h31 | simp only [List.set_cons_zero] at h31 | simp only [List.set_cons_succ] at h31 | simp only [List.eraseIdx_zero] at h31 | simp only [List.tail_cons] at h31 | simp only [List.eraseIdx_cons_zero] at h31 | simp only [List.eraseIdx_cons_succ] at h31 | simp only [List.setIfInBounds_toArray] at h31)
    refine wp_region_lit ?_
    have c_0_0 := h31.cell 0 rfl 0 rfl
    have c_0_1 := h31.cell 0 rfl 1 rfl
    have c_0_2 := h31.cell 0 rfl 2 rfl
    have c_0_3 := h31.cell 0 rfl 3 rfl
    iterate 1 (refine wpList_plainQ rfl (fun K Q' hK => ?_); go_simp; refine hK _ _ ?_; clear hK K; try clear Q')
    clear c_0_0 c_0_1 c_0_2 c_0_3
    refine wpList_plainQ rfl (fun K Q' hK => ?_); go_simp
    refine h31.k_alloc (fun w32 h32 => ?_)
    refine hK _ _ ?_; clear hK K; try clear Q'
    have c_0 := h32.cell 2 rfl 0 rfl
    have f_0 := h32.free 2 rfl 0
    have c_1 := h32.cell 2 rfl 1 rfl
    have f_1 := h32.free 2 rfl 1
    have c_2 := h32.cell 2 rfl 2 rfl
    have f_2 := h32.free 2 rfl 2
    have c_3 := h32.cell 2 rfl 3 rfl
    have f_3 := h32.free 2 rfl 3
    refine wpList_plainQ rfl (fun K Q' hK => ?_); go_simp
    clear c_0 f_0 c_1 f_1 c_2 f_2 c_3 f_3
    refine (((h32.set (i := 2) rfl 0 _).set (i := 2) rfl 1 _).set (i := 2) rfl 2 _).k_set 2 rfl (fun w33 h33 => ?_)
    refine hK _ _ ?_; clear hK K; try clear Q'
    refine wpList_nil ?_
    show Code.wp _ _ _ _ _
    refine wp_seq ?_
    repeat (first | simp only [List.nil_append] at h33 | simp only [List.cons_append] at h33 | simp only [List.set_cons_zero] at h33 | simp only [List.set_cons_succ] at h33 | simp only [List.eraseIdx_zero] at h33 | simp only [List.tail_cons] at h33 | simp only [List.eraseIdx_cons_zero] at h33 | simp only [List.eraseIdx_cons_succ] at h33 | simp only [List.setIfInBounds_toArray] at h33)
    refine wp_region_lit ?_
    have c_1_1 := h33.cell 1 rfl 1 rfl
    iterate 3 (refine wpList_plainQ rfl (fun K Q' hK => ?_); go_simp; refine hK _ _ ?_; clear hK K; try clear Q')
    clear c_1_1
    -- stops at: load (Go.Op.load 35 (Go.Operand.tmp 44)) slot 45
    cases hlt : El.lt (kw l.x) bx.root with
    | true =>
      have heq : Tr.skew kw (([.bool true, .int .i64 bx.root.1, .int .i64 bx.root.2, .slice ax nx cx] : List Value), bx) a b = ⟨l.x, (([.bool true, .int .i64 bx.root.1, .int .i64 bx.root.2, .slice ax nx cx] : List Value), bx) :: l.b, l.k⟩ := by have := Tr.skew_lt kw (x := (([.bool true, .int .i64 bx.root.1, .int .i64 bx.root.2, .slice ax nx cx] : List Value), bx)) (a := a) (b := b) (by rw [hl.out]; exact hlt); rw [hl.out] at this; exact this
      have ce := hcl.out _ h33.fits
      obtain ⟨q0, q1, q2, q3⟩ := ce
      iterate 1 (refine wpList_plainQ rfl (fun K Q' hK => ?_); go_simp; refine hK _ _ ?_; clear hK K; try clear Q')
      clear q0 q1 q2 q3
      refine wpList_plainQ rfl (fun K Q' hK => ?_); go_simp
      refine h33.k_alloc (fun w34 h34 => ?_)
      refine hK _ _ ?_; clear hK K; try clear Q'
      have c_0 := h34.cell 3 rfl 0 rfl
      have f_0 := h34.free 3 rfl 0
      have c_1 := h34.cell 3 rfl 1 rfl
      have f_1 := h34.free 3 rfl 1
      have c_2 := h34.cell 3 rfl 2 rfl
      have f_2 := h34.free 3 rfl 2
      have c_3 := h34.cell 3 rfl 3 rfl
      have f_3 := h34.free 3 rfl 3
      refine wpList_plainQ rfl (fun K Q' hK => ?_); go_simp
      clear c_0 f_0 c_1 f_1 c_2 f_2 c_3 f_3
      refine (((h34.set (i := 3) rfl 0 _).set (i := 3) rfl 1 _).set (i := 3) rfl 2 _).k_set 3 rfl (fun w35 h35 => ?_)
      refine hK _ _ ?_; clear hK K; try clear Q'
      refine wpList_nil ?_
      show Code.wp _ _ _ _ _
      refine wp_seq ?_
      repeat (first | simp only [List.nil_append] at h35 | simp only [List.cons_append] at h35 | simp only [List.set_cons_zero] at h35 | simp only [List.set_cons_succ] at h35 | simp only [List.eraseIdx_zero] at h35 | simp only [List.tail_cons] at h35 | simp only [List.eraseIdx_cons_zero] at h35 | simp only [List.eraseIdx_cons_succ] at h35 | simp only [List.setIfInBounds_toArray] at h35)
      refine h35.region [0, 1] [(0, true), (1, true), (2, true), (3, true), (4, true), (5, true), (6, true), (7, false), (8, true)] (by kernel_rfl) (by kernel_rfl) (fun w36 h36 => ?_)
      refine wpOrd_hide (fun _ _ d _ _ h => by cases d <;> exact h) (fun QR hQn hQp => ?_)
      simp only [ordOps, List.map_cons, List.map_nil, List.getD_cons_zero, List.getD_cons_succ]
      iterate 4 (refine wpOrd_quiet (v := ?_) rfl (fun _ _ _ => hQp _ _ _ _ _) ?_ ?_; rotate_left; (intro w' hS; have c_1_1 := hS.cell 1 rfl 1 rfl; (first | (go_simp; done) | (go_simp; with_reducible rfl))); simp only [Act.put, List.setIfInBounds_toArray, List.set_cons_zero, List.set_cons_succ])
      -- stops at: load (Go.Op.load 32 (Go.Operand.tmp 49)) slot 50
      iterate 1 (refine wpOrd_quiet (v := ?_) rfl (fun _ _ _ => hQp _ _ _ _ _) ?_ ?_; rotate_left; (intro w' hS; obtain ⟨q0, q1, q2, q3⟩ := hcl.out _ hS.1; (first | (go_simp; done) | (go_simp; with_reducible rfl))); simp only [Act.put, List.setIfInBounds_toArray, List.set_cons_zero, List.set_cons_succ])
      iterate 2 (refine wpOrd_quiet (v := ?_) rfl (fun _ _ _ => hQp _ _ _ _ _) ?_ ?_; rotate_left; (intro w' hS; have c_0_1 := hS.cell 0 rfl 1 rfl; have c_0_2 := hS.cell 0 rfl 2 rfl; (first | (go_simp; done) | (go_simp; with_reducible rfl))); simp only [Act.put, List.setIfInBounds_toArray, List.set_cons_zero, List.set_cons_succ])
      -- stops at: eff:call (Go.Op.call {'callee': (Go.Callee.value (Go.Operand.func 26)), 'args': [(Go.Operand.tmp 50), (Go.Operand.tmp 52)], 'argTypes': [32, 32]}) slot 53
      refine wpOrd_effQ rfl (fun K Q' hK => ?_); go_simp
      refine (rless_ok H1 _ (kw l.x) bx.root h36.fits).mono ?_
      rintro e wA ⟨rfl, hkA⟩
      rw [hlt]
      have h37 := h36.callk hkA
      refine hK _ _ (h37.sat' (GH.le_refl _) [0, 1] (by kernel_rfl)) ?_; clear hK K; try clear Q'
      iterate 1 (refine wpOrd_quiet (v := ?_) rfl (fun _ _ _ => hQp _ _ _ _ _) ?_ ?_; rotate_left; (intro w' hS; (first | (go_simp; done) | (go_simp; with_reducible rfl))); simp only [Act.put, List.setIfInBounds_toArray, List.set_cons_zero, List.set_cons_succ])
      refine wpOrd_nil (hQn _ _ ?_); clear hQn hQp QR
      show Code.wp _ _ _ _ _
      refine wp_seq ?_
      refine wp_seq ?_
      repeat (first | simp only [List.nil_append] at h37 | simp only [List.cons_append] at h37 | simp only [List.set_cons_zero] at h37 | simp only [List.set_cons_succ] at h37 | simp only [List.eraseIdx_zero] at h37 | simp only [List.tail_cons] at h37 | simp only [List.eraseIdx_cons_zero] at h37 | simp only [List.eraseIdx_cons_succ] at h37 | simp only [List.setIfInBounds_toArray] at h37)
      refine wp_region_lit ?_
      iterate 1 (refine wpList_plainQ rfl (fun K Q' hK => ?_); go_simp; refine hK _ _ ?_; clear hK K; try clear Q')
      refine wpList_nil ?_
      show Code.wp _ _ _ _ _
      -- stops at: cond
      refine wp_cond_true (rfl) ?_
      refine wp_seq ?_
      refine wp_region_lit ?_
      have c_1_1 := h37.cell 1 rfl 1 rfl
      iterate 3 (refine wpList_plainQ rfl (fun K Q' hK => ?_); go_simp; refine hK _ _ ?_; clear hK K; try clear Q')
      clear c_1_1
      -- stops at: load (Go.Op.load 35 (Go.Operand.tmp 57)) slot 58
      have ce := hcl.out _ h37.fits
      obtain ⟨q0, q1, q2, q3⟩ := ce
      iterate 1 (refine wpList_plainQ rfl (fun K Q' hK => ?_); go_simp; refine hK _ _ ?_; clear hK K; try clear Q')
      clear q0 q1 q2 q3
      have c_0 := h37.cell 2 rfl 0 rfl
      have f_0 := h37.free 2 rfl 0
      have c_1 := h37.cell 2 rfl 1 rfl
      have f_1 := h37.free 2 rfl 1
      have c_2 := h37.cell 2 rfl 2 rfl
      have f_2 := h37.free 2 rfl 2
      have c_3 := h37.cell 2 rfl 3 rfl
      have f_3 := h37.free 2 rfl 3
      refine wpList_plainQ rfl (fun K Q' hK => ?_); go_simp
      clear c_0 f_0 c_1 f_1 c_2 f_2 c_3 f_3
      refine (((h37.set (i := 2) rfl 0 _).set (i := 2) rfl 1 _).set (i := 2) rfl 2 _).k_set 2 rfl (fun w38 h38 => ?_)
      refine hK _ _ ?_; clear hK K; try clear Q'
      refine wpList_nil ?_
      show Code.wp _ _ _ _ _
      repeat (first | simp only [List.nil_append] at h38 | simp only [List.cons_append] at h38 | simp only [List.set_cons_zero] at h38 | simp only [List.set_cons_succ] at h38 | simp only [List.eraseIdx_zero] at h38 | simp only [List.tail_cons] at h38 | simp only [List.eraseIdx_cons_zero] at h38 | simp only [List.eraseIdx_cons_succ] at h38 | simp only [List.setIfInBounds_toArray] at h38)
      refine wp_region_lit ?_
      have c_0_0 := h38.cell 0 rfl 0 rfl
      have c_0_1 := h38.cell 0 rfl 1 rfl
      have c_0_2 := h38.cell 0 rfl 2 rfl
      have c_0_3 := h38.cell 0 rfl 3 rfl
      iterate 1 (refine wpList_plainQ rfl (fun K Q' hK => ?_); go_simp; refine hK _ _ ?_; clear hK K; try clear Q')
      clear c_0_0 c_0_1 c_0_2 c_0_3
      have c_0 := h38.cell 3 rfl 0 rfl
      have f_0 := h38.free 3 rfl 0
      have c_1 := h38.cell 3 rfl 1 rfl
      have f_1 := h38.free 3 rfl 1
      have c_2 := h38.cell 3 rfl 2 rfl
      have f_2 := h38.free 3 rfl 2
      have c_3 := h38.cell 3 rfl 3 rfl
      have f_3 := h38.free 3 rfl 3
      refine wpList_plainQ rfl (fun K Q' hK => ?_); go_simp
      clear c_0 f_0 c_1 f_1 c_2 f_2 c_3 f_3
      refine (((h38.set (i := 3) rfl 0 _).set (i := 3) rfl 1 _).set (i := 3) rfl 2 _).k_set 3 rfl (fun w39 h39 => ?_)
      refine hK _ _ ?_; clear hK K; try clear Q'
      refine wpList_nil ?_
      show Code.wp _ _ _ _ _
      refine wp_seq ?_
      repeat (first | simp only [List.nil_append] at h39 | simp only [List.cons_append] at h39 | simp only [List.set_cons_zero] at h39 | simp only [List.set_cons_succ] at h39 | simp only [List.eraseIdx_zero] at h39 | simp only [List.tail_cons] at h39 | simp only [List.eraseIdx_cons_zero] at h39 | simp only [List.eraseIdx_cons_succ] at h39 | simp only [List.setIfInBounds_toArray] at h39)
      refine wp_region_lit ?_
      have c_3_0 := h39.cell 3 rfl 0 rfl
      have c_3_1 := h39.cell 3 rfl 1 rfl
      have c_3_2 := h39.cell 3 rfl 2 rfl
      have c_3_3 := h39.cell 3 rfl 3 rfl
      iterate 1 (refine wpList_plainQ rfl (fun K Q' hK => ?_); go_simp; refine hK _ _ ?_; clear hK K; try clear Q')
      clear c_3_0 c_3_1 c_3_2 c_3_3
      refine wpList_plainQ rfl (fun K Q' hK => ?_); go_simp
      refine h39.k_alloc (fun w40 h40 => ?_)
      refine hK _ _ ?_; clear hK K; try clear Q'
      iterate 1 (refine wpList_plainQ rfl (fun K Q' hK => ?_); go_simp; refine hK _ _ ?_; clear hK K; try clear Q')
      refine wpList_nil ?_
      show Code.wp _ _ _ _ _
      refine wp_seq ?_
      repeat (first | simp only [List.nil_append] at h40 | simp only [List.cons_append] at h40 | simp only [List.set_cons_zero] at h40 | simp only [List.set_cons_succ] at h40 | simp only [List.eraseIdx_zero] at h40 | simp only [List.tail_cons] at h40 | simp only [List.eraseIdx_cons_zero] at h40 | simp only [List.eraseIdx_cons_succ] at h40 | simp only [List.setIfInBounds_toArray] at h40)
      refine wp_region_lit ?_
      have c_1_2 := h40.cell 1 rfl 2 rfl
      iterate 3 (refine wpList_plainQ rfl (fun K Q' hK => ?_); go_simp; refine hK _ _ ?_; clear hK K; try clear Q')
      clear c_1_2
      -- stops at: eff:Builtin.append (Go.Op.call {'callee': (Go.Callee.builtin Go.Builtin.append), 'args': [(Go.Operand.tmp 62), (Go.Operand.tmp 64)], 'argTypes': [36, 36]}) slot 65
      have hR := h40.rowOf 4 rfl 4 1 rfl (by unfold maxLen; omega)
      refine wpList_plainQ rfl (fun K Q' hK => ?_)
      refine hR.op_append_rep 0 rfl rfl infoHV rfl (vpC l.b) rfl hbl.1 (vpC_one hbl.2) (by omega) (by unfold maxLen; omega) (fun v1 wB hB => ?_)
      refine hK _ _ ?_; clear hK K; try clear Q'
      obtain ⟨aV, cV, rfl⟩ := hB.row_form 0 rfl
      obtain ⟨H6, h6, rB, leB⟩ := hB.settleRow 0 rfl
      iterate 1 (refine wpList_plainQ rfl (fun K Q' hK => ?_); go_simp; refine hK _ _ ?_; clear hK K; try clear Q')
      refine wpList_nil ?_
      show Code.wp _ _ _ _ _
      refine wp_seq ?_
      repeat (first | simp only [List.nil_append] at h6 | simp only [List.cons_append] at h6 | simp only [List.set_cons_zero] at h6 | simp only [List.set_cons_succ] at h6 | simp only [List.eraseIdx_zero] at h6 | simp only [List.tail_cons] at h6 | simp only [List.eraseIdx_cons_zero] at h6 | simp only [List.eraseIdx_cons_succ] at h6 | simp only [List.setIfInBounds_toArray] at h6)
      refine wp_region_lit ?_
      have c_1_0 := h6.cell 1 rfl 0 rfl
      have c_2_0 := h6.cell 2 rfl 0 rfl
      have c_2_1 := h6.cell 2 rfl 1 rfl
      have c_2_2 := h6.cell 2 rfl 2 rfl
      have c_2_3 := h6.cell 2 rfl 3 rfl
      iterate 3 (refine wpList_plainQ rfl (fun K Q' hK => ?_); go_simp; refine hK _ _ ?_; clear hK K; try clear Q')
      clear c_1_0 c_2_0 c_2_1 c_2_2 c_2_3
      refine wpList_plainQ rfl (fun K Q' hK => ?_); go_simp
      refine h6.k_alloc (fun w42 h42 => ?_)
      refine hK _ _ ?_; clear hK K; try clear Q'
      have c_1_3 := h42.cell 1 rfl 3 rfl
      iterate 4 (refine wpList_plainQ rfl (fun K Q' hK => ?_); go_simp; refine hK _ _ ?_; clear hK K; try clear Q')
      clear c_1_3
      refine wpList_plainQ rfl (fun K Q' hK => ?_); go_simp
      refine h42.k_alloc (fun w43 h43 => ?_)
      refine hK _ _ ?_; clear hK K; try clear Q'
      iterate 1 (refine wpList_plainQ rfl (fun K Q' hK => ?_); go_simp; refine hK _ _ ?_; clear hK K; try clear Q')
      refine wpList_nil ?_
      show Code.wp _ _ _ _ _
      refine wp_seq ?_
      repeat (first | simp only [List.nil_append] at h43 | simp only [List.cons_append] at h43 | simp only [List.set_cons_zero] at h43 | simp only [List.set_cons_succ] at h43 | simp only [List.eraseIdx_zero] at h43 | simp only [List.tail_cons] at h43 | simp only [List.eraseIdx_cons_zero] at h43 | simp only [List.eraseIdx_cons_succ] at h43 | simp only [List.setIfInBounds_toArray] at h43)
      refine wp_region_lit ?_
      iterate 3 (refine wpList_plainQ rfl (fun K Q' hK => ?_); go_simp; refine hK _ _ ?_; clear hK K; try clear Q')
      -- stops at: eff:Builtin.append (Go.Op.call {'callee': (Go.Callee.builtin Go.Builtin.append), 'args': [(Go.Operand.tmp 75), (Go.Operand.tmp 77)], 'argTypes': [33, 33]}) slot 78
      have hR0 := h43.rowOf 4 rfl 4 1 rfl (by unfold maxLen; omega)
      obtain ⟨H7, h5, rX, leX⟩ := hR0.settleRow 0 rfl
      have hR := h5.rowOf 4 rfl 4 1 rfl (by unfold maxLen; omega)
      refine wpList_plainQ rfl (fun K Q' hK => ?_)
      obtain ⟨cs, hv1, hv2⟩ := ((hre.mono hpL.le).mono leB).mono leX
      refine hR.op_append_rep 0 rfl rfl infoTT rfl cs rfl hv1 (TW.one hv2) (by have := hnr.out; omega) (by have := hnr.out; unfold maxLen; omega) (fun v1 wB hB => ?_)
      refine hK _ _ ?_; clear hK K; try clear Q'
      obtain ⟨aV, cV, rfl⟩ := hB.row_form 0 rfl
      obtain ⟨H9, h9, rA, leA⟩ := hB.settleRow 0 rfl
      iterate 2 (refine wpList_plainQ rfl (fun K Q' hK => ?_); go_simp; refine hK _ _ ?_; clear hK K; try clear Q')
      refine wpList_nil ?_
      show Code.wp _ _ _ _ _
      -- stops at: ret
      refine wp_ret ?_
      go_ret2
      refine ⟨_, H9, by rw [hst]; rfl, h9.post, ?_⟩
      rw [Sk.insert_eq kw r hrk, heq]
      refine ⟨_, ?_, TW.push (t := ⟨l.x, (([.bool true, .int .i64 bx.root.1, .int .i64 bx.root.2, .slice ax nx cx] : List Value), bx) :: l.b, l.k⟩) (r := r3) hr3 ((HsV.one (by first | exact rX | (rw [exl]; exact rX)) hvl).mono leA) (((HsV.push (by first | exact rB | (rw [exl]; exact rB)) hx hbl.2).mono leX).mono leA) (((hkl.mono leB).mono leX).mono leA) (hv2.mono leA)⟩
      show SliceRep H9 4 _ (r.length + 1) _
      rw [Nat.add_comm r.length 1]
      exact rA
    | false =>
      have heq : Tr.skew kw (([.bool true, .int .i64 bx.root.1, .int .i64 bx.root.2, .slice ax nx cx] : List Value), bx) a b = ⟨(([.bool true, .int .i64 bx.root.1, .int .i64 bx.root.2, .slice ax nx cx] : List Value), bx), l.x :: l.b, l.k⟩ := by have := Tr.skew_ge kw (x := (([.bool true, .int .i64 bx.root.1, .int .i64 bx.root.2, .slice ax nx cx] : List Value), bx)) (a := a) (b := b) (by rw [hl.out]; exact hlt); rw [hl.out] at this; exact this
      have ce := hcl.out _ h33.fits
      obtain ⟨q0, q1, q2, q3⟩ := ce
      iterate 1 (refine wpList_plainQ rfl (fun K Q' hK => ?_); go_simp; refine hK _ _ ?_; clear hK K; try clear Q')
      clear q0 q1 q2 q3
      refine wpList_plainQ rfl (fun K Q' hK => ?_); go_simp
      refine h33.k_alloc (fun w45 h45 => ?_)
      refine hK _ _ ?_; clear hK K; try clear Q'
      have c_0 := h45.cell 3 rfl 0 rfl
      have f_0 := h45.free 3 rfl 0
      have c_1 := h45.cell 3 rfl 1 rfl
      have f_1 := h45.free 3 rfl 1
      have c_2 := h45.cell 3 rfl 2 rfl
      have f_2 := h45.free 3 rfl 2
      have c_3 := h45.cell 3 rfl 3 rfl
      have f_3 := h45.free 3 rfl 3
      refine wpList_plainQ rfl (fun K Q' hK => ?_); go_simp
      clear c_0 f_0 c_1 f_1 c_2 f_2 c_3 f_3
      refine (((h45.set (i := 3) rfl 0 _).set (i := 3) rfl 1 _).set (i := 3) rfl 2 _).k_set 3 rfl (fun w46 h46 => ?_)
      refine hK _ _ ?_; clear hK K; try clear Q'
      refine wpList_nil ?_
      show Code.wp _ _ _ _ _
      refine wp_seq ?_
      repeat (first | simp only [List.nil_append] at h46 | simp only [List.cons_append] at h46 | simp only [List.set_cons_zero] at h46 | simp only [List.set_cons_succ] at h46 | simp only [List.eraseIdx_zero] at h46 | simp only [List.tail_cons] at h46 | simp only [List.eraseIdx_cons_zero] at h46 | simp only [List.eraseIdx_cons_succ] at h46 | simp only [List.setIfInBounds_toArray] at h46)
      refine h46.region [0, 1] [(0, true), (1, true), (2, true), (3, true), (4, true), (5, true), (6, true), (7, false), (8, true)] (by kernel_rfl) (by kernel_rfl) (fun w47 h47 => ?_)
      refine wpOrd_hide (fun _ _ d _ _ h => by cases d <;> exact h) (fun QR hQn hQp => ?_)
      simp only [ordOps, List.map_cons, List.map_nil, List.getD_cons_zero, List.getD_cons_succ]
      iterate 4 (refine wpOrd_quiet (v := ?_) rfl (fun _ _ _ => hQp _ _ _ _ _) ?_ ?_; rotate_left; (intro w' hS; have c_1_1 := hS.cell 1 rfl 1 rfl; (first | (go_simp; done) | (go_simp; with_reducible rfl))); simp only [Act.put, List.setIfInBounds_toArray, List.set_cons_zero, List.set_cons_succ])
      -- stops at: load (Go.Op.load 32 (Go.Operand.tmp 49)) slot 50
      iterate 1 (refine wpOrd_quiet (v := ?_) rfl (fun _ _ _ => hQp _ _ _ _ _) ?_ ?_; rotate_left; (intro w' hS; obtain ⟨q0, q1, q2, q3⟩ := hcl.out _ hS.1; (first | (go_simp; done) | (go_simp; with_reducible rfl))); simp only [Act.put, List.setIfInBounds_toArray, List.set_cons_zero, List.set_cons_succ])
      iterate 2 (refine wpOrd_quiet (v := ?_) rfl (fun _ _ _ => hQp _ _ _ _ _) ?_ ?_; rotate_left; (intro w' hS; have c_0_1 := hS.cell 0 rfl 1 rfl; have c_0_2 := hS.cell 0 rfl 2 rfl; (first | (go_simp; done) | (go_simp; with_reducible rfl))); simp only [Act.put, List.setIfInBounds_toArray, List.set_cons_zero, List.set_cons_succ])
      -- stops at: eff:call (Go.Op.call {'callee': (Go.Callee.value (Go.Operand.func 26)), 'args': [(Go.Operand.tmp 50), (Go.Operand.tmp 52)], 'argTypes': [32, 32]}) slot 53
      refine wpOrd_effQ rfl (fun K Q' hK => ?_); go_simp
      refine (rless_ok H1 _ (kw l.x) bx.root h47.fits).mono ?_
      rintro e wA ⟨rfl, hkA⟩
      rw [hlt]
      have h48 := h47.callk hkA
      refine hK _ _ (h48.sat' (GH.le_refl _) [0, 1] (by kernel_rfl)) ?_; clear hK K; try clear Q'
      iterate 1 (refine wpOrd_quiet (v := ?_) rfl (fun _ _ _ => hQp _ _ _ _ _) ?_ ?_; rotate_left; (intro w' hS; (first | (go_simp; done) | (go_simp; with_reducible rfl))); simp only [Act.put, List.setIfInBounds_toArray, List.set_cons_zero, List.set_cons_succ])
      refine wpOrd_nil (hQn _ _ ?_); clear hQn hQp QR
      show Code.wp _ _ _ _ _
      refine wp_seq ?_
      refine wp_seq ?_
      repeat (first | simp only [List.nil_append] at h48 | simp only [List.cons_append] at h48 | simp only [List.set_cons_zero] at h48 | simp only [List.set_cons_succ] at h48 | simp only [List.eraseIdx_zero] at h48 | simp only [List.tail_cons] at h48 | simp only [List.eraseIdx_cons_zero] at h48 | simp only [List.eraseIdx_cons_succ] at h48 | simp only [List.setIfInBounds_toArray] at h48)
      refine wp_region_lit ?_
      iterate 1 (refine wpList_plainQ rfl (fun K Q' hK => ?_); go_simp; refine hK _ _ ?_; clear hK K; try clear Q')
      refine wpList_nil ?_
      show Code.wp _ _ _ _ _
      -- stops at: cond
      refine wp_cond_false (rfl) ?_
      refine wp_skip ?_
      show Code.wp _ _ _ _ _
      refine wp_seq ?_
      refine wp_region_lit ?_
      have c_3_0 := h48.cell 3 rfl 0 rfl
      have c_3_1 := h48.cell 3 rfl 1 rfl
      have c_3_2 := h48.cell 3 rfl 2 rfl
      have c_3_3 := h48.cell 3 rfl 3 rfl
      iterate 1 (refine wpList_plainQ rfl (fun K Q' hK => ?_); go_simp; refine hK _ _ ?_; clear hK K; try clear Q')
      clear c_3_0 c_3_1 c_3_2 c_3_3
      refine wpList_plainQ rfl (fun K Q' hK => ?_); go_simp
      refine h48.k_alloc (fun w49 h49 => ?_)
      refine hK _ _ ?_; clear hK K; try clear Q'
      iterate 1 (refine wpList_plainQ rfl (fun K Q' hK => ?_); go_simp; refine hK _ _ ?_; clear hK K; try clear Q')
      refine wpList_nil ?_
      show Code.wp _ _ _ _ _
      refine wp_seq ?_
      repeat (first | simp only [List.nil_append] at h49 | simp only [List.cons_append] at h49 | simp only [List.set_cons_zero] at h49 | simp only [List.set_cons_succ] at h49 | simp only [List.eraseIdx_zero] at h49 | simp only [List.tail_cons] at h49 | simp only [List.eraseIdx_cons_zero] at h49 | simp only [List.eraseIdx_cons_succ] at h49 | simp only [List.setIfInBounds_toArray] at h49)
      refine wp_region_lit ?_
      have c_1_2 := h49.cell 1 rfl 2 rfl
      iterate 3 (refine wpList_plainQ rfl (fun K Q' hK => ?_); go_simp; refine hK _ _ ?_; clear hK K; try clear Q')
      clear c_1_2
      -- stops at: eff:Builtin.append (Go.Op.call {'callee': (Go.Callee.builtin Go.Builtin.append), 'args': [(Go.Operand.tmp 62), (Go.Operand.tmp 64)], 'argTypes': [36, 36]}) slot 65
      have hR := h49.rowOf 4 rfl 4 1 rfl (by unfold maxLen; omega)
      refine wpList_plainQ rfl (fun K Q' hK => ?_)
      refine hR.op_append_rep 0 rfl rfl infoHV rfl (vpC l.b) rfl hbl.1 (vpC_one hbl.2) (by omega) (by unfold maxLen; omega) (fun v1 wB hB => ?_)
      refine hK _ _ ?_; clear hK K; try clear Q'
      obtain ⟨aV, cV, rfl⟩ := hB.row_form 0 rfl
      obtain ⟨H6, h6, rB, leB⟩ := hB.settleRow 0 rfl
      iterate 1 (refine wpList_plainQ rfl (fun K Q' hK => ?_); go_simp; refine hK _ _ ?_; clear hK K; try clear Q')
      refine wpList_nil ?_
      show Code.wp _ _ _ _ _
      refine wp_seq ?_
      repeat (first | simp only [List.nil_append] at h6 | simp only [List.cons_append] at h6 | simp only [List.set_cons_zero] at h6 | simp only [List.set_cons_succ] at h6 | simp only [List.eraseIdx_zero] at h6 | simp only [List.tail_cons] at h6 | simp only [List.eraseIdx_cons_zero] at h6 | simp only [List.eraseIdx_cons_succ] at h6 | simp only [List.setIfInBounds_toArray] at h6)
      refine wp_region_lit ?_
      have c_1_0 := h6.cell 1 rfl 0 rfl
      have c_2_0 := h6.cell 2 rfl 0 rfl
      have c_2_1 := h6.cell 2 rfl 1 rfl
      have c_2_2 := h6.cell 2 rfl 2 rfl
      have c_2_3 := h6.cell 2 rfl 3 rfl
      iterate 3 (refine wpList_plainQ rfl (fun K Q' hK => ?_); go_simp; refine hK _ _ ?_; clear hK K; try clear Q')
      clear c_1_0 c_2_0 c_2_1 c_2_2 c_2_3
      refine wpList_plainQ rfl (fun K Q' hK => ?_); go_simp
      refine h6.k_alloc (fun w51 h51 => ?_)
      refine hK _ _ ?_; clear hK K; try clear Q'
      have c_1_3 := h51.cell 1 rfl 3 rfl
      iterate 4 (refine wpList_plainQ rfl (fun K Q' hK => ?_); go_simp; refine hK _ _ ?_; clear hK K; try clear Q')
      clear c_1_3
      refine wpList_plainQ rfl (fun K Q' hK => ?_); go_simp
      refine h51.k_alloc (fun w52 h52 => ?_)
      refine hK _ _ ?_; clear hK K; try clear Q'
      iterate 1 (refine wpList_plainQ rfl (fun K Q' hK => ?_); go_simp; refine hK _ _ ?_; clear hK K; try clear Q')
      refine wpList_nil ?_
      show Code.wp _ _ _ _ _
      refine wp_seq ?_
      repeat (first | simp only [List.nil_append] at h52 | simp only [List.cons_append] at h52 | simp only [List.set_cons_zero] at h52 | simp only [List.set_cons_succ] at h52 | simp only [List.eraseIdx_zero] at h52 | simp only [List.tail_cons] at h52 | simp only [List.eraseIdx_cons_zero] at h52 | simp only [List.eraseIdx_cons_succ] at h52 | simp only [List.setIfInBounds_toArray] at h52)
      refine wp_region_lit ?_
      iterate 3 (refine wpList_plainQ rfl (fun K Q' hK => ?_); go_simp; refine hK _ _ ?_; clear hK K; try clear Q')
      -- stops at: eff:Builtin.append (Go.Op.call {'callee': (Go.Callee.builtin Go.Builtin.append), 'args': [(Go.Operand.tmp 75), (Go.Operand.tmp 77)], 'argTypes': [33, 33]}) slot 78
      have hR0 := h52.rowOf 4 rfl 4 1 rfl (by unfold maxLen; omega)
      obtain ⟨H7, h5, rX, leX⟩ := hR0.settleRow 0 rfl
      have hR := h5.rowOf 4 rfl 4 1 rfl (by unfold maxLen; omega)
      refine wpList_plainQ rfl (fun K Q' hK => ?_)
      obtain ⟨cs, hv1, hv2⟩ := ((hre.mono hpL.le).mono leB).mono leX
      refine hR.op_append_rep 0 rfl rfl infoTT rfl cs rfl hv1 (TW.one hv2) (by have := hnr.out; omega) (by have := hnr.out; unfold maxLen; omega) (fun v1 wB hB => ?_)
      refine hK _ _ ?_; clear hK K; try clear Q'
      obtain ⟨aV, cV, rfl⟩ := hB.row_form 0 rfl
      obtain ⟨H9, h9, rA, leA⟩ := hB.settleRow 0 rfl
      iterate 2 (refine wpList_plainQ rfl (fun K Q' hK => ?_); go_simp; refine hK _ _ ?_; clear hK K; try clear Q')
      refine wpList_nil ?_
      show Code.wp _ _ _ _ _
      -- stops at: ret
      refine wp_ret ?_
      go_ret2
      refine ⟨_, H9, by rw [hst]; rfl, h9.post, ?_⟩
      rw [Sk.insert_eq kw r hrk, heq]
      refine ⟨_, ?_, TW.push (t := ⟨(([.bool true, .int .i64 bx.root.1, .int .i64 bx.root.2, .slice ax nx cx] : List Value), bx), l.x :: l.b, l.k⟩) (r := r3) hr3 ((HsV.one (by first | exact rX | (rw [exl]; exact rX)) hx).mono leA) (((HsV.push (by first | exact rB | (rw [exl]; exact rB)) hvl hbl.2).mono leX).mono leA) (((hkl.mono leB).mono leX).mono leA) (hv2.mono leA)⟩
      show SliceRep H9 4 _ (r.length + 1) _
      rw [Nat.add_comm r.length 1]
      exact rA
theorem wins_ok (H : GH) (w : World) (x : Vp) (v : Value) (l : List (Tr Vp)) (hx : vC x) (hf : Fits w H) (hn : Rw.size l < 900000) (hv : RsW H v l) :
    Calls Tryz.prog 27 #[.agg x.1.toArray, v] w fun e w' => ∃ q' H', e = .returned (.tuple #[q', .int .i64 (Sk.insC l + Sk.insD l : Nat)]) ∧ Post w H none w' H' 0 0 ∧ RsW H' q' (Sk.insert kw x l) := by
  match l, hn, hv with
  | [], hn, hv => exact wins_nil H w x v hx hf hv
  | [a], hn, hv => exact wins_one H w x v a hx hf hv
  | a :: b :: r, hn, hv =>
    by_cases hrk : a.rank = b.rank
    · exact wins_eq H w x v a b r hx hf hn hv hrk
    · exact wins_ne H w x v a b r hx hf hn hv hrk
end Go.Proofs.YtkhjcmbppcimnaaGreatDoor
