/-
Skew heaps: which tree has the least root.
-/
import Derived.Test.YteigmfkkeofcaaaGreatDoorOgSkew
namespace Go.Proofs.YteigmfkkeofcaaaGreatDoor
open Go Go.RowKit
set_option linter.unusedVariables false

theorem TrR.er {H : GH} {p : Option Addr} {t : Tr El} (h : TrR H p t) : ∀ y ∈ t.x :: t.b, True := by
  obtain ⟨_, _, _, _, _, _, _, _, _, _, _, _, _, _, hx, _⟩ := h.open
  exact hx

set_option maxRecDepth 100000 in
set_option maxHeartbeats 2000000 in
theorem skahead_ok (H : GH) (w : World) (m : Option Nat) (c d : Int) (bl bb bm b9 o9 nn cap j bst : Nat) (T1 T2 T3 : TypeId) (pX pY : Option Addr) (tX tY : Tr El) (hpre : Pre w H m c d)
    (hbl : H bl = some (.cells #[.slice (some ⟨b9, o9, none⟩) nn cap] T1)) (hbb : H bb = some (.cells #[.int .i64 (bst : Int)] T2)) (hbm : H bm = some (.cells #[mV m] T3)) (hj : j < nn) (hb : bst < nn)
    (cX : Hid (∀ W, Fits W H → W.cell? ⟨b9, o9 + j, none⟩ = some (.pointer pX))) (cY : Hid (∀ W, Fits W H → W.cell? ⟨b9, o9 + bst, none⟩ = some (.pointer pY))) (hX : TrR H pX tX) (hY : TrR H pY tY) :
    Calls Tryz.prog 85 #[.int .i64 (j : Int), .pointer (some ⟨bl, 0, none⟩), .pointer (some ⟨bb, 0, none⟩), .pointer (some ⟨bm, 0, none⟩)] w fun e w' => ∃ H', e = .returned (.bool (El.lt (kf tX.x) (kf tY.x))) ∧ Post w H m w' H' (c + 1) d := by
  have hxX := hX.er
  have hxY := hY.er
  obtain ⟨lt, hlt⟩ : ∃ lt, Hid (El.lt (kf tX.x) (kf tY.x) = lt) := ⟨_, show _ = _ from rfl⟩
  go_enter Tryz.func85, Tryz.ntmps85
  have h0 := St.start hpre
  refine wp_seq ?_
  refine wp_region_lit ?_
  iterate 1 (refine wpList_plainQ rfl (fun K Q' hK => ?_); go_simp; refine hK _ _ ?_; clear hK K; try clear Q')
  refine wpList_nil ?_
  show Code.wp _ _ _ _ _
  refine wp_seq ?_
  refine wp_region_lit ?_
  have c_hbl_0 := h0.gh hbl 0 rfl
  iterate 3 (refine wpList_plainQ rfl (fun K Q' hK => ?_); go_simp; refine hK _ _ ?_; clear hK K; try clear Q')
  clear c_hbl_0
  -- stops at: load (Go.Op.load 94 (Go.Operand.tmp 13)) slot 14
  have ce := cX.out _ h0.fits
  iterate 1 (refine wpList_plainQ rfl (fun K Q' hK => ?_); go_simp; refine hK _ _ ?_; clear hK K; try clear Q')
  clear ce
  -- stops at: eff:call (Go.Op.call {'callee': (Go.Callee.value (Go.Operand.func 60)), 'args': [(Go.Operand.tmp 14)], 'argTypes': [94]}) slot 15
  refine wpList_plainQ rfl (fun K Q' hK => ?_); go_simp
  refine (root_ok H _ pX tX h0.fits hX).mono ?_
  rintro e wA ⟨rfl, hkA⟩
  have h1 := h0.callk hkA
  refine hK _ _ ?_; clear hK K; try clear Q'
  iterate 3 (refine wpList_plainQ rfl (fun K Q' hK => ?_); go_simp; refine hK _ _ ?_; clear hK K; try clear Q')
  refine wpList_plainQ rfl (fun K Q' hK => ?_); go_simp
  refine h1.k_alloc (fun w2 h2 => ?_)
  refine hK _ _ ?_; clear hK K; try clear Q'
  have c_0 := h2.cell 0 rfl 0 rfl
  have f_0 := h2.free 0 rfl 0
  have c_1 := h2.cell 0 rfl 1 rfl
  have f_1 := h2.free 0 rfl 1
  refine wpList_plainQ rfl (fun K Q' hK => ?_); go_simp
  clear c_0 f_0 c_1 f_1
  refine (h2.set (i := 0) rfl 0 _).k_set 0 rfl (fun w3 h3 => ?_)
  refine hK _ _ ?_; clear hK K; try clear Q'
  iterate 1 (refine wpList_plainQ rfl (fun K Q' hK => ?_); go_simp; refine hK _ _ ?_; clear hK K; try clear Q')
  refine wpList_nil ?_
  show Code.wp _ _ _ _ _
  refine wp_seq ?_
  refine wp_region_lit ?_
  have c_hbl_0 := h3.gh hbl 0 rfl
  have c_hbb_0 := h3.gh hbb 0 rfl
  iterate 3 (refine wpList_plainQ rfl (fun K Q' hK => ?_); go_simp; refine hK _ _ ?_; clear hK K; try clear Q')
  clear c_hbl_0 c_hbb_0
  -- stops at: load (Go.Op.load 94 (Go.Operand.tmp 21)) slot 22
  have ce := cY.out _ h3.fits
  iterate 1 (refine wpList_plainQ rfl (fun K Q' hK => ?_); go_simp; refine hK _ _ ?_; clear hK K; try clear Q')
  clear ce
  -- stops at: eff:call (Go.Op.call {'callee': (Go.Callee.value (Go.Operand.func 60)), 'args': [(Go.Operand.tmp 22)], 'argTypes': [94]}) slot 23
  refine wpList_plainQ rfl (fun K Q' hK => ?_); go_simp
  refine (root_ok H _ pY tY h3.fits hY).mono ?_
  rintro e wB ⟨rfl, hkB⟩
  have h4 := h3.callk hkB
  refine hK _ _ ?_; clear hK K; try clear Q'
  iterate 3 (refine wpList_plainQ rfl (fun K Q' hK => ?_); go_simp; refine hK _ _ ?_; clear hK K; try clear Q')
  refine wpList_plainQ rfl (fun K Q' hK => ?_); go_simp
  refine h4.k_alloc (fun w5 h5 => ?_)
  refine hK _ _ ?_; clear hK K; try clear Q'
  have c_0 := h5.cell 1 rfl 0 rfl
  have f_0 := h5.free 1 rfl 0
  have c_1 := h5.cell 1 rfl 1 rfl
  have f_1 := h5.free 1 rfl 1
  refine wpList_plainQ rfl (fun K Q' hK => ?_); go_simp
  clear c_0 f_0 c_1 f_1
  refine (h5.set (i := 1) rfl 0 _).k_set 1 rfl (fun w6 h6 => ?_)
  refine hK _ _ ?_; clear hK K; try clear Q'
  iterate 1 (refine wpList_plainQ rfl (fun K Q' hK => ?_); go_simp; refine hK _ _ ?_; clear hK K; try clear Q')
  refine wpList_nil ?_
  show Code.wp _ _ _ _ _
  refine wp_seq ?_
  refine h6.region [0, 1] [(0, true), (1, true), (2, true), (4, true), (5, true), (3, false), (6, false), (7, false), (8, true)] (by kernel_rfl) (by kernel_rfl) (fun w7 h7 => ?_)
  refine wpOrd_hide (fun _ _ d _ _ h => by cases d <;> exact h) (fun QR hQn hQp => ?_)
  simp only [ordOps, List.map_cons, List.map_nil, List.getD_cons_zero, List.getD_cons_succ]
  iterate 5 (refine wpOrd_quiet (v := ?_) rfl (fun _ _ _ => hQp _ _ _ _ _) ?_ ?_; rotate_left; (intro w' hS; have c_hbm_0 := hS.gh hbm 0 rfl; have c_0_0 := hS.cell 0 rfl 0 rfl; have c_0_1 := hS.cell 0 rfl 1 rfl; have c_1_0 := hS.cell 1 rfl 0 rfl; have c_1_1 := hS.cell 1 rfl 1 rfl; (first | (go_simp; done) | (go_simp; with_reducible rfl))); simp only [Act.put, List.setIfInBounds_toArray, List.set_cons_zero, List.set_cons_succ])
  -- stops at: eff:call (Go.Op.call {'callee': (Go.Callee.invoke (Go.Operand.tmp 28) ('str', 'Key')), 'args': [], 'argTypes': []}) slot 29
  refine wpOrd_effQ rfl (fun K Q' hK => ?_); go_simp
  refine (key_ok H _ tX.x h7.fits (fun y hy => hxX y (List.mem_cons.2 (.inl (List.mem_singleton.1 hy))))).mono ?_
  rintro e wC ⟨rfl, hkC⟩
  have h8 := h7.callk hkC
  refine hK _ _ (h8.sat' (GH.le_refl _) [0, 1] (by kernel_rfl)) ?_; clear hK K; try clear Q'
  -- stops at: eff:call (Go.Op.call {'callee': (Go.Callee.invoke (Go.Operand.tmp 31) ('str', 'Key')), 'args': [], 'argTypes': []}) slot 32
  refine wpOrd_effQ rfl (fun K Q' hK => ?_); go_simp
  refine (key_ok H _ tY.x h8.fits (fun y hy => hxY y (List.mem_cons.2 (.inl (List.mem_singleton.1 hy))))).mono ?_
  rintro e wD ⟨rfl, hkD⟩
  have h9 := h8.callk hkD
  refine hK _ _ (h9.sat' (GH.le_refl _) [0, 1] (by kernel_rfl)) ?_; clear hK K; try clear Q'
  -- stops at: eff:call (Go.Op.call {'callee': (Go.Callee.value (Go.Operand.func 24)), 'args': [(Go.Operand.tmp 26), (Go.Operand.tmp 29), (Go.Operand.tmp 32)], 'argTypes': [25, 32, 32] slot 33
  refine wpOrd_effQ rfl (fun K Q' hK => ?_); go_simp
  refine (less_ok H _ m c d (kf tX.x) (kf tY.x) h9.pre).mono ?_
  rintro e wE ⟨H2, rfl, hpE⟩
  rw [hlt.out]
  have h10 := h9.call hpE
  have hbl_10 := hpE.le _ _ hbl
  have hbb_10 := hpE.le _ _ hbb
  have hbm_10 := hpE.le _ _ hbm
  refine hK _ _ (h10.sat' hpE.le [0, 1] (by kernel_rfl)) ?_; clear hK K; try clear Q'
  iterate 1 (refine wpOrd_quiet (v := ?_) rfl (fun _ _ _ => hQp _ _ _ _ _) ?_ ?_; rotate_left; (intro w' hS; (first | (go_simp; done) | (go_simp; with_reducible rfl))); simp only [Act.put, List.setIfInBounds_toArray, List.set_cons_zero, List.set_cons_succ])
  refine wpOrd_nil (hQn _ _ ?_); clear hQn hQp QR
  show Code.wp _ _ _ _ _
  -- stops at: ret
  refine wp_ret ?_
  go_ret
  exact ⟨H2, by rw [hlt.out]; rfl, h10.post⟩

set_option maxRecDepth 100000 in
set_option maxHeartbeats 4000000 in
theorem skleast_ok (H : GH) (w : World) (m : Option Nat) (c d : Int) (ks : List (Option Addr)) (kv : Value) (t0 : Tr El) (l0 : List (Tr El)) (hpre : Pre w H m c d) (hn : Rw.size (t0 :: l0) < 1000000) (hk : SliceRep H 1 kv ks.length (ks.map .pointer)) (hrow : RowR H ks (t0 :: l0)) :
    Calls Tryz.prog 59 #[mV m, kv] w fun e w' => ∃ H', e = .returned (.int .i64 (Rw.least kf (t0 :: l0) : Nat)) ∧ Post w H m w' H' (c + l0.length) d := by
  have hkl : Hid (ks.length = l0.length + 1) := by have := hrow.1; show _ = _; simpa using this
  have hlb : ks.length < 1000000 := by have := hkl.out; have := Rw.length_le (t0 :: l0); simp at this; omega
  obtain ⟨b9, o9, cap9, rfl, _, _⟩ := hk.ne_nil (by have := hkl.out; omega)
  go_enter Tryz.func59, Tryz.ntmps59
  have h0 := St.start hpre
  refine wp_seq ?_
  refine wp_region_lit ?_
  refine wpList_plainQ rfl (fun K Q' hK => ?_); go_simp
  refine h0.k_alloc (fun w1 h1 => ?_)
  refine hK _ _ ?_; clear hK K; try clear Q'
  refine wpList_plainQ rfl (fun K Q' hK => ?_); go_simp
  refine h1.k_alloc (fun w2 h2 => ?_)
  refine hK _ _ ?_; clear hK K; try clear Q'
  iterate 1 (refine wpList_plainQ rfl (fun K Q' hK => ?_); go_simp; refine hK _ _ ?_; clear hK K; try clear Q')
  refine wpList_nil ?_
  show Code.wp _ _ _ _ _
  refine wp_seq ?_
  refine wp_region_lit ?_
  refine wpList_plainQ rfl (fun K Q' hK => ?_); go_simp
  refine h2.k_alloc (fun w3 h3 => ?_)
  refine hK _ _ ?_; clear hK K; try clear Q'
  have c_0 := h3.cell 2 rfl 0 rfl
  have f_0 := h3.free 2 rfl 0
  refine wpList_plainQ rfl (fun K Q' hK => ?_); go_simp
  clear c_0 f_0
  refine h3.k_set 2 rfl (fun w4 h4 => ?_)
  refine hK _ _ ?_; clear hK K; try clear Q'
  refine wpList_nil ?_
  show Code.wp _ _ _ _ _
  refine wp_seq ?_
  refine wp_region_lit ?_
  iterate 2 (refine wpList_plainQ rfl (fun K Q' hK => ?_); go_simp; refine hK _ _ ?_; clear hK K; try clear Q')
  refine wpList_nil ?_
  show Code.wp _ _ _ _ _
  refine wp_seq ?_
  refine wp_seq ?_
  refine wp_region_lit ?_
  iterate 1 (refine wpList_plainQ rfl (fun K Q' hK => ?_); go_simp; refine hK _ _ ?_; clear hK K; try clear Q')
  refine wpList_nil ?_
  show Code.wp _ _ _ _ _
  refine wp_block ?_
  -- stops at: loop
  go_loopw [7] (fun v7 wr => ∃ (j bst : Nat) (H1 : GH), j ≤ l0.length ∧ Hid (bst = Rw.leastAt kf (t0 :: l0) t0.x j) ∧ v7 = .int .i64 ((j : Int) + 1) ∧ H.le H1 ∧ St w H m (c + j) d wr H1 [(w.heap.size, .cells #[mV m] 25), (w1.heap.size, .cells #[.slice (some ⟨b9, o9, none⟩) ks.length cap9] 107), (w2.heap.size, .cells #[.int .i64 (bst : Int)] 3)] []) (fun v7 _ => l0.length + 1 - (intOf v7).toNat)
  case atStart => exact ⟨0, 0, H, by omega, rfl, rfl, GH.le_refl _, by simpa using h4⟩
  case round =>
    obtain ⟨j, bst, H1, hj, hb, rfl, hle1, hs⟩ := hrel
    by_cases hlt : j < l0.length
    · have hbj : bst < ks.length := by have := hb.out; have := Rw.leastAt_le kf (t0 :: l0) t0.x j; have := hkl.out; omega
      have hj1 : j + 1 < ks.length := by have := hkl.out; omega
      obtain ⟨j1, hj1e⟩ : ∃ j1, Hid (j + 1 = j1) := ⟨_, show _ = _ from rfl⟩
      have ei : ((j : Int) + 1) = (j1 : Int) := by have := hj1e.out; omega
      have hj1' : j1 < ks.length := by have := hj1e.out; omega
      have e8 : IntKind.i64.wrap ((j1 : Int) + 1) = (j1 : Int) + 1 := IntWalk.i64_in _ (by omega)
      obtain ⟨pX, hpX⟩ : ∃ p, ks[j1]? = some p := ⟨ks[j1]'(by omega), by simp⟩
      obtain ⟨tX, htX⟩ : ∃ t, (t0 :: l0)[j1]? = some t := ⟨(t0 :: l0)[j1]'(by have := hkl.out; simp; omega), by simp⟩
      have trX := hrow.2 _ _ _ hpX htX
      have gX : (ks.map Value.pointer)[j1]? = some (.pointer pX) := by simp [hpX]
      have cRX : Hid (∀ W', Fits W' H → W'.cell? ⟨b9, o9 + j1, none⟩ = some (.pointer pX)) := fun W' hF => hk.cell hF _ gX
      obtain ⟨pY, hpY⟩ : ∃ p, ks[bst]? = some p := ⟨ks[bst]'(by omega), by simp⟩
      obtain ⟨tY, htY⟩ : ∃ t, (t0 :: l0)[bst]? = some t := ⟨(t0 :: l0)[bst]'(by have := hkl.out; simp; omega), by simp⟩
      have trY := hrow.2 _ _ _ hpY htY
      have gY : (ks.map Value.pointer)[bst]? = some (.pointer pY) := by simp [hpY]
      have cRY : Hid (∀ W', Fits W' H → W'.cell? ⟨b9, o9 + bst, none⟩ = some (.pointer pY)) := fun W' hF => hk.cell hF _ gY
      rw [ei]
      clear ei
      refine wp_seq ?_
      refine wp_seq ?_
      refine wp_region_lit ?_
      have c_1_0 := hs.cell 1 rfl 0 rfl
      iterate 4 (refine wpList_plainQ rfl (fun K Q' hK => ?_); go_simp; refine hK _ _ ?_; clear hK K; try clear Q')
      clear c_1_0
      refine wpList_nil ?_
      show Code.wp _ _ _ _ _
      -- stops at: cond
      refine wp_cond_true (rfl) ?_
      refine wp_skip ?_
      show Code.wp _ _ _ _ _
      refine wp_seq ?_
      refine wp_block ?_
      refine wp_seq ?_
      refine wp_region_lit ?_
      iterate 2 (refine wpList_plainQ rfl (fun K Q' hK => ?_); go_simp; refine hK _ _ ?_; clear hK K; try clear Q')
      -- stops at: eff:call (Go.Op.call {'callee': (Go.Callee.value (Go.Operand.tmp 15)), 'args': [(Go.Operand.tmp 16)], 'argTypes': [3]}) slot 17
      refine wpList_plainQ rfl (fun K Q' hK => ?_); go_simp
      obtain ⟨Ha, ha, la, ea⟩ := hs.settled 0 rfl
      obtain ⟨Hb, hb', lb, eb⟩ := ha.settled 0 rfl
      obtain ⟨Hc, hc, lc, ec⟩ := hb'.settled 0 rfl
      have lall := la.trans (lb.trans lc)
      refine (skahead_ok Hc _ m _ d _ _ _ b9 o9 ks.length cap9 j1 bst _ _ _ pX pY tX tY hc.pre (lc _ _ eb) ec ((lb.trans lc) _ _ ea) hj1' hbj (show _ from fun W hW => cRX.out W (hW.le (hle1.trans lall))) (show _ from fun W hW => cRY.out W (hW.le (hle1.trans lall))) (trX.mono (hle1.trans lall)) (trY.mono (hle1.trans lall))).mono ?_
      rintro e wC ⟨H2, rfl, hpC'⟩
      have hpC := hpC'.peek (c := c) (d := d) lall hs.pre.apart
      obtain ⟨lt, hltt⟩ : ∃ lt, Hid (El.lt (kf tX.x) (kf tY.x) = lt) := ⟨_, show _ = _ from rfl⟩
      rw [hltt.out]
      have h5 := hs.call hpC
      refine hK _ _ ?_; clear hK K; try clear Q'
      refine wpList_nil ?_
      show Code.wp _ _ _ _ _
      -- stops at: cond
      have hstep : Hid (Rw.leastAt kf (t0 :: l0) t0.x j1 = if lt then j1 else bst) := by
        show _ = _
        rw [← hj1e.out, Rw.leastAt_succ, ← hb.out, hj1e.out, Rw.rootAt_get _ htX, Rw.rootAt_get _ htY, hltt.out]
      cases lt with
      | true =>
        refine wp_cond_true (rfl) ?_
        refine wp_region_lit ?_
        iterate 1 (refine wpList_plainQ rfl (fun K Q' hK => ?_); go_simp; refine hK _ _ ?_; clear hK K; try clear Q')
        have c_0 := h5.cell 2 rfl 0 rfl
        have f_0 := h5.free 2 rfl 0
        refine wpList_plainQ rfl (fun K Q' hK => ?_); go_simp
        clear c_0 f_0
        refine h5.k_set 2 rfl (fun w6 h6 => ?_)
        refine hK _ _ ?_; clear hK K; try clear Q'
        refine wpList_nil ?_
        show Code.wp _ _ _ _ _
        refine wp_region_lit ?_
        iterate 3 (refine wpList_plainQ rfl (fun K Q' hK => ?_); go_simp; refine hK _ _ ?_; clear hK K; try clear Q')
        refine wpList_nil ?_
        -- stops at: end ('roundend',)
        show _ ∧ _
        go_roundw
        case rel =>
          refine ⟨j1, j1, H1, by have := hj1e.out; omega, hstep.out.symm, rfl, hle1, ?_⟩
          rw [show c + (j1 : Int) = c + (j : Int) + 1 by have := hj1e.out; omega]
          exact h6
        case measure => simp [intOf]; have := hj1e.out; omega
      | false =>
        refine wp_cond_false (rfl) ?_
        refine wp_skip ?_
        show Code.wp _ _ _ _ _
        refine wp_region_lit ?_
        iterate 3 (refine wpList_plainQ rfl (fun K Q' hK => ?_); go_simp; refine hK _ _ ?_; clear hK K; try clear Q')
        refine wpList_nil ?_
        -- stops at: end ('roundend',)
        show _ ∧ _
        go_roundw
        case rel =>
          refine ⟨j1, bst, H1, by have := hj1e.out; omega, hstep.out.symm, rfl, hle1, ?_⟩
          rw [show c + (j1 : Int) = c + (j : Int) + 1 by have := hj1e.out; omega]
          exact h5
        case measure => simp [intOf]; have := hj1e.out; omega
    · obtain rfl : j = l0.length := by omega
      have d1 : decide ((l0.length : Int) + 1 < (ks.length : Int)) = false := decide_eq_false (by have := hkl.out; omega)
      refine wp_seq ?_
      refine wp_seq ?_
      refine wp_region_lit ?_
      have c_1_0 := hs.cell 1 rfl 0 rfl
      iterate 4 (refine wpList_plainQ rfl (fun K Q' hK => ?_); go_simp; refine hK _ _ ?_; clear hK K; try clear Q')
      clear c_1_0
      refine wpList_nil ?_
      show Code.wp _ _ _ _ _
      -- stops at: cond
      refine wp_cond_false (rfl) ?_
      refine wp_exit ?_
      show Code.wp _ _ _ _ _
      refine wp_seq ?_
      refine wp_region_lit ?_
      have c_2_0 := hs.cell 2 rfl 0 rfl
      iterate 2 (refine wpList_plainQ rfl (fun K Q' hK => ?_); go_simp; refine hK _ _ ?_; clear hK K; try clear Q')
      clear c_2_0
      refine wpList_nil ?_
      show Code.wp _ _ _ _ _
      -- stops at: ret
      refine wp_ret ?_
      go_ret
      exact ⟨H1, by rw [show Rw.least kf (t0 :: l0) = bst from hb.out.symm]; rfl, hs.post⟩
end Go.Proofs.YteigmfkkeofcaaaGreatDoor
