/-
Binomial heaps: the least root, putting in, melding, taking out, how many.
-/
import Derived.Test.YtenhjgdflgcjnaaDoorOfBino
import Derived.Test.YtenhjgdflgcjnaaDoorOdRank
namespace Go.Proofs.YtenhjgdflgcjnaaDoor
open Go Go.RowKit
set_option linter.unusedVariables false

/-- A heap as a value. -/
abbrev hV (p : Option Addr) : Value := .agg #[.pointer p]

set_option maxRecDepth 100000 in
set_option maxHeartbeats 4000000 in
theorem least_ok (H : GH) (w : World) (m : Option Nat) (c d : Int) (ks : List (Option Addr)) (kv : Value) (t0 : Tr El) (l0 : List (Tr El)) (hpre : Pre w H m c d) (hn : Rw.size (t0 :: l0) < 1000000) (hk : SliceRep H 1 kv ks.length (ks.map .pointer)) (hrow : RowR H ks (t0 :: l0)) :
    Calls Tryd.prog 24 #[mV m, kv] w fun e w' => ∃ H', e = .returned (.int .i64 (Rw.least kf (t0 :: l0) : Nat)) ∧ Post w H m w' H' (c + l0.length) d := by
  have hkl : Hid (ks.length = l0.length + 1) := by have := hrow.1; show _ = _; simpa using this
  have hlb : ks.length < 1000000 := by have := hkl.out; have := Rw.length_le (t0 :: l0); simp at this; omega
  obtain ⟨b9, o9, cap9, rfl, _, _⟩ := hk.ne_nil (by have := hkl.out; omega)
  go_enter Tryd.func24, Tryd.ntmps24
  have h0 := St.start hpre
  refine wp_seq ?_
  refine wp_region_lit ?_
  iterate 1 (refine wpList_plainQ rfl (fun K Q' hK => ?_); go_simp; refine hK _ _ ?_; clear hK K; try clear Q')
  refine wpList_nil ?_
  show Code.wp _ _ _ _ _
  refine wp_seq ?_
  refine wp_region_lit ?_
  iterate 1 (refine wpList_plainQ rfl (fun K Q' hK => ?_); go_simp; refine hK _ _ ?_; clear hK K; try clear Q')
  refine wpList_nil ?_
  show Code.wp _ _ _ _ _
  refine wp_seq ?_
  refine wp_seq ?_
  refine wp_region_lit ?_
  iterate 1 (refine wpList_plainQ rfl (fun K Q' hK => ?_); go_simp; refine hK _ _ ?_; clear hK K; try clear Q')
  refine wpList_nil ?_
  show Code.wp _ _ _ _ _
  refine wp_block ?_
  -- stops at: loop
  go_loopw [5, 6] (fun v5 v6 wr => ∃ (j bst : Nat) (H1 : GH), j ≤ l0.length ∧ Hid (bst = Rw.leastAt kf (t0 :: l0) t0.x j) ∧ v5 = .int .i64 bst ∧ v6 = .int .i64 ((j : Int) + 1) ∧ H.le H1 ∧ St w H m (c + j) d wr H1 [] []) (fun _ v6 _ => l0.length + 1 - (intOf v6).toNat)
  case atStart => exact ⟨0, 0, H, by omega, rfl, rfl, rfl, GH.le_refl _, by simpa using h0⟩
  case round =>
    obtain ⟨j, bst, H1, hj, hb, rfl, rfl, hle1, hs⟩ := hrel
    by_cases hlt : j < l0.length
    · have hbj : bst < ks.length := by have := hb.out; have := Rw.leastAt_le kf (t0 :: l0) t0.x j; have := hkl.out; omega
      have hj1 : j + 1 < ks.length := by have := hkl.out; omega
      obtain ⟨nn, hnn⟩ : ∃ nn, Hid (ks.length = nn) := ⟨_, show _ = _ from rfl⟩
      obtain ⟨j1, hj1e⟩ : ∃ j1, Hid (j + 1 = j1) := ⟨_, show _ = _ from rfl⟩
      have ei : ((j : Int) + 1) = (j1 : Int) := by have := hj1e.out; omega
      have hj1' : j1 < ks.length := by have := hj1e.out; omega
      have e8 : IntKind.i64.wrap ((j1 : Int) + 1) = (j1 : Int) + 1 := IntWalk.i64_in _ (by omega)
      obtain ⟨pX, hpX⟩ : ∃ p, ks[j1]? = some p := ⟨ks[j1]'(by omega), by simp⟩
      obtain ⟨tX, htX⟩ : ∃ t, (t0 :: l0)[j1]? = some t := ⟨(t0 :: l0)[j1]'(by have := hkl.out; simp; omega), by simp⟩
      have trX := hrow.2 _ _ _ hpX htX
      have gX : (ks.map Value.pointer)[j1]? = some (.pointer pX) := by simp [hpX]
      have cRX : Hid (∀ W', Fits W' H → W'.cell? ⟨b9, o9 + j1, none⟩ = some (.pointer pX)) := fun W' hF => hk.cell hF _ gX
      obtain ⟨pY, hpY⟩ : ∃ p, ks[bst]? = some p := ⟨ks[bst]'(by omega), by simp⟩
      obtain ⟨tY, htY⟩ : ∃ t, (t0 :: l0)[bst]? = some t := ⟨(t0 :: l0)[bst]'(by have := hkl.out; simp; omega), by simp⟩
      have trY := hrow.2 _ _ _ hpY htY
      have gY : (ks.map Value.pointer)[bst]? = some (.pointer pY) := by simp [hpY]
      have cRY : Hid (∀ W', Fits W' H → W'.cell? ⟨b9, o9 + bst, none⟩ = some (.pointer pY)) := fun W' hF => hk.cell hF _ gY
      rw [ei]
      clear ei
      refine wp_seq ?_
      refine wp_seq ?_
      refine wp_region_lit ?_
      iterate 4 (refine wpList_plainQ rfl (fun K Q' hK => ?_); go_simp; refine hK _ _ ?_; clear hK K; try clear Q')
      refine wpList_nil ?_
      show Code.wp _ _ _ _ _
      -- stops at: cond
      refine wp_cond_true (rfl) ?_
      refine wp_skip ?_
      show Code.wp _ _ _ _ _
      refine wp_seq ?_
      refine wp_block ?_
      refine wp_seq ?_
      refine wp_region_lit ?_
      iterate 3 (refine wpList_plainQ rfl (fun K Q' hK => ?_); go_simp; refine hK _ _ ?_; clear hK K; try clear Q')
      -- stops at: load (Go.Op.load 63 (Go.Operand.tmp 20)) slot 21
      have ce := cRX.out _ (hs.fits.le hle1)
      iterate 1 (refine wpList_plainQ rfl (fun K Q' hK => ?_); go_simp; refine hK _ _ ?_; clear hK K; try clear Q')
      clear ce
      -- stops at: eff:call (Go.Op.call {'callee': (Go.Callee.value (Go.Operand.func 30)), 'args': [(Go.Operand.tmp 21)], 'argTypes': [63]}) slot 22
      refine wpList_plainQ rfl (fun K Q' hK => ?_); go_simp
      refine (root_ok H1 _ pX tX hs.fits (trX.mono hle1)).mono ?_
      rintro e wA ⟨rfl, hkA⟩
      have h1 := hs.callk hkA
      refine hK _ _ ?_; clear hK K; try clear Q'
      iterate 3 (refine wpList_plainQ rfl (fun K Q' hK => ?_); go_simp; refine hK _ _ ?_; clear hK K; try clear Q')
      refine wpList_plainQ rfl (fun K Q' hK => ?_); go_simp
      refine h1.k_alloc (fun w2 h2 => ?_)
      refine hK _ _ ?_; clear hK K; try clear Q'
      have c_0 := h2.cell 0 rfl 0 rfl
      have f_0 := h2.free 0 rfl 0
      have c_1 := h2.cell 0 rfl 1 rfl
      have f_1 := h2.free 0 rfl 1
      refine wpList_plainQ rfl (fun K Q' hK => ?_); go_simp
      clear c_0 f_0 c_1 f_1
      refine (h2.set (i := 0) rfl 0 _).k_set 0 rfl (fun w3 h3 => ?_)
      refine hK _ _ ?_; clear hK K; try clear Q'
      iterate 1 (refine wpList_plainQ rfl (fun K Q' hK => ?_); go_simp; refine hK _ _ ?_; clear hK K; try clear Q')
      refine wpList_nil ?_
      show Code.wp _ _ _ _ _
      refine wp_seq ?_
      refine wp_region_lit ?_
      iterate 3 (refine wpList_plainQ rfl (fun K Q' hK => ?_); go_simp; refine hK _ _ ?_; clear hK K; try clear Q')
      -- stops at: load (Go.Op.load 63 (Go.Operand.tmp 28)) slot 29
      have ce := cRY.out _ (h3.fits.le hle1)
      iterate 1 (refine wpList_plainQ rfl (fun K Q' hK => ?_); go_simp; refine hK _ _ ?_; clear hK K; try clear Q')
      clear ce
      -- stops at: eff:call (Go.Op.call {'callee': (Go.Callee.value (Go.Operand.func 30)), 'args': [(Go.Operand.tmp 29)], 'argTypes': [63]}) slot 30
      refine wpList_plainQ rfl (fun K Q' hK => ?_); go_simp
      refine (root_ok H1 _ pY tY h3.fits (trY.mono hle1)).mono ?_
      rintro e wB ⟨rfl, hkB⟩
      have h4 := h3.callk hkB
      refine hK _ _ ?_; clear hK K; try clear Q'
      iterate 3 (refine wpList_plainQ rfl (fun K Q' hK => ?_); go_simp; refine hK _ _ ?_; clear hK K; try clear Q')
      refine wpList_plainQ rfl (fun K Q' hK => ?_); go_simp
      refine h4.k_alloc (fun w5 h5 => ?_)
      refine hK _ _ ?_; clear hK K; try clear Q'
      have c_0 := h5.cell 1 rfl 0 rfl
      have f_0 := h5.free 1 rfl 0
      have c_1 := h5.cell 1 rfl 1 rfl
      have f_1 := h5.free 1 rfl 1
      refine wpList_plainQ rfl (fun K Q' hK => ?_); go_simp
      clear c_0 f_0 c_1 f_1
      refine (h5.set (i := 1) rfl 0 _).k_set 1 rfl (fun w6 h6 => ?_)
      refine hK _ _ ?_; clear hK K; try clear Q'
      iterate 1 (refine wpList_plainQ rfl (fun K Q' hK => ?_); go_simp; refine hK _ _ ?_; clear hK K; try clear Q')
      refine wpList_nil ?_
      show Code.wp _ _ _ _ _
      refine wp_seq ?_
      refine wp_region_lit ?_
      have c_0_0 := h6.cell 0 rfl 0 rfl
      have c_0_1 := h6.cell 0 rfl 1 rfl
      have c_1_0 := h6.cell 1 rfl 0 rfl
      have c_1_1 := h6.cell 1 rfl 1 rfl
      iterate 3 (refine wpList_plainQ rfl (fun K Q' hK => ?_); go_simp; refine hK _ _ ?_; clear hK K; try clear Q')
      clear c_0_0 c_0_1 c_1_0 c_1_1
      -- stops at: eff:call (Go.Op.call {'callee': (Go.Callee.value (Go.Operand.func 43)), 'args': [(Go.Operand.tmp 33), (Go.Operand.tmp 34), (Go.Operand.tmp 35)], 'argTypes': [32, 35, 35] slot 36
      refine wpList_plainQ rfl (fun K Q' hK => ?_); go_simp
      refine (less_ok H1 _ m _ d (kf tX.x) (kf tY.x) h6.pre).mono ?_
      rintro e wC ⟨H2, rfl, hpC⟩
      obtain ⟨lt, hltt⟩ : ∃ lt, Hid (El.lt (kf tX.x) (kf tY.x) = lt) := ⟨_, show _ = _ from rfl⟩
      rw [hltt.out]
      have h7 := h6.call hpC
      refine hK _ _ ?_; clear hK K; try clear Q'
      refine wpList_nil ?_
      show Code.wp _ _ _ _ _
      -- stops at: cond
      have hstep : Hid (Rw.leastAt kf (t0 :: l0) t0.x j1 = if lt then j1 else bst) := by
        show _ = _
        rw [← hj1e.out, Rw.leastAt_succ, ← hb.out, hj1e.out, Rw.rootAt_get _ htX, Rw.rootAt_get _ htY, hltt.out]
      cases lt with
      | true =>
        refine wp_cond_true (rfl) ?_
        refine wp_region_lit ?_
        iterate 2 (refine wpList_plainQ rfl (fun K Q' hK => ?_); go_simp; refine hK _ _ ?_; clear hK K; try clear Q')
        refine wpList_nil ?_
        show Code.wp _ _ _ _ _
        refine wp_region_lit ?_
        iterate 3 (refine wpList_plainQ rfl (fun K Q' hK => ?_); go_simp; refine hK _ _ ?_; clear hK K; try clear Q')
        refine wpList_nil ?_
        -- stops at: end ('roundend',)
        show _ ∧ _
        go_roundw
        case rel =>
          refine ⟨j1, j1, H2, by have := hj1e.out; omega, hstep.out.symm, rfl, rfl, hle1.trans hpC.le, ?_⟩
          rw [show c + (j1 : Int) = c + (j : Int) + 1 by have := hj1e.out; omega]
          exact h7.take 0
        case measure => simp [intOf]; have := hj1e.out; omega
      | false =>
        refine wp_cond_false (rfl) ?_
        refine wp_skip ?_
        show Code.wp _ _ _ _ _
        refine wp_region_lit ?_
        iterate 3 (refine wpList_plainQ rfl (fun K Q' hK => ?_); go_simp; refine hK _ _ ?_; clear hK K; try clear Q')
        refine wpList_nil ?_
        -- stops at: end ('roundend',)
        show _ ∧ _
        go_roundw
        case rel =>
          refine ⟨j1, bst, H2, by have := hj1e.out; omega, hstep.out.symm, rfl, rfl, hle1.trans hpC.le, ?_⟩
          rw [show c + (j1 : Int) = c + (j : Int) + 1 by have := hj1e.out; omega]
          exact h7.take 0
        case measure => simp [intOf]; have := hj1e.out; omega
    · obtain rfl : j = l0.length := by omega
      have d1 : decide ((l0.length : Int) + 1 < (ks.length : Int)) = false := decide_eq_false (by have := hkl.out; omega)
      refine wp_seq ?_
      refine wp_seq ?_
      refine wp_region_lit ?_
      iterate 4 (refine wpList_plainQ rfl (fun K Q' hK => ?_); go_simp; refine hK _ _ ?_; clear hK K; try clear Q')
      refine wpList_nil ?_
      show Code.wp _ _ _ _ _
      -- stops at: cond
      refine wp_cond_false (rfl) ?_
      refine wp_exit ?_
      show Code.wp _ _ _ _ _
      refine wp_seq ?_
      refine wp_region_lit ?_
      iterate 2 (refine wpList_plainQ rfl (fun K Q' hK => ?_); go_simp; refine hK _ _ ?_; clear hK K; try clear Q')
      refine wpList_nil ?_
      show Code.wp _ _ _ _ _
      -- stops at: ret
      refine wp_ret ?_
      go_ret
      exact ⟨H1, by rw [show Rw.least kf (t0 :: l0) = bst from hb.out.symm]; rfl, hs.post⟩
end Go.Proofs.YtenhjgdflgcjnaaDoor
