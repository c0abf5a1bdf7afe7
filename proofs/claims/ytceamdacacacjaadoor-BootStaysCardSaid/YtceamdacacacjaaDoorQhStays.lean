/-
Stays: its walk.
-/
import Derived.Test.YtceamdacacacjaaDoorQbPlain
namespace Go.Proofs.YtceamdacacacjaaDoor
open Go Go.RowKit
set_option linter.unusedVariables false

/-- What holds ahead of each round. -/
def StayInv (w : World) (H : GH) (A B bM : Nat) (x : El) (Xh Xo : Hp) (rh ro : Option Addr) (vc vd : Value) (lc ld : List El) (n6 : Nat) (v17 : Value) (wr : World) : Prop :=
  ∃ (k : Nat) (c d : Int) (H' : GH), k ≤ n6 ∧ v17 = .int .i64 k ∧ TabH H' ∧ HpR H' rh Xh ∧ HpR H' ro Xo ∧ ElRep H' vc lc ∧ ElRep H' vd ld ∧
    St w H none 0 0 wr H' [(w.heap.size, .cells #[.int .i64 x.1, .int .i64 x.2] 41), (A, .cells #[.pointer rh] 26), (B, .cells #[.pointer ro] 26), (bM, meterObj c d)] []

set_option maxRecDepth 100000 in
set_option maxHeartbeats 16000000 in
theorem stays_walk (H : GH) (w : World) (v : Value) (a : List El) (u : Value) (b : List El) (x : El) (n : Int) (hf : Fits w H) (htab : TabH H) (ha : ElRep H v a) (fa : ∀ x ∈ a, El.fits x) (hb : ElRep H u b) (fb : ∀ x ∈ b, El.fits x) (fx : El.fits x) (hn : 0 ≤ n ∧ n ≤ 255) :
    Calls Tryd.prog 7 #[v, u, elV x, .int .u8 n] w fun e w' => e = .returned (.bool true) ∧ Keep none w w' := by
  have hpre : Pre w H none 0 0 := Pre.none hf 0 0
  obtain ⟨aa, ca, rfl, _, _⟩ := ha.nil_or
  obtain ⟨ab, cb, rfl, _, _⟩ := hb.nil_or
  obtain ⟨n, rfl⟩ := Int.eq_ofNat_of_zero_le hn.1
  have en : IntKind.i64.wrap (n : Int) = (n : Int) := IntWalk.i64_in _ (by omega)
  obtain ⟨k6, hk6, hk6l⟩ : ∃ k : Nat, (n : Int).tmod 6 = (k : Int) ∧ k < 6 := ⟨n % 6, rfl, Nat.mod_lt _ (by omega)⟩
  by_cases hl : a.length ≤ 40
  · have hl1 : decide ((40 : Int) < (a.length : Int)) = false := by simp; omega
    by_cases hm : b.length ≤ 40
    · have hl2 : decide ((40 : Int) < (b.length : Int)) = false := by simp; omega
      go_enter Tryd.func7, Tryd.ntmps7
      have h0 := St.start hpre
      refine wp_seq ?_
      repeat (first | simp only [List.nil_append] at h0 | simp only [List.cons_append] at h0 | simp only [List.set_cons_zero] at h0 | simp only [List.set_cons_succ] at h0 | simp only [List.eraseIdx_zero] at h0 | simp only [List.tail_cons] at h0 | simp only [List.eraseIdx_cons_zero] at h0 | simp only [List.eraseIdx_cons_succ] at h0 | simp only [List.setIfInBounds_toArray] at h0)
      refine wp_region_lit ?_
      refine wpList_plainQ rfl (fun K Q' hK => ?_); go_simp
      refine h0.k_alloc (fun w1 h1 => ?_)
      refine hK _ _ ?_; clear hK K; try clear Q'
      iterate 1 (refine wpList_plainQ rfl (fun K Q' hK => ?_); go_simp; refine hK _ _ ?_; clear hK K; try clear Q')
      refine wpList_nil ?_
      show Code.wp _ _ _ _ _
      refine wp_seq ?_
      repeat (first | simp only [List.nil_append] at h1 | simp only [List.cons_append] at h1 | simp only [List.set_cons_zero] at h1 | simp only [List.set_cons_succ] at h1 | simp only [List.eraseIdx_zero] at h1 | simp only [List.tail_cons] at h1 | simp only [List.eraseIdx_cons_zero] at h1 | simp only [List.eraseIdx_cons_succ] at h1 | simp only [List.setIfInBounds_toArray] at h1)
      refine wp_region_lit ?_
      -- stops at: eff:call (Go.Op.call {'callee': (Go.Callee.value (Go.Operand.func 13)), 'args': [], 'argTypes': []}) slot 21
      refine wpList_plainQ rfl (fun K Q' hK => ?_); go_simp
      refine (awake_ok H _ h1.fits htab).mono ?_
      rintro e wAw ⟨HAw, rfl, hpAw⟩
      have h2 := h1.call0 hpAw
      have htab_2 := htab.mono hpAw.le
      have ha_2 := ha.mono hpAw.le
      have hb_2 := hb.mono hpAw.le
      refine hK _ _ ?_; clear hK K; try clear Q'
      iterate 1 (refine wpList_plainQ rfl (fun K Q' hK => ?_); go_simp; refine hK _ _ ?_; clear hK K; try clear Q')
      refine wpList_nil ?_
      show Code.wp _ _ _ _ _
      refine wp_seq ?_
      refine wp_seq ?_
      repeat (first | simp only [List.nil_append] at h2 | simp only [List.cons_append] at h2 | simp only [List.set_cons_zero] at h2 | simp only [List.set_cons_succ] at h2 | simp only [List.eraseIdx_zero] at h2 | simp only [List.tail_cons] at h2 | simp only [List.eraseIdx_cons_zero] at h2 | simp only [List.eraseIdx_cons_succ] at h2 | simp only [List.setIfInBounds_toArray] at h2)
      refine wp_region_lit ?_
      iterate 2 (refine wpList_plainQ rfl (fun K Q' hK => ?_); go_simp; refine hK _ _ ?_; clear hK K; try clear Q')
      refine wpList_nil ?_
      show Code.wp _ _ _ _ _
      -- stops at: cond
      refine wp_cond_false (rfl) ?_
      refine wp_skip ?_
      show Code.wp _ _ _ _ _
      refine wp_seq ?_
      refine wp_seq ?_
      refine wp_region_lit ?_
      iterate 4 (refine wpList_plainQ rfl (fun K Q' hK => ?_); go_simp; refine hK _ _ ?_; clear hK K; try clear Q')
      first | go_skip | (iterate 3 (refine wpList_stepQ (o := { dst := _, op := _, type := _, pos := _, after := _, guard := some (3, false) }) (fun K Q' hK => ?_); go_simp; refine hK _ _ ?_; clear hK K; try clear Q')) | skip
      iterate 1 (refine wpList_plainQ rfl (fun K Q' hK => ?_); go_simp; refine hK _ _ ?_; clear hK K; try clear Q')
      refine wpList_nil ?_
      show Code.wp _ _ _ _ _
      -- stops at: cond
      refine wp_cond_false (rfl) ?_
      refine wp_skip ?_
      show Code.wp _ _ _ _ _
      refine wp_seq ?_
      refine wp_region_lit ?_
      iterate 1 (refine wpList_plainQ rfl (fun K Q' hK => ?_); go_simp; refine hK _ _ ?_; clear hK K; try clear Q')
      -- stops at: eff:call (Go.Op.call {'callee': (Go.Callee.value (Go.Operand.func 14)), 'args': [(Go.Operand.const (Go.Value.pointer none)), (Go.Operand.tmp 32)], 'argTypes': [36, 22]}) slot 33
      refine wpList_plainQ rfl (fun K Q' hK => ?_); go_simp
      refine (hof_ok (m := none) (xs := a) fa h2.pre (by omega) ha_2).mono ?_
      rintro e wXh ⟨rXh, HXh, rfl, hpXh, hXh⟩
      obtain ⟨Xh, eXh⟩ : ∃ hp0, Hid (Hp.ofL a = hp0) := ⟨_, show _ = _ from rfl⟩
      rw [eXh.out] at hXh
      have oXh := hXh.ok
      have pXh : Hid ((Hp.els Xh).Perm (a)) := by rw [← eXh.out]; exact Hp.els_ofL _
      have sXh : Hp.size Xh = (a).length := pXh.out.length_eq
      have h3 := h2.call0 hpXh
      have htab_3 := htab_2.mono hpXh.le
      have ha_3 := ha_2.mono hpXh.le
      have hb_3 := hb_2.mono hpXh.le
      refine hK _ _ ?_; clear hK K; try clear Q'
      refine wpList_plainQ rfl (fun K Q' hK => ?_); go_simp
      refine h3.k_alloc (fun w4 h4 => ?_)
      refine hK _ _ ?_; clear hK K; try clear Q'
      have c_0 := h4.cell 1 rfl 0 rfl
      have f_0 := h4.free 1 rfl 0
      refine wpList_plainQ rfl (fun K Q' hK => ?_); go_simp
      clear c_0 f_0
      refine h4.k_set 1 rfl (fun w5 h5 => ?_)
      refine hK _ _ ?_; clear hK K; try clear Q'
      refine wpList_nil ?_
      show Code.wp _ _ _ _ _
      refine wp_seq ?_
      repeat (first | simp only [List.nil_append] at h5 | simp only [List.cons_append] at h5 | simp only [List.set_cons_zero] at h5 | simp only [List.set_cons_succ] at h5 | simp only [List.eraseIdx_zero] at h5 | simp only [List.tail_cons] at h5 | simp only [List.eraseIdx_cons_zero] at h5 | simp only [List.eraseIdx_cons_succ] at h5 | simp only [List.setIfInBounds_toArray] at h5)
      refine wp_region_lit ?_
      iterate 1 (refine wpList_plainQ rfl (fun K Q' hK => ?_); go_simp; refine hK _ _ ?_; clear hK K; try clear Q')
      -- stops at: eff:call (Go.Op.call {'callee': (Go.Callee.value (Go.Operand.func 14)), 'args': [(Go.Operand.const (Go.Value.pointer none)), (Go.Operand.tmp 34)], 'argTypes': [36, 22]}) slot 35
      refine wpList_plainQ rfl (fun K Q' hK => ?_); go_simp
      refine (hof_ok (m := none) (xs := b) fb h5.pre (by omega) hb_3).mono ?_
      rintro e wXo ⟨rXo, HXo, rfl, hpXo, hXo⟩
      obtain ⟨Xo, eXo⟩ : ∃ hp0, Hid (Hp.ofL b = hp0) := ⟨_, show _ = _ from rfl⟩
      rw [eXo.out] at hXo
      have oXo := hXo.ok
      have pXo : Hid ((Hp.els Xo).Perm (b)) := by rw [← eXo.out]; exact Hp.els_ofL _
      have sXo : Hp.size Xo = (b).length := pXo.out.length_eq
      have h6 := h5.call0 hpXo
      have htab_6 := htab_3.mono hpXo.le
      have ha_6 := ha_3.mono hpXo.le
      have hb_6 := hb_3.mono hpXo.le
      have hXh_6 := hXh.mono hpXo.le
      refine hK _ _ ?_; clear hK K; try clear Q'
      refine wpList_plainQ rfl (fun K Q' hK => ?_); go_simp
      refine h6.k_alloc (fun w7 h7 => ?_)
      refine hK _ _ ?_; clear hK K; try clear Q'
      have c_0 := h7.cell 2 rfl 0 rfl
      have f_0 := h7.free 2 rfl 0
      refine wpList_plainQ rfl (fun K Q' hK => ?_); go_simp
      clear c_0 f_0
      refine h7.k_set 2 rfl (fun w8 h8 => ?_)
      refine hK _ _ ?_; clear hK K; try clear Q'
      refine wpList_nil ?_
      show Code.wp _ _ _ _ _
      refine wp_seq ?_
      repeat (first | simp only [List.nil_append] at h8 | simp only [List.cons_append] at h8 | simp only [List.set_cons_zero] at h8 | simp only [List.set_cons_succ] at h8 | simp only [List.eraseIdx_zero] at h8 | simp only [List.tail_cons] at h8 | simp only [List.eraseIdx_cons_zero] at h8 | simp only [List.eraseIdx_cons_succ] at h8 | simp only [List.setIfInBounds_toArray] at h8)
      refine wp_region_lit ?_
      have c_1_0 := h8.cell 1 rfl 0 rfl
      iterate 1 (refine wpList_plainQ rfl (fun K Q' hK => ?_); go_simp; refine hK _ _ ?_; clear hK K; try clear Q')
      clear c_1_0
      -- stops at: eff:call (Go.Op.call {'callee': (Go.Callee.value (Go.Operand.func 26)), 'args': [(Go.Operand.tmp 36)], 'argTypes': [26]}) slot 37
      obtain ⟨th, hth⟩ : ∃ s, Hid (Hp.text Xh = s) := ⟨_, show _ = _ from rfl⟩
      obtain ⟨to, hto⟩ : ∃ s, Hid (Hp.text Xo = s) := ⟨_, show _ = _ from rfl⟩
      refine wpList_plainQ rfl (fun K Q' hK => ?_); go_simp
      refine (hshow_ok htab_6 h8.fits (by omega) hXh_6).mono ?_
      rintro e wS1 ⟨HS1, rfl, hpS1⟩
      rw [hth.out]
      have h9 := h8.call0 hpS1
      have htab_9 := htab_6.mono hpS1.le
      have ha_9 := ha_6.mono hpS1.le
      have hb_9 := hb_6.mono hpS1.le
      have hXh_9 := hXh_6.mono hpS1.le
      have hXo_9 := hXo.mono hpS1.le
      refine hK _ _ ?_; clear hK K; try clear Q'
      iterate 1 (refine wpList_plainQ rfl (fun K Q' hK => ?_); go_simp; refine hK _ _ ?_; clear hK K; try clear Q')
      refine wpList_nil ?_
      show Code.wp _ _ _ _ _
      refine wp_seq ?_
      repeat (first | simp only [List.nil_append] at h9 | simp only [List.cons_append] at h9 | simp only [List.set_cons_zero] at h9 | simp only [List.set_cons_succ] at h9 | simp only [List.eraseIdx_zero] at h9 | simp only [List.tail_cons] at h9 | simp only [List.eraseIdx_cons_zero] at h9 | simp only [List.eraseIdx_cons_succ] at h9 | simp only [List.setIfInBounds_toArray] at h9)
      refine wp_region_lit ?_
      have c_2_0 := h9.cell 2 rfl 0 rfl
      iterate 1 (refine wpList_plainQ rfl (fun K Q' hK => ?_); go_simp; refine hK _ _ ?_; clear hK K; try clear Q')
      clear c_2_0
      -- stops at: eff:call (Go.Op.call {'callee': (Go.Callee.value (Go.Operand.func 26)), 'args': [(Go.Operand.tmp 38)], 'argTypes': [26]}) slot 39
      refine wpList_plainQ rfl (fun K Q' hK => ?_); go_simp
      refine (hshow_ok htab_9 h9.fits (by omega) hXo_9).mono ?_
      rintro e wS2 ⟨HS2, rfl, hpS2⟩
      rw [hto.out]
      have h10 := h9.call0 hpS2
      have htab_10 := htab_9.mono hpS2.le
      have ha_10 := ha_9.mono hpS2.le
      have hb_10 := hb_9.mono hpS2.le
      have hXh_10 := hXh_9.mono hpS2.le
      have hXo_10 := hXo_9.mono hpS2.le
      refine hK _ _ ?_; clear hK K; try clear Q'
      iterate 1 (refine wpList_plainQ rfl (fun K Q' hK => ?_); go_simp; refine hK _ _ ?_; clear hK K; try clear Q')
      refine wpList_nil ?_
      show Code.wp _ _ _ _ _
      refine wp_seq ?_
      repeat (first | simp only [List.nil_append] at h10 | simp only [List.cons_append] at h10 | simp only [List.set_cons_zero] at h10 | simp only [List.set_cons_succ] at h10 | simp only [List.eraseIdx_zero] at h10 | simp only [List.tail_cons] at h10 | simp only [List.eraseIdx_cons_zero] at h10 | simp only [List.eraseIdx_cons_succ] at h10 | simp only [List.setIfInBounds_toArray] at h10)
      refine wp_region_lit ?_
      have c_1_0 := h10.cell 1 rfl 0 rfl
      iterate 1 (refine wpList_plainQ rfl (fun K Q' hK => ?_); go_simp; refine hK _ _ ?_; clear hK K; try clear Q')
      clear c_1_0
      -- stops at: eff:call (Go.Op.call {'callee': (Go.Callee.value (Go.Operand.func 17)), 'args': [(Go.Operand.tmp 40), (Go.Operand.const (Go.Value.int Go.IntKind.i64 200))], 'argTypes':  slot 41
      refine wpList_plainQ rfl (fun K Q' hK => ?_); go_simp
      refine (drain_ok _ _ _ Xh 200 (by omega) (by omega) h10.fits hXh_10).mono ?_
      rintro e wDc ⟨vDc, HDc, rfl, hpDc, dDc⟩
      rw [drainL_all 200 Xh oXh (by omega), sortE_congr pXh.out] at dDc
      have h11 := h10.call0 hpDc
      have htab_11 := htab_10.mono hpDc.le
      have ha_11 := ha_10.mono hpDc.le
      have hb_11 := hb_10.mono hpDc.le
      have hXh_11 := hXh_10.mono hpDc.le
      have hXo_11 := hXo_10.mono hpDc.le
      refine hK _ _ ?_; clear hK K; try clear Q'
      iterate 1 (refine wpList_plainQ rfl (fun K Q' hK => ?_); go_simp; refine hK _ _ ?_; clear hK K; try clear Q')
      refine wpList_nil ?_
      show Code.wp _ _ _ _ _
      refine wp_seq ?_
      repeat (first | simp only [List.nil_append] at h11 | simp only [List.cons_append] at h11 | simp only [List.set_cons_zero] at h11 | simp only [List.set_cons_succ] at h11 | simp only [List.eraseIdx_zero] at h11 | simp only [List.tail_cons] at h11 | simp only [List.eraseIdx_cons_zero] at h11 | simp only [List.eraseIdx_cons_succ] at h11 | simp only [List.setIfInBounds_toArray] at h11)
      refine wp_region_lit ?_
      have c_2_0 := h11.cell 2 rfl 0 rfl
      iterate 1 (refine wpList_plainQ rfl (fun K Q' hK => ?_); go_simp; refine hK _ _ ?_; clear hK K; try clear Q')
      clear c_2_0
      -- stops at: eff:call (Go.Op.call {'callee': (Go.Callee.value (Go.Operand.func 17)), 'args': [(Go.Operand.tmp 42), (Go.Operand.const (Go.Value.int Go.IntKind.i64 200))], 'argTypes':  slot 43
      refine wpList_plainQ rfl (fun K Q' hK => ?_); go_simp
      refine (drain_ok _ _ _ Xo 200 (by omega) (by omega) h11.fits hXo_11).mono ?_
      rintro e wDd ⟨vDd, HDd, rfl, hpDd, dDd⟩
      rw [drainL_all 200 Xo oXo (by omega), sortE_congr pXo.out] at dDd
      have h12 := h11.call0 hpDd
      have htab_12 := htab_11.mono hpDd.le
      have ha_12 := ha_11.mono hpDd.le
      have hb_12 := hb_11.mono hpDd.le
      have hXh_12 := hXh_11.mono hpDd.le
      have hXo_12 := hXo_11.mono hpDd.le
      have dDc_12 := dDc.mono hpDd.le
      refine hK _ _ ?_; clear hK K; try clear Q'
      iterate 1 (refine wpList_plainQ rfl (fun K Q' hK => ?_); go_simp; refine hK _ _ ?_; clear hK K; try clear Q')
      refine wpList_nil ?_
      show Code.wp _ _ _ _ _
      refine wp_seq ?_
      repeat (first | simp only [List.nil_append] at h12 | simp only [List.cons_append] at h12 | simp only [List.set_cons_zero] at h12 | simp only [List.set_cons_succ] at h12 | simp only [List.eraseIdx_zero] at h12 | simp only [List.tail_cons] at h12 | simp only [List.eraseIdx_cons_zero] at h12 | simp only [List.eraseIdx_cons_succ] at h12 | simp only [List.setIfInBounds_toArray] at h12)
      refine wp_region_lit ?_
      -- stops at: eff:call (Go.Op.call {'callee': (Go.Callee.value (Go.Operand.func 22)), 'args': [], 'argTypes': []}) slot 44
      refine wpList_plainQ rfl (fun K Q' hK => ?_); go_simp
      refine (new_ok _ _ h12.fits).mono ?_
      rintro e wM ⟨bM, rfl, hkM, hbM, hoM⟩
      have hM := h12.callnew hkM hbM hoM rfl
      refine hK _ _ ?_; clear hK K; try clear Q'
      iterate 1 (refine wpList_plainQ rfl (fun K Q' hK => ?_); go_simp; refine hK _ _ ?_; clear hK K; try clear Q')
      refine wpList_nil ?_
      show Code.wp _ _ _ _ _
      refine wp_seq ?_
      refine wp_seq ?_
      repeat (first | simp only [List.nil_append] at hM | simp only [List.cons_append] at hM | simp only [List.set_cons_zero] at hM | simp only [List.set_cons_succ] at hM | simp only [List.eraseIdx_zero] at hM | simp only [List.tail_cons] at hM | simp only [List.eraseIdx_cons_zero] at hM | simp only [List.eraseIdx_cons_succ] at hM | simp only [List.setIfInBounds_toArray] at hM)
      refine wp_region_lit ?_
      iterate 1 (refine wpList_plainQ rfl (fun K Q' hK => ?_); go_simp; refine hK _ _ ?_; clear hK K; try clear Q')
      refine wpList_nil ?_
      show Code.wp _ _ _ _ _
      refine wp_block ?_
      -- stops at: loop
      repeat (first | simp only [List.nil_append] at hM | simp only [List.cons_append] at hM | simp only [List.set_cons_zero] at hM | simp only [List.set_cons_succ] at hM | simp only [List.eraseIdx_zero] at hM | simp only [List.tail_cons] at hM | simp only [List.eraseIdx_cons_zero] at hM | simp only [List.eraseIdx_cons_succ] at hM | simp only [List.setIfInBounds_toArray] at hM)
      go_loopw [17] (fun v17 wr => StayInv w H wXh.heap.size wXo.heap.size bM x Xh Xo rXh rXo vDc vDd (sortE a) (sortE b) k6 v17 wr) (fun v17 _ => k6 - (intOf v17).toNat)
      case atStart =>
        show StayInv _ _ _ _ _ _ _ _ _ _ _ _ _ _ _ _ _
        unfold StayInv
        exact ⟨0, 0, 0, _, by omega, rfl, htab_12, hXh_12, hXo_12, dDc_12, dDd, hM⟩
      case round =>
        obtain ⟨k, mc, md, H7, hk, rfl, htab7, hYh, hYo, dYc, dYd, hs⟩ := hrel
        by_cases hlt : k < k6
        · have e1 : IntKind.i64.wrap ((k : Int) + 1) = (k : Int) + 1 := IntWalk.i64_in _ (by omega)
          refine wp_seq ?_
          refine wp_seq ?_
          repeat (first | simp only [List.nil_append] at hs | simp only [List.cons_append] at hs | simp only [List.set_cons_zero] at hs | simp only [List.set_cons_succ] at hs | simp only [List.eraseIdx_zero] at hs | simp only [List.tail_cons] at hs | simp only [List.eraseIdx_cons_zero] at hs | simp only [List.eraseIdx_cons_succ] at hs | simp only [List.setIfInBounds_toArray] at hs)
          refine wp_region_lit ?_
          iterate 5 (refine wpList_plainQ rfl (fun K Q' hK => ?_); go_simp; refine hK _ _ ?_; clear hK K; try clear Q')
          refine wpList_nil ?_
          show Code.wp _ _ _ _ _
          -- stops at: cond
          refine wp_cond_true (rfl) ?_
          refine wp_skip ?_
          show Code.wp _ _ _ _ _
          refine wp_seq ?_
          refine wp_block ?_
          refine wp_seq ?_
          refine wp_region_lit ?_
          have c_1_0 := hs.cell 1 rfl 0 rfl
          have c_2_0 := hs.cell 2 rfl 0 rfl
          iterate 3 (refine wpList_plainQ rfl (fun K Q' hK => ?_); go_simp; refine hK _ _ ?_; clear hK K; try clear Q')
          clear c_1_0 c_2_0
          -- stops at: eff:call (Go.Op.call {'callee': (Go.Callee.value (Go.Operand.func 15)), 'args': [(Go.Operand.tmp 52), (Go.Operand.tmp 53), (Go.Operand.tmp 54)], 'argTypes': [26, 36, 26] slot 55
          refine wpList_plainQ rfl (fun K Q' hK => ?_); go_simp
          refine (hmeld_ok (m := some bM) (hs.pre_at (i := 3) rfl) (by omega) hYh hYo).mono ?_
          rintro e wGa ⟨rGa, HGa, rfl, hpGa, hGa⟩
          have sGa : Hp.size (Hp.meld Xh Xo) = _ := Hp.size_meld hYh.ok hYo.ok
          obtain ⟨Ga, eGa⟩ : ∃ hp0, Hid (Hp.meld Xh Xo = hp0) := ⟨_, show _ = _ from rfl⟩
          rw [eGa.out] at hGa
          have oGa := hGa.ok
          rw [eGa.out] at sGa
          have h13 := hs.call_at (i := 3) rfl hpGa
          have htab7_13 := htab7.mono hpGa.le
          have hYh_13 := hYh.mono hpGa.le
          have hYo_13 := hYo.mono hpGa.le
          have dYc_13 := dYc.mono hpGa.le
          have dYd_13 := dYd.mono hpGa.le
          refine hK _ _ ?_; clear hK K; try clear Q'
          refine wpList_plainQ rfl (fun K Q' hK => ?_); go_simp
          refine h13.k_alloc (fun w14 h14 => ?_)
          refine hK _ _ ?_; clear hK K; try clear Q'
          have c_0 := h14.cell 4 rfl 0 rfl
          have f_0 := h14.free 4 rfl 0
          refine wpList_plainQ rfl (fun K Q' hK => ?_); go_simp
          clear c_0 f_0
          refine h14.k_set 4 rfl (fun w15 h15 => ?_)
          refine hK _ _ ?_; clear hK K; try clear Q'
          refine wpList_nil ?_
          show Code.wp _ _ _ _ _
          refine wp_seq ?_
          repeat (first | simp only [List.nil_append] at h15 | simp only [List.cons_append] at h15 | simp only [List.set_cons_zero] at h15 | simp only [List.set_cons_succ] at h15 | simp only [List.eraseIdx_zero] at h15 | simp only [List.tail_cons] at h15 | simp only [List.eraseIdx_cons_zero] at h15 | simp only [List.eraseIdx_cons_succ] at h15 | simp only [List.setIfInBounds_toArray] at h15)
          refine wp_region_lit ?_
          have c_4_0 := h15.cell 4 rfl 0 rfl
          have c_0_0 := h15.cell 0 rfl 0 rfl
          have c_0_1 := h15.cell 0 rfl 1 rfl
          iterate 3 (refine wpList_plainQ rfl (fun K Q' hK => ?_); go_simp; refine hK _ _ ?_; clear hK K; try clear Q')
          clear c_4_0 c_0_0 c_0_1
          -- stops at: eff:call (Go.Op.call {'callee': (Go.Callee.value (Go.Operand.func 23)), 'args': [(Go.Operand.tmp 56), (Go.Operand.tmp 57), (Go.Operand.tmp 58)], 'argTypes': [26, 36, 41] slot 59
          refine wpList_plainQ rfl (fun K Q' hK => ?_); go_simp
          refine (hinsert_ok (m := some bM) x fx (h15.pre_at (i := 3) rfl) (by omega) hGa).mono ?_
          rintro e wGb ⟨rGb, HGb, rfl, hpGb, hGb⟩
          have sGb : Hp.size (Hp.insert x Ga) = _ := Hp.size_insert x hGa.ok
          obtain ⟨Gb, eGb⟩ : ∃ hp0, Hid (Hp.insert x Ga = hp0) := ⟨_, show _ = _ from rfl⟩
          rw [eGb.out] at hGb
          have oGb := hGb.ok
          rw [eGb.out] at sGb
          have h16 := h15.call_at (i := 3) rfl hpGb
          have htab7_16 := htab7_13.mono hpGb.le
          have hYh_16 := hYh_13.mono hpGb.le
          have hYo_16 := hYo_13.mono hpGb.le
          have dYc_16 := dYc_13.mono hpGb.le
          have dYd_16 := dYd_13.mono hpGb.le
          have hGa_16 := hGa.mono hpGb.le
          refine hK _ _ ?_; clear hK K; try clear Q'
          have c_0 := h16.cell 4 rfl 0 rfl
          have f_0 := h16.free 4 rfl 0
          refine wpList_plainQ rfl (fun K Q' hK => ?_); go_simp
          clear c_0 f_0
          refine h16.k_set 4 rfl (fun w17 h17 => ?_)
          refine hK _ _ ?_; clear hK K; try clear Q'
          refine wpList_nil ?_
          show Code.wp _ _ _ _ _
          refine wp_seq ?_
          repeat (first | simp only [List.nil_append] at h17 | simp only [List.cons_append] at h17 | simp only [List.set_cons_zero] at h17 | simp only [List.set_cons_succ] at h17 | simp only [List.eraseIdx_zero] at h17 | simp only [List.tail_cons] at h17 | simp only [List.eraseIdx_cons_zero] at h17 | simp only [List.eraseIdx_cons_succ] at h17 | simp only [List.setIfInBounds_toArray] at h17)
          refine wp_region_lit ?_
          have c_4_0 := h17.cell 4 rfl 0 rfl
          iterate 2 (refine wpList_plainQ rfl (fun K Q' hK => ?_); go_simp; refine hK _ _ ?_; clear hK K; try clear Q')
          clear c_4_0
          -- stops at: eff:call (Go.Op.call {'callee': (Go.Callee.value (Go.Operand.func 25)), 'args': [(Go.Operand.tmp 61), (Go.Operand.tmp 62)], 'argTypes': [26, 36]}) slot 63
          refine wpList_plainQ rfl (fun K Q' hK => ?_); go_simp
          refine (hpop_ok (m := some bM) (h17.pre_at (i := 3) rfl) (by omega) hGb).mono ?_
          rintro e wKa ⟨rKa, HKa, rfl, hpKa, hKa⟩
          have sKa : Hp.size (Hp.pop Gb) ≤ _ := Hp.size_pop hGb.ok
          obtain ⟨Ka, eKa⟩ : ∃ hp0, Hid (Hp.pop Gb = hp0) := ⟨_, show _ = _ from rfl⟩
          rw [eKa.out] at hKa
          have oKa := hKa.ok
          rw [eKa.out] at sKa
          have h18 := h17.call_at (i := 3) rfl hpKa
          have htab7_18 := htab7_16.mono hpKa.le
          have hYh_18 := hYh_16.mono hpKa.le
          have hYo_18 := hYo_16.mono hpKa.le
          have dYc_18 := dYc_16.mono hpKa.le
          have dYd_18 := dYd_16.mono hpKa.le
          have hGa_18 := hGa_16.mono hpKa.le
          have hGb_18 := hGb.mono hpKa.le
          refine hK _ _ ?_; clear hK K; try clear Q'
          iterate 3 (refine wpList_plainQ rfl (fun K Q' hK => ?_); go_simp; refine hK _ _ ?_; clear hK K; try clear Q')
          refine wpList_plainQ rfl (fun K Q' hK => ?_); go_simp
          refine h18.k_alloc (fun w19 h19 => ?_)
          refine hK _ _ ?_; clear hK K; try clear Q'
          have c_0 := h19.cell 5 rfl 0 rfl
          have f_0 := h19.free 5 rfl 0
          refine wpList_plainQ rfl (fun K Q' hK => ?_); go_simp
          clear c_0 f_0
          refine h19.k_set 5 rfl (fun w20 h20 => ?_)
          refine hK _ _ ?_; clear hK K; try clear Q'
          iterate 1 (refine wpList_plainQ rfl (fun K Q' hK => ?_); go_simp; refine hK _ _ ?_; clear hK K; try clear Q')
          refine wpList_nil ?_
          show Code.wp _ _ _ _ _
          refine wp_seq ?_
          repeat (first | simp only [List.nil_append] at h20 | simp only [List.cons_append] at h20 | simp only [List.set_cons_zero] at h20 | simp only [List.set_cons_succ] at h20 | simp only [List.eraseIdx_zero] at h20 | simp only [List.tail_cons] at h20 | simp only [List.eraseIdx_cons_zero] at h20 | simp only [List.eraseIdx_cons_succ] at h20 | simp only [List.setIfInBounds_toArray] at h20)
          refine wp_region_lit ?_
          have c_5_0 := h20.cell 5 rfl 0 rfl
          iterate 2 (refine wpList_plainQ rfl (fun K Q' hK => ?_); go_simp; refine hK _ _ ?_; clear hK K; try clear Q')
          clear c_5_0
          -- stops at: eff:call (Go.Op.call {'callee': (Go.Callee.value (Go.Operand.func 25)), 'args': [(Go.Operand.tmp 67), (Go.Operand.tmp 68)], 'argTypes': [26, 36]}) slot 69
          refine wpList_plainQ rfl (fun K Q' hK => ?_); go_simp
          refine (hpop_ok (m := some bM) (h20.pre_at (i := 3) rfl) (by omega) hKa).mono ?_
          rintro e wKb ⟨rKb, HKb, rfl, hpKb, hKb⟩
          have sKb : Hp.size (Hp.pop Ka) ≤ _ := Hp.size_pop hKa.ok
          obtain ⟨Kb, eKb⟩ : ∃ hp0, Hid (Hp.pop Ka = hp0) := ⟨_, show _ = _ from rfl⟩
          rw [eKb.out] at hKb
          have oKb := hKb.ok
          rw [eKb.out] at sKb
          have h21 := h20.call_at (i := 3) rfl hpKb
          have htab7_21 := htab7_18.mono hpKb.le
          have hYh_21 := hYh_18.mono hpKb.le
          have hYo_21 := hYo_18.mono hpKb.le
          have dYc_21 := dYc_18.mono hpKb.le
          have dYd_21 := dYd_18.mono hpKb.le
          have hGa_21 := hGa_18.mono hpKb.le
          have hGb_21 := hGb_18.mono hpKb.le
          have hKa_21 := hKa.mono hpKb.le
          refine hK _ _ ?_; clear hK K; try clear Q'
          iterate 3 (refine wpList_plainQ rfl (fun K Q' hK => ?_); go_simp; refine hK _ _ ?_; clear hK K; try clear Q')
          have c_0 := h21.cell 5 rfl 0 rfl
          have f_0 := h21.free 5 rfl 0
          refine wpList_plainQ rfl (fun K Q' hK => ?_); go_simp
          clear c_0 f_0
          refine h21.k_set 5 rfl (fun w22 h22 => ?_)
          refine hK _ _ ?_; clear hK K; try clear Q'
          refine wpList_nil ?_
          show Code.wp _ _ _ _ _
          refine wp_seq ?_
          repeat (first | simp only [List.nil_append] at h22 | simp only [List.cons_append] at h22 | simp only [List.set_cons_zero] at h22 | simp only [List.set_cons_succ] at h22 | simp only [List.eraseIdx_zero] at h22 | simp only [List.tail_cons] at h22 | simp only [List.eraseIdx_cons_zero] at h22 | simp only [List.eraseIdx_cons_succ] at h22 | simp only [List.setIfInBounds_toArray] at h22)
          refine wp_region_lit ?_
          have c_5_0 := h22.cell 5 rfl 0 rfl
          have c_1_0 := h22.cell 1 rfl 0 rfl
          iterate 3 (refine wpList_plainQ rfl (fun K Q' hK => ?_); go_simp; refine hK _ _ ?_; clear hK K; try clear Q')
          clear c_5_0 c_1_0
          -- stops at: eff:call (Go.Op.call {'callee': (Go.Callee.value (Go.Operand.func 15)), 'args': [(Go.Operand.tmp 72), (Go.Operand.tmp 73), (Go.Operand.tmp 74)], 'argTypes': [26, 36, 26] slot 75
          refine wpList_plainQ rfl (fun K Q' hK => ?_); go_simp
          refine (hmeld_ok (m := some bM) (h22.pre_at (i := 3) rfl) (by omega) hKb hYh_21).mono ?_
          rintro e wKc ⟨rKc, HKc, rfl, hpKc, hKc⟩
          have sKc : Hp.size (Hp.meld Kb Xh) = _ := Hp.size_meld hKb.ok hYh.ok
          obtain ⟨Kc, eKc⟩ : ∃ hp0, Hid (Hp.meld Kb Xh = hp0) := ⟨_, show _ = _ from rfl⟩
          rw [eKc.out] at hKc
          have oKc := hKc.ok
          rw [eKc.out] at sKc
          have h23 := h22.call_at (i := 3) rfl hpKc
          have htab7_23 := htab7_21.mono hpKc.le
          have hYh_23 := hYh_21.mono hpKc.le
          have hYo_23 := hYo_21.mono hpKc.le
          have dYc_23 := dYc_21.mono hpKc.le
          have dYd_23 := dYd_21.mono hpKc.le
          have hGa_23 := hGa_21.mono hpKc.le
          have hGb_23 := hGb_21.mono hpKc.le
          have hKa_23 := hKa_21.mono hpKc.le
          have hKb_23 := hKb.mono hpKc.le
          refine hK _ _ ?_; clear hK K; try clear Q'
          have c_0 := h23.cell 5 rfl 0 rfl
          have f_0 := h23.free 5 rfl 0
          refine wpList_plainQ rfl (fun K Q' hK => ?_); go_simp
          clear c_0 f_0
          refine h23.k_set 5 rfl (fun w24 h24 => ?_)
          refine hK _ _ ?_; clear hK K; try clear Q'
          refine wpList_nil ?_
          show Code.wp _ _ _ _ _
          refine wp_seq ?_
          repeat (first | simp only [List.nil_append] at h24 | simp only [List.cons_append] at h24 | simp only [List.set_cons_zero] at h24 | simp only [List.set_cons_succ] at h24 | simp only [List.eraseIdx_zero] at h24 | simp only [List.tail_cons] at h24 | simp only [List.eraseIdx_cons_zero] at h24 | simp only [List.eraseIdx_cons_succ] at h24 | simp only [List.setIfInBounds_toArray] at h24)
          refine wp_region_lit ?_
          have c_1_0 := h24.cell 1 rfl 0 rfl
          have c_0_0 := h24.cell 0 rfl 0 rfl
          have c_0_1 := h24.cell 0 rfl 1 rfl
          iterate 3 (refine wpList_plainQ rfl (fun K Q' hK => ?_); go_simp; refine hK _ _ ?_; clear hK K; try clear Q')
          clear c_1_0 c_0_0 c_0_1
          -- stops at: eff:call (Go.Op.call {'callee': (Go.Callee.value (Go.Operand.func 23)), 'args': [(Go.Operand.tmp 76), (Go.Operand.tmp 77), (Go.Operand.tmp 78)], 'argTypes': [26, 36, 41] slot 79
          refine wpList_plainQ rfl (fun K Q' hK => ?_); go_simp
          refine (hinsert_ok (m := some bM) x fx (h24.pre_at (i := 3) rfl) (by omega) hYh_23).mono ?_
          rintro e wJa ⟨rJa, HJa, rfl, hpJa, hJa⟩
          have sJa : Hp.size (Hp.insert x Xh) = _ := Hp.size_insert x hYh.ok
          obtain ⟨Ja, eJa⟩ : ∃ hp0, Hid (Hp.insert x Xh = hp0) := ⟨_, show _ = _ from rfl⟩
          rw [eJa.out] at hJa
          have oJa := hJa.ok
          rw [eJa.out] at sJa
          have h25 := h24.call_at (i := 3) rfl hpJa
          have htab7_25 := htab7_23.mono hpJa.le
          have hYh_25 := hYh_23.mono hpJa.le
          have hYo_25 := hYo_23.mono hpJa.le
          have dYc_25 := dYc_23.mono hpJa.le
          have dYd_25 := dYd_23.mono hpJa.le
          have hGa_25 := hGa_23.mono hpJa.le
          have hGb_25 := hGb_23.mono hpJa.le
          have hKa_25 := hKa_23.mono hpJa.le
          have hKb_25 := hKb_23.mono hpJa.le
          have hKc_25 := hKc.mono hpJa.le
          refine hK _ _ ?_; clear hK K; try clear Q'
          refine wpList_nil ?_
          show Code.wp _ _ _ _ _
          refine wp_seq ?_
          repeat (first | simp only [List.nil_append] at h25 | simp only [List.cons_append] at h25 | simp only [List.set_cons_zero] at h25 | simp only [List.set_cons_succ] at h25 | simp only [List.eraseIdx_zero] at h25 | simp only [List.tail_cons] at h25 | simp only [List.eraseIdx_cons_zero] at h25 | simp only [List.eraseIdx_cons_succ] at h25 | simp only [List.setIfInBounds_toArray] at h25)
          refine wp_region_lit ?_
          have c_2_0 := h25.cell 2 rfl 0 rfl
          iterate 2 (refine wpList_plainQ rfl (fun K Q' hK => ?_); go_simp; refine hK _ _ ?_; clear hK K; try clear Q')
          clear c_2_0
          -- stops at: eff:call (Go.Op.call {'callee': (Go.Callee.value (Go.Operand.func 25)), 'args': [(Go.Operand.tmp 80), (Go.Operand.tmp 81)], 'argTypes': [26, 36]}) slot 82
          refine wpList_plainQ rfl (fun K Q' hK => ?_); go_simp
          refine (hpop_ok (m := some bM) (h25.pre_at (i := 3) rfl) (by omega) hYo_25).mono ?_
          rintro e wJb ⟨rJb, HJb, rfl, hpJb, hJb⟩
          have sJb : Hp.size (Hp.pop Xo) ≤ _ := Hp.size_pop hYo.ok
          obtain ⟨Jb, eJb⟩ : ∃ hp0, Hid (Hp.pop Xo = hp0) := ⟨_, show _ = _ from rfl⟩
          rw [eJb.out] at hJb
          have oJb := hJb.ok
          rw [eJb.out] at sJb
          have h26 := h25.call_at (i := 3) rfl hpJb
          have htab7_26 := htab7_25.mono hpJb.le
          have hYh_26 := hYh_25.mono hpJb.le
          have hYo_26 := hYo_25.mono hpJb.le
          have dYc_26 := dYc_25.mono hpJb.le
          have dYd_26 := dYd_25.mono hpJb.le
          have hGa_26 := hGa_25.mono hpJb.le
          have hGb_26 := hGb_25.mono hpJb.le
          have hKa_26 := hKa_25.mono hpJb.le
          have hKb_26 := hKb_25.mono hpJb.le
          have hKc_26 := hKc_25.mono hpJb.le
          have hJa_26 := hJa.mono hpJb.le
          refine hK _ _ ?_; clear hK K; try clear Q'
          refine wpList_nil ?_
          show Code.wp _ _ _ _ _
          refine wp_seq ?_
          repeat (first | simp only [List.nil_append] at h26 | simp only [List.cons_append] at h26 | simp only [List.set_cons_zero] at h26 | simp only [List.set_cons_succ] at h26 | simp only [List.eraseIdx_zero] at h26 | simp only [List.tail_cons] at h26 | simp only [List.eraseIdx_cons_zero] at h26 | simp only [List.eraseIdx_cons_succ] at h26 | simp only [List.setIfInBounds_toArray] at h26)
          refine wp_region_lit ?_
          have c_1_0 := h26.cell 1 rfl 0 rfl
          iterate 2 (refine wpList_plainQ rfl (fun K Q' hK => ?_); go_simp; refine hK _ _ ?_; clear hK K; try clear Q')
          clear c_1_0
          -- stops at: eff:call (Go.Op.call {'callee': (Go.Callee.value (Go.Operand.func 25)), 'args': [(Go.Operand.tmp 83), (Go.Operand.tmp 84)], 'argTypes': [26, 36]}) slot 85
          refine wpList_plainQ rfl (fun K Q' hK => ?_); go_simp
          refine (hpop_ok (m := some bM) (h26.pre_at (i := 3) rfl) (by omega) hYh_26).mono ?_
          rintro e wJc ⟨rJc, HJc, rfl, hpJc, hJc⟩
          have sJc : Hp.size (Hp.pop Xh) ≤ _ := Hp.size_pop hYh.ok
          obtain ⟨Jc, eJc⟩ : ∃ hp0, Hid (Hp.pop Xh = hp0) := ⟨_, show _ = _ from rfl⟩
          rw [eJc.out] at hJc
          have oJc := hJc.ok
          rw [eJc.out] at sJc
          have h27 := h26.call_at (i := 3) rfl hpJc
          have htab7_27 := htab7_26.mono hpJc.le
          have hYh_27 := hYh_26.mono hpJc.le
          have hYo_27 := hYo_26.mono hpJc.le
          have dYc_27 := dYc_26.mono hpJc.le
          have dYd_27 := dYd_26.mono hpJc.le
          have hGa_27 := hGa_26.mono hpJc.le
          have hGb_27 := hGb_26.mono hpJc.le
          have hKa_27 := hKa_26.mono hpJc.le
          have hKb_27 := hKb_26.mono hpJc.le
          have hKc_27 := hKc_26.mono hpJc.le
          have hJa_27 := hJa_26.mono hpJc.le
          have hJb_27 := hJb.mono hpJc.le
          refine hK _ _ ?_; clear hK K; try clear Q'
          refine wpList_nil ?_
          show Code.wp _ _ _ _ _
          refine wp_seq ?_
          repeat (first | simp only [List.nil_append] at h27 | simp only [List.cons_append] at h27 | simp only [List.set_cons_zero] at h27 | simp only [List.set_cons_succ] at h27 | simp only [List.eraseIdx_zero] at h27 | simp only [List.tail_cons] at h27 | simp only [List.eraseIdx_cons_zero] at h27 | simp only [List.eraseIdx_cons_succ] at h27 | simp only [List.setIfInBounds_toArray] at h27)
          refine wp_region_lit ?_
          have c_1_0 := h27.cell 1 rfl 0 rfl
          iterate 2 (refine wpList_plainQ rfl (fun K Q' hK => ?_); go_simp; refine hK _ _ ?_; clear hK K; try clear Q')
          clear c_1_0
          -- stops at: eff:call (Go.Op.call {'callee': (Go.Callee.value (Go.Operand.func 27)), 'args': [(Go.Operand.tmp 86), (Go.Operand.tmp 87)], 'argTypes': [26, 36]}) slot 88
          refine wpList_plainQ rfl (fun K Q' hK => ?_); go_simp
          refine (hmin_ok (m := some bM) (h27.pre_at (i := 3) rfl) (by omega) hYh_27).mono ?_
          rintro e wMn ⟨HMn, rfl, hpMn⟩
          have h28 := h27.call_at (i := 3) rfl hpMn
          have htab7_28 := htab7_27.mono hpMn.le
          have hYh_28 := hYh_27.mono hpMn.le
          have hYo_28 := hYo_27.mono hpMn.le
          have dYc_28 := dYc_27.mono hpMn.le
          have dYd_28 := dYd_27.mono hpMn.le
          have hGa_28 := hGa_27.mono hpMn.le
          have hGb_28 := hGb_27.mono hpMn.le
          have hKa_28 := hKa_27.mono hpMn.le
          have hKb_28 := hKb_27.mono hpMn.le
          have hKc_28 := hKc_27.mono hpMn.le
          have hJa_28 := hJa_27.mono hpMn.le
          have hJb_28 := hJb_27.mono hpMn.le
          have hJc_28 := hJc.mono hpMn.le
          refine hK _ _ ?_; clear hK K; try clear Q'
          refine wpList_nil ?_
          show Code.wp _ _ _ _ _
          repeat (first | simp only [List.nil_append] at h28 | simp only [List.cons_append] at h28 | simp only [List.set_cons_zero] at h28 | simp only [List.set_cons_succ] at h28 | simp only [List.eraseIdx_zero] at h28 | simp only [List.tail_cons] at h28 | simp only [List.eraseIdx_cons_zero] at h28 | simp only [List.eraseIdx_cons_succ] at h28 | simp only [List.setIfInBounds_toArray] at h28)
          refine wp_region_lit ?_
          have c_5_0 := h28.cell 5 rfl 0 rfl
          iterate 1 (refine wpList_plainQ rfl (fun K Q' hK => ?_); go_simp; refine hK _ _ ?_; clear hK K; try clear Q')
          clear c_5_0
          -- stops at: eff:call (Go.Op.call {'callee': (Go.Callee.value (Go.Operand.func 20)), 'args': [(Go.Operand.tmp 89)], 'argTypes': [26]}) slot 90
          refine wpList_plainQ rfl (fun K Q' hK => ?_); go_simp
          refine (hsize_ok h28.fits (by omega) hKc_28).mono ?_
          rintro e wSz ⟨HSz, rfl, hpSz⟩
          have h29 := h28.call0 hpSz
          have htab7_29 := htab7_28.mono hpSz.le
          have hYh_29 := hYh_28.mono hpSz.le
          have hYo_29 := hYo_28.mono hpSz.le
          have dYc_29 := dYc_28.mono hpSz.le
          have dYd_29 := dYd_28.mono hpSz.le
          have hGa_29 := hGa_28.mono hpSz.le
          have hGb_29 := hGb_28.mono hpSz.le
          have hKa_29 := hKa_28.mono hpSz.le
          have hKb_29 := hKb_28.mono hpSz.le
          have hKc_29 := hKc_28.mono hpSz.le
          have hJa_29 := hJa_28.mono hpSz.le
          have hJb_29 := hJb_28.mono hpSz.le
          have hJc_29 := hJc_28.mono hpSz.le
          refine hK _ _ ?_; clear hK K; try clear Q'
          refine wpList_nil ?_
          show Code.wp _ _ _ _ _
          repeat (first | simp only [List.nil_append] at h29 | simp only [List.cons_append] at h29 | simp only [List.set_cons_zero] at h29 | simp only [List.set_cons_succ] at h29 | simp only [List.eraseIdx_zero] at h29 | simp only [List.tail_cons] at h29 | simp only [List.eraseIdx_cons_zero] at h29 | simp only [List.eraseIdx_cons_succ] at h29 | simp only [List.setIfInBounds_toArray] at h29)
          refine wp_region_lit ?_
          iterate 3 (refine wpList_plainQ rfl (fun K Q' hK => ?_); go_simp; refine hK _ _ ?_; clear hK K; try clear Q')
          refine wpList_nil ?_
          -- stops at: end ('roundend',)
          show _ ∧ _
          go_roundw
          case rel =>
            show StayInv _ _ _ _ _ _ _ _ _ _ _ _ _ _ _ _ _
            unfold StayInv
            exact ⟨k + 1, _, _, _, by omega, by simp, htab7_29, hYh_29, hYo_29, dYc_29, dYd_29, h29.take 4⟩
          case measure => simp [intOf]; omega
        · obtain rfl : k = k6 := by omega
          refine wp_seq ?_
          refine wp_seq ?_
          repeat (first | simp only [List.nil_append] at hs | simp only [List.cons_append] at hs | simp only [List.set_cons_zero] at hs | simp only [List.set_cons_succ] at hs | simp only [List.eraseIdx_zero] at hs | simp only [List.tail_cons] at hs | simp only [List.eraseIdx_cons_zero] at hs | simp only [List.eraseIdx_cons_succ] at hs | simp only [List.setIfInBounds_toArray] at hs)
          refine wp_region_lit ?_
          iterate 5 (refine wpList_plainQ rfl (fun K Q' hK => ?_); go_simp; refine hK _ _ ?_; clear hK K; try clear Q')
          refine wpList_nil ?_
          show Code.wp _ _ _ _ _
          -- stops at: cond
          refine wp_cond_false (rfl) ?_
          refine wp_exit ?_
          show Code.wp _ _ _ _ _
          refine wp_seq ?_
          refine wp_region_lit ?_
          have c_1_0 := hs.cell 1 rfl 0 rfl
          iterate 1 (refine wpList_plainQ rfl (fun K Q' hK => ?_); go_simp; refine hK _ _ ?_; clear hK K; try clear Q')
          clear c_1_0
          -- stops at: eff:call (Go.Op.call {'callee': (Go.Callee.value (Go.Operand.func 26)), 'args': [(Go.Operand.tmp 91)], 'argTypes': [26]}) slot 92
          refine wpList_plainQ rfl (fun K Q' hK => ?_); go_simp
          refine (hshow_ok htab7 hs.fits (by omega) hYh).mono ?_
          rintro e wS3 ⟨HS3, rfl, hpS3⟩
          rw [hth.out]
          have h30 := hs.call0 hpS3
          have htab7_30 := htab7.mono hpS3.le
          have hYh_30 := hYh.mono hpS3.le
          have hYo_30 := hYo.mono hpS3.le
          have dYc_30 := dYc.mono hpS3.le
          have dYd_30 := dYd.mono hpS3.le
          refine hK _ _ ?_; clear hK K; try clear Q'
          iterate 3 (refine wpList_plainQ rfl (fun K Q' hK => ?_); go_simp; refine hK _ _ ?_; clear hK K; try clear Q')
          have c_2_0 := h30.cell 2 rfl 0 rfl
          first | go_skip | (iterate 1 (refine wpList_stepQ (o := { dst := _, op := _, type := _, pos := _, after := _, guard := some (4, true) }) (fun K Q' hK => ?_); go_simp; refine hK _ _ ?_; clear hK K; try clear Q')) | skip
          clear c_2_0
          -- stops at: eff:call (Go.Op.call {'callee': (Go.Callee.value (Go.Operand.func 26)), 'args': [(Go.Operand.tmp 96)], 'argTypes': [26]}) slot 97
          refine wpList_stepQ (fun K Q' hK => ?_); go_simp
          refine (hshow_ok htab7_30 h30.fits (by omega) hYo_30).mono ?_
          rintro e wS4 ⟨HS4, rfl, hpS4⟩
          rw [hto.out]
          have h31 := h30.call0 hpS4
          have htab7_31 := htab7_30.mono hpS4.le
          have hYh_31 := hYh_30.mono hpS4.le
          have hYo_31 := hYo_30.mono hpS4.le
          have dYc_31 := dYc_30.mono hpS4.le
          have dYd_31 := dYd_30.mono hpS4.le
          refine hK _ _ ?_; clear hK K; try clear Q'
          first | go_skip | (iterate 2 (refine wpList_stepQ (o := { dst := _, op := _, type := _, pos := _, after := _, guard := some (4, true) }) (fun K Q' hK => ?_); go_simp; refine hK _ _ ?_; clear hK K; try clear Q')) | skip
          iterate 2 (refine wpList_plainQ rfl (fun K Q' hK => ?_); go_simp; refine hK _ _ ?_; clear hK K; try clear Q')
          have c_1_0 := h31.cell 1 rfl 0 rfl
          first | go_skip | (iterate 1 (refine wpList_stepQ (o := { dst := _, op := _, type := _, pos := _, after := _, guard := some (10, true) }) (fun K Q' hK => ?_); go_simp; refine hK _ _ ?_; clear hK K; try clear Q')) | skip
          clear c_1_0
          -- stops at: eff:call (Go.Op.call {'callee': (Go.Callee.value (Go.Operand.func 17)), 'args': [(Go.Operand.tmp 102), (Go.Operand.const (Go.Value.int Go.IntKind.i64 200))], 'argTypes': slot 103
          refine wpList_stepQ (fun K Q' hK => ?_); go_simp
          refine (drain_ok _ _ _ Xh 200 (by omega) (by omega) h31.fits hYh_31).mono ?_
          rintro e wD3 ⟨vD3, HD3, rfl, hpD3, dD3⟩
          rw [drainL_all 200 Xh oXh (by omega), sortE_congr pXh.out] at dD3
          have h32 := h31.call0 hpD3
          have htab7_32 := htab7_31.mono hpD3.le
          have hYh_32 := hYh_31.mono hpD3.le
          have hYo_32 := hYo_31.mono hpD3.le
          have dYc_32 := dYc_31.mono hpD3.le
          have dYd_32 := dYd_31.mono hpD3.le
          refine hK _ _ ?_; clear hK K; try clear Q'
          first | go_skip | (iterate 1 (refine wpList_stepQ (o := { dst := _, op := _, type := _, pos := _, after := _, guard := some (10, true) }) (fun K Q' hK => ?_); go_simp; refine hK _ _ ?_; clear hK K; try clear Q')) | skip
          -- stops at: eff:call (Go.Op.call {'callee': (Go.Callee.value (Go.Operand.func 18)), 'args': [(Go.Operand.tmp 103), (Go.Operand.tmp 104)], 'argTypes': [22, 22]}) slot 105
          refine wpList_stepQ (fun K Q' hK => ?_); go_simp
          refine (rsame_ok _ _ _ _ _ _ (by rw [sortE_length]; omega) (by rw [sortE_length]; omega) h32.fits dD3 dYc_32).mono ?_
          rintro e wE1 ⟨rfl, hkE1⟩
          rw [decide_eq_true rfl]
          have h33 := h32.callk hkE1
          refine hK _ _ ?_; clear hK K; try clear Q'
          iterate 2 (refine wpList_plainQ rfl (fun K Q' hK => ?_); go_simp; refine hK _ _ ?_; clear hK K; try clear Q')
          have c_2_0 := h33.cell 2 rfl 0 rfl
          first | go_skip | (iterate 1 (refine wpList_stepQ (o := { dst := _, op := _, type := _, pos := _, after := _, guard := some (16, true) }) (fun K Q' hK => ?_); go_simp; refine hK _ _ ?_; clear hK K; try clear Q')) | skip
          clear c_2_0
          -- stops at: eff:call (Go.Op.call {'callee': (Go.Callee.value (Go.Operand.func 17)), 'args': [(Go.Operand.tmp 108), (Go.Operand.const (Go.Value.int Go.IntKind.i64 200))], 'argTypes': slot 109
          refine wpList_stepQ (fun K Q' hK => ?_); go_simp
          refine (drain_ok _ _ _ Xo 200 (by omega) (by omega) h33.fits hYo_32).mono ?_
          rintro e wD4 ⟨vD4, HD4, rfl, hpD4, dD4⟩
          rw [drainL_all 200 Xo oXo (by omega), sortE_congr pXo.out] at dD4
          have h34 := h33.call0 hpD4
          have htab7_34 := htab7_32.mono hpD4.le
          have hYh_34 := hYh_32.mono hpD4.le
          have hYo_34 := hYo_32.mono hpD4.le
          have dYc_34 := dYc_32.mono hpD4.le
          have dYd_34 := dYd_32.mono hpD4.le
          have dD3_34 := dD3.mono hpD4.le
          refine hK _ _ ?_; clear hK K; try clear Q'
          first | go_skip | (iterate 1 (refine wpList_stepQ (o := { dst := _, op := _, type := _, pos := _, after := _, guard := some (16, true) }) (fun K Q' hK => ?_); go_simp; refine hK _ _ ?_; clear hK K; try clear Q')) | skip
          -- stops at: eff:call (Go.Op.call {'callee': (Go.Callee.value (Go.Operand.func 18)), 'args': [(Go.Operand.tmp 109), (Go.Operand.tmp 110)], 'argTypes': [22, 22]}) slot 111
          refine wpList_stepQ (fun K Q' hK => ?_); go_simp
          refine (rsame_ok _ _ _ _ _ _ (by rw [sortE_length]; omega) (by rw [sortE_length]; omega) h34.fits dD4 dYd_34).mono ?_
          rintro e wE2 ⟨rfl, hkE2⟩
          rw [decide_eq_true rfl]
          have h35 := h34.callk hkE2
          refine hK _ _ ?_; clear hK K; try clear Q'
          iterate 2 (refine wpList_plainQ rfl (fun K Q' hK => ?_); go_simp; refine hK _ _ ?_; clear hK K; try clear Q')
          refine wpList_nil ?_
          show Code.wp _ _ _ _ _
          -- stops at: ret
          refine wp_ret ?_
          go_ret
          exact ⟨rfl, h35.post.keep⟩
    · have hl2 : decide ((40 : Int) < (b.length : Int)) = true := by simp; omega
      go_enter Tryd.func7, Tryd.ntmps7
      have h0 := St.start hpre
      refine wp_seq ?_
      repeat (first | simp only [List.nil_append] at h0 | simp only [List.cons_append] at h0 | simp only [List.set_cons_zero] at h0 | simp only [List.set_cons_succ] at h0 | simp only [List.eraseIdx_zero] at h0 | simp only [List.tail_cons] at h0 | simp only [List.eraseIdx_cons_zero] at h0 | simp only [List.eraseIdx_cons_succ] at h0 | simp only [List.setIfInBounds_toArray] at h0)
      refine wp_region_lit ?_
      refine wpList_plainQ rfl (fun K Q' hK => ?_); go_simp
      refine h0.k_alloc (fun w1 h1 => ?_)
      refine hK _ _ ?_; clear hK K; try clear Q'
      iterate 1 (refine wpList_plainQ rfl (fun K Q' hK => ?_); go_simp; refine hK _ _ ?_; clear hK K; try clear Q')
      refine wpList_nil ?_
      show Code.wp _ _ _ _ _
      refine wp_seq ?_
      repeat (first | simp only [List.nil_append] at h1 | simp only [List.cons_append] at h1 | simp only [List.set_cons_zero] at h1 | simp only [List.set_cons_succ] at h1 | simp only [List.eraseIdx_zero] at h1 | simp only [List.tail_cons] at h1 | simp only [List.eraseIdx_cons_zero] at h1 | simp only [List.eraseIdx_cons_succ] at h1 | simp only [List.setIfInBounds_toArray] at h1)
      refine wp_region_lit ?_
      -- stops at: eff:call (Go.Op.call {'callee': (Go.Callee.value (Go.Operand.func 13)), 'args': [], 'argTypes': []}) slot 21
      refine wpList_plainQ rfl (fun K Q' hK => ?_); go_simp
      refine (awake_ok H _ h1.fits htab).mono ?_
      rintro e wAw ⟨HAw, rfl, hpAw⟩
      have h2 := h1.call0 hpAw
      have htab_2 := htab.mono hpAw.le
      refine hK _ _ ?_; clear hK K; try clear Q'
      iterate 1 (refine wpList_plainQ rfl (fun K Q' hK => ?_); go_simp; refine hK _ _ ?_; clear hK K; try clear Q')
      refine wpList_nil ?_
      show Code.wp _ _ _ _ _
      refine wp_seq ?_
      refine wp_seq ?_
      repeat (first | simp only [List.nil_append] at h2 | simp only [List.cons_append] at h2 | simp only [List.set_cons_zero] at h2 | simp only [List.set_cons_succ] at h2 | simp only [List.eraseIdx_zero] at h2 | simp only [List.tail_cons] at h2 | simp only [List.eraseIdx_cons_zero] at h2 | simp only [List.eraseIdx_cons_succ] at h2 | simp only [List.setIfInBounds_toArray] at h2)
      refine wp_region_lit ?_
      iterate 2 (refine wpList_plainQ rfl (fun K Q' hK => ?_); go_simp; refine hK _ _ ?_; clear hK K; try clear Q')
      refine wpList_nil ?_
      show Code.wp _ _ _ _ _
      -- stops at: cond
      refine wp_cond_false (rfl) ?_
      refine wp_skip ?_
      show Code.wp _ _ _ _ _
      refine wp_seq ?_
      refine wp_seq ?_
      refine wp_region_lit ?_
      iterate 4 (refine wpList_plainQ rfl (fun K Q' hK => ?_); go_simp; refine hK _ _ ?_; clear hK K; try clear Q')
      first | go_skip | (iterate 3 (refine wpList_stepQ (o := { dst := _, op := _, type := _, pos := _, after := _, guard := some (3, false) }) (fun K Q' hK => ?_); go_simp; refine hK _ _ ?_; clear hK K; try clear Q')) | skip
      iterate 1 (refine wpList_plainQ rfl (fun K Q' hK => ?_); go_simp; refine hK _ _ ?_; clear hK K; try clear Q')
      refine wpList_nil ?_
      show Code.wp _ _ _ _ _
      -- stops at: cond
      refine wp_cond_true (rfl) ?_
      refine wp_seq ?_
      refine wp_region_lit ?_
      iterate 1 (refine wpList_plainQ rfl (fun K Q' hK => ?_); go_simp; refine hK _ _ ?_; clear hK K; try clear Q')
      refine wpList_nil ?_
      show Code.wp _ _ _ _ _
      -- stops at: ret
      refine wp_ret ?_
      go_ret
      exact ⟨rfl, h2.post.keep⟩
  · have hl1 : decide ((40 : Int) < (a.length : Int)) = true := by simp; omega
    go_enter Tryd.func7, Tryd.ntmps7
    have h0 := St.start hpre
    refine wp_seq ?_
    repeat (first | simp only [List.nil_append] at h0 | simp only [List.cons_append] at h0 | simp only [List.set_cons_zero] at h0 | simp only [List.set_cons_succ] at h0 | simp only [List.eraseIdx_zero] at h0 | simp only [List.tail_cons] at h0 | simp only [List.eraseIdx_cons_zero] at h0 | simp only [List.eraseIdx_cons_succ] at h0 | simp only [List.setIfInBounds_toArray] at h0)
    refine wp_region_lit ?_
    refine wpList_plainQ rfl (fun K Q' hK => ?_); go_simp
    refine h0.k_alloc (fun w1 h1 => ?_)
    refine hK _ _ ?_; clear hK K; try clear Q'
    iterate 1 (refine wpList_plainQ rfl (fun K Q' hK => ?_); go_simp; refine hK _ _ ?_; clear hK K; try clear Q')
    refine wpList_nil ?_
    show Code.wp _ _ _ _ _
    refine wp_seq ?_
    repeat (first | simp only [List.nil_append] at h1 | simp only [List.cons_append] at h1 | simp only [List.set_cons_zero] at h1 | simp only [List.set_cons_succ] at h1 | simp only [List.eraseIdx_zero] at h1 | simp only [List.tail_cons] at h1 | simp only [List.eraseIdx_cons_zero] at h1 | simp only [List.eraseIdx_cons_succ] at h1 | simp only [List.setIfInBounds_toArray] at h1)
    refine wp_region_lit ?_
    -- stops at: eff:call (Go.Op.call {'callee': (Go.Callee.value (Go.Operand.func 13)), 'args': [], 'argTypes': []}) slot 21
    refine wpList_plainQ rfl (fun K Q' hK => ?_); go_simp
    refine (awake_ok H _ h1.fits htab).mono ?_
    rintro e wAw ⟨HAw, rfl, hpAw⟩
    have h2 := h1.call0 hpAw
    have htab_2 := htab.mono hpAw.le
    refine hK _ _ ?_; clear hK K; try clear Q'
    iterate 1 (refine wpList_plainQ rfl (fun K Q' hK => ?_); go_simp; refine hK _ _ ?_; clear hK K; try clear Q')
    refine wpList_nil ?_
    show Code.wp _ _ _ _ _
    refine wp_seq ?_
    refine wp_seq ?_
    repeat (first | simp only [List.nil_append] at h2 | simp only [List.cons_append] at h2 | simp only [List.set_cons_zero] at h2 | simp only [List.set_cons_succ] at h2 | simp only [List.eraseIdx_zero] at h2 | simp only [List.tail_cons] at h2 | simp only [List.eraseIdx_cons_zero] at h2 | simp only [List.eraseIdx_cons_succ] at h2 | simp only [List.setIfInBounds_toArray] at h2)
    refine wp_region_lit ?_
    iterate 2 (refine wpList_plainQ rfl (fun K Q' hK => ?_); go_simp; refine hK _ _ ?_; clear hK K; try clear Q')
    refine wpList_nil ?_
    show Code.wp _ _ _ _ _
    -- stops at: cond
    refine wp_cond_false (rfl) ?_
    refine wp_skip ?_
    show Code.wp _ _ _ _ _
    refine wp_seq ?_
    refine wp_seq ?_
    refine wp_region_lit ?_
    iterate 4 (refine wpList_plainQ rfl (fun K Q' hK => ?_); go_simp; refine hK _ _ ?_; clear hK K; try clear Q')
    first | go_skip | (iterate 3 (refine wpList_stepQ (o := { dst := _, op := _, type := _, pos := _, after := _, guard := some (3, false) }) (fun K Q' hK => ?_); go_simp; refine hK _ _ ?_; clear hK K; try clear Q')) | skip
    iterate 1 (refine wpList_plainQ rfl (fun K Q' hK => ?_); go_simp; refine hK _ _ ?_; clear hK K; try clear Q')
    refine wpList_nil ?_
    show Code.wp _ _ _ _ _
    -- stops at: cond
    refine wp_cond_true (rfl) ?_
    refine wp_seq ?_
    refine wp_region_lit ?_
    iterate 1 (refine wpList_plainQ rfl (fun K Q' hK => ?_); go_simp; refine hK _ _ ?_; clear hK K; try clear Q')
    refine wpList_nil ?_
    show Code.wp _ _ _ _ _
    -- stops at: ret
    refine wp_ret ?_
    go_ret
    exact ⟨rfl, h2.post.keep⟩
end Go.Proofs.YtceamdacacacjaaDoor
