/-
Ends: its walk.
-/
import Derived.Test.YtceamdacacacjaaDoorQbPlain
import Derived.Test.YtceamdacacacjaaDoorGdOrdS
import Derived.Test.YtceamdacacacjaaDoorGfOrdI
namespace Go.Proofs.YtceamdacacacjaaDoor
open Go Go.RowKit
set_option linter.unusedVariables false

set_option maxRecDepth 100000 in
set_option maxHeartbeats 16000000 in
theorem ends_walk (H : GH) (w : World) (a b id : Int) (hf : Fits w H) (htab : TabH H) (ba : -9223372036854775808 ≤ a ∧ a ≤ 9223372036854775807) (bb : -9223372036854775808 ≤ b ∧ b ≤ 9223372036854775807) (bi : -9223372036854775808 ≤ id ∧ id ≤ 9223372036854775807) :
    Calls Tryd.prog 9 #[.int .i64 a, .int .i64 b, .int .i64 id] w fun e w' => e = .returned (.bool true) ∧ Keep none w w' := by
  have hpre : Pre w H none 0 0 := Pre.none hf 0 0
  obtain ⟨one, hone⟩ : ∃ t, Hid (Hp.insert ((a, -9223372036854775808) : El) Hp.nil = t) := ⟨_, show _ = _ from rfl⟩
  have oone : Hp.ok one := by rw [← hone.out]; exact Hp.ok_insert _ Hp.ok_nil
  have sone1 : sortE (Hp.els one) = [(a, -9223372036854775808)] := by
    rw [← hone.out, sortE_congr (Hp.els_insert _ Hp.ok_nil)]; rfl
  have hmone : Hp.min? one = some (a, -9223372036854775808) := (Hp.min_of_cons oone sone1).1
  have pone : Hp.els (Hp.pop one) = [] := by
    have := Hp.pop_perm oone
    rw [sone1] at this
    exact this.eq_nil
  have s0 : Hp.size Hp.nil = 0 := by rw [Hp.size_eq, Hp.els_nil]; rfl
  have s1 : Hp.size one = 1 := by rw [Hp.size_eq, ← sortE_length, sone1]; rfl
  have s2 : Hp.size (Hp.pop one) = 0 := by rw [Hp.size_eq, pone]; rfl
  have s3 : Hp.size (Hp.meld Hp.nil Hp.nil) = 0 := by rw [Hp.size_meld Hp.ok_nil Hp.ok_nil, s0]
  have s4 : Hp.size (Hp.meld Hp.nil one) = 1 := by rw [Hp.size_meld Hp.ok_nil oone, s0, s1]
  have s5 : Hp.size (Hp.meld one Hp.nil) = 1 := by rw [Hp.size_meld oone Hp.ok_nil, s0, s1]
  obtain ⟨t1, ht1⟩ : ∃ s, Hid (Hp.text one = s) := ⟨_, show _ = _ from rfl⟩
  obtain ⟨t0, ht0⟩ : ∃ s, Hid (Hp.text Hp.nil = s) := ⟨_, show _ = _ from rfl⟩
  have t2 : Hp.text (Hp.meld Hp.nil one) = t1 := by rw [← ht1.out, ← hone.out, Hp.text_nil_one]
  have t3 : Hp.text (Hp.meld one Hp.nil) = t1 := by rw [← ht1.out, ← hone.out, Hp.text_one_nil]
  have t4 : Hp.text (Hp.pop one) = t0 := by rw [← ht0.out, ← hone.out, Hp.text_pop_one]
  obtain ⟨l5, hl5⟩ : ∃ l : List El, Hid (([(-9223372036854775808, id), (9223372036854775807, id), (a, -9223372036854775808), (a, 9223372036854775807), (b, id)] : List El) = l) := ⟨_, show _ = _ from rfl⟩
  have len5 : l5.length = 5 := by rw [← hl5.out]; rfl
  have fx : El.fits ((a, -9223372036854775808) : El) := ⟨ba, by simp⟩
  go_enter Tryd.func9, Tryd.ntmps9
  have h0 := St.start hpre
  refine wp_seq ?_
  repeat (first | simp only [List.nil_append] at h0 | simp only [List.cons_append] at h0 | simp only [List.set_cons_zero] at h0 | simp only [List.set_cons_succ] at h0 | simp only [List.eraseIdx_zero] at h0 | simp only [List.tail_cons] at h0 | simp only [List.eraseIdx_cons_zero] at h0 | simp only [List.eraseIdx_cons_succ] at h0 | simp only [List.setIfInBounds_toArray] at h0)
  refine wp_region_lit ?_
  iterate 1 (refine wpList_plainQ rfl (fun K Q' hK => ?_); go_simp; refine hK _ _ ?_; clear hK K; try clear Q')
  refine wpList_nil ?_
  show Code.wp _ _ _ _ _
  refine wp_seq ?_
  refine wp_region_lit ?_
  -- stops at: eff:call (Go.Op.call {'callee': (Go.Callee.value (Go.Operand.func 13)), 'args': [], 'argTypes': []}) slot 24
  refine wpList_plainQ rfl (fun K Q' hK => ?_); go_simp
  refine (awake_ok H _ h0.fits htab).mono ?_
  rintro e wAw ⟨HAw, rfl, hpAw⟩
  have h1 := h0.call0 hpAw
  have htab_1 := htab.mono hpAw.le
  refine hK _ _ ?_; clear hK K; try clear Q'
  iterate 1 (refine wpList_plainQ rfl (fun K Q' hK => ?_); go_simp; refine hK _ _ ?_; clear hK K; try clear Q')
  refine wpList_nil ?_
  show Code.wp _ _ _ _ _
  refine wp_seq ?_
  refine wp_seq ?_
  clear h0
  repeat (first | simp only [List.nil_append] at h1 | simp only [List.cons_append] at h1 | simp only [List.set_cons_zero] at h1 | simp only [List.set_cons_succ] at h1 | simp only [List.eraseIdx_zero] at h1 | simp only [List.tail_cons] at h1 | simp only [List.eraseIdx_cons_zero] at h1 | simp only [List.eraseIdx_cons_succ] at h1 | simp only [List.setIfInBounds_toArray] at h1)
  refine wp_region_lit ?_
  iterate 2 (refine wpList_plainQ rfl (fun K Q' hK => ?_); go_simp; refine hK _ _ ?_; clear hK K; try clear Q')
  refine wpList_nil ?_
  show Code.wp _ _ _ _ _
  -- stops at: cond
  refine wp_cond_false (rfl) ?_
  refine wp_skip ?_
  show Code.wp _ _ _ _ _
  refine wp_seq ?_
  refine wp_region_lit ?_
  iterate 2 (refine wpList_plainQ rfl (fun K Q' hK => ?_); go_simp; refine hK _ _ ?_; clear hK K; try clear Q')
  refine wpList_plainQ rfl (fun K Q' hK => ?_); go_simp
  refine h1.k_alloc (fun w2 h2 => ?_)
  refine hK _ _ ?_; clear hK K; try clear Q'
  have c_0 := h2.cell 0 rfl 0 rfl
  have f_0 := h2.free 0 rfl 0
  have c_1 := h2.cell 0 rfl 1 rfl
  have f_1 := h2.free 0 rfl 1
  refine wpList_plainQ rfl (fun K Q' hK => ?_); go_simp
  clear c_0 f_0 c_1 f_1
  refine (h2.set (i := 0) rfl 0 _).k_set 0 rfl (fun w3 h3 => ?_)
  refine hK _ _ ?_; clear hK K; try clear Q'
  refine wpList_nil ?_
  show Code.wp _ _ _ _ _
  refine wp_seq ?_
  clear h1 h2
  repeat (first | simp only [List.nil_append] at h3 | simp only [List.cons_append] at h3 | simp only [List.set_cons_zero] at h3 | simp only [List.set_cons_succ] at h3 | simp only [List.eraseIdx_zero] at h3 | simp only [List.tail_cons] at h3 | simp only [List.eraseIdx_cons_zero] at h3 | simp only [List.eraseIdx_cons_succ] at h3 | simp only [List.setIfInBounds_toArray] at h3)
  refine wp_region_lit ?_
  iterate 2 (refine wpList_plainQ rfl (fun K Q' hK => ?_); go_simp; refine hK _ _ ?_; clear hK K; try clear Q')
  refine wpList_plainQ rfl (fun K Q' hK => ?_); go_simp
  refine h3.k_alloc (fun w4 h4 => ?_)
  refine hK _ _ ?_; clear hK K; try clear Q'
  have c_0 := h4.cell 1 rfl 0 rfl
  have f_0 := h4.free 1 rfl 0
  have c_1 := h4.cell 1 rfl 1 rfl
  have f_1 := h4.free 1 rfl 1
  refine wpList_plainQ rfl (fun K Q' hK => ?_); go_simp
  clear c_0 f_0 c_1 f_1
  refine (h4.set (i := 1) rfl 0 _).k_set 1 rfl (fun w5 h5 => ?_)
  refine hK _ _ ?_; clear hK K; try clear Q'
  refine wpList_nil ?_
  show Code.wp _ _ _ _ _
  refine wp_seq ?_
  clear h3 h4
  repeat (first | simp only [List.nil_append] at h5 | simp only [List.cons_append] at h5 | simp only [List.set_cons_zero] at h5 | simp only [List.set_cons_succ] at h5 | simp only [List.eraseIdx_zero] at h5 | simp only [List.tail_cons] at h5 | simp only [List.eraseIdx_cons_zero] at h5 | simp only [List.eraseIdx_cons_succ] at h5 | simp only [List.setIfInBounds_toArray] at h5)
  refine wp_region_lit ?_
  iterate 2 (refine wpList_plainQ rfl (fun K Q' hK => ?_); go_simp; refine hK _ _ ?_; clear hK K; try clear Q')
  refine wpList_plainQ rfl (fun K Q' hK => ?_); go_simp
  refine h5.k_alloc (fun w6 h6 => ?_)
  refine hK _ _ ?_; clear hK K; try clear Q'
  have c_0 := h6.cell 2 rfl 0 rfl
  have f_0 := h6.free 2 rfl 0
  have c_1 := h6.cell 2 rfl 1 rfl
  have f_1 := h6.free 2 rfl 1
  refine wpList_plainQ rfl (fun K Q' hK => ?_); go_simp
  clear c_0 f_0 c_1 f_1
  refine (h6.set (i := 2) rfl 0 _).k_set 2 rfl (fun w7 h7 => ?_)
  refine hK _ _ ?_; clear hK K; try clear Q'
  refine wpList_nil ?_
  show Code.wp _ _ _ _ _
  refine wp_seq ?_
  clear h5 h6
  repeat (first | simp only [List.nil_append] at h7 | simp only [List.cons_append] at h7 | simp only [List.set_cons_zero] at h7 | simp only [List.set_cons_succ] at h7 | simp only [List.eraseIdx_zero] at h7 | simp only [List.tail_cons] at h7 | simp only [List.eraseIdx_cons_zero] at h7 | simp only [List.eraseIdx_cons_succ] at h7 | simp only [List.setIfInBounds_toArray] at h7)
  refine wp_region_lit ?_
  iterate 2 (refine wpList_plainQ rfl (fun K Q' hK => ?_); go_simp; refine hK _ _ ?_; clear hK K; try clear Q')
  refine wpList_plainQ rfl (fun K Q' hK => ?_); go_simp
  refine h7.k_alloc (fun w8 h8 => ?_)
  refine hK _ _ ?_; clear hK K; try clear Q'
  have c_0 := h8.cell 3 rfl 0 rfl
  have f_0 := h8.free 3 rfl 0
  have c_1 := h8.cell 3 rfl 1 rfl
  have f_1 := h8.free 3 rfl 1
  refine wpList_plainQ rfl (fun K Q' hK => ?_); go_simp
  clear c_0 f_0 c_1 f_1
  refine (h8.set (i := 3) rfl 0 _).k_set 3 rfl (fun w9 h9 => ?_)
  refine hK _ _ ?_; clear hK K; try clear Q'
  refine wpList_nil ?_
  show Code.wp _ _ _ _ _
  refine wp_seq ?_
  clear h7 h8
  repeat (first | simp only [List.nil_append] at h9 | simp only [List.cons_append] at h9 | simp only [List.set_cons_zero] at h9 | simp only [List.set_cons_succ] at h9 | simp only [List.eraseIdx_zero] at h9 | simp only [List.tail_cons] at h9 | simp only [List.eraseIdx_cons_zero] at h9 | simp only [List.eraseIdx_cons_succ] at h9 | simp only [List.setIfInBounds_toArray] at h9)
  refine wp_region_lit ?_
  have c_1_0 := h9.cell 1 rfl 0 rfl
  have c_1_1 := h9.cell 1 rfl 1 rfl
  have c_3_0 := h9.cell 3 rfl 0 rfl
  have c_3_1 := h9.cell 3 rfl 1 rfl
  have c_2_0 := h9.cell 2 rfl 0 rfl
  have c_2_1 := h9.cell 2 rfl 1 rfl
  have c_0_0 := h9.cell 0 rfl 0 rfl
  have c_0_1 := h9.cell 0 rfl 1 rfl
  iterate 7 (refine wpList_plainQ rfl (fun K Q' hK => ?_); go_simp; refine hK _ _ ?_; clear hK K; try clear Q')
  clear c_1_0 c_1_1 c_3_0 c_3_1 c_2_0 c_2_1 c_0_0 c_0_1
  refine wpList_plainQ rfl (fun K Q' hK => ?_); go_simp
  refine h9.k_alloc (fun w10 h10 => ?_)
  refine hK _ _ ?_; clear hK K; try clear Q'
  -- stops at: eff:call (Go.Op.call {'callee': (Go.Callee.value (Go.Operand.func 14)), 'args': [(Go.Operand.const (Go.Value.pointer none)), (Go.Operand.tmp 42)], 'argTypes': [36, 22]}) slot 43
  obtain ⟨HLa, hALa, rALa, leALa⟩ := (h10.rowOf 4 rfl 2 5 rfl (by unfold maxLen; omega)).settleRow 0 rfl
  have htab_11 := htab_1.mono leALa
  repeat (first | simp only [List.nil_append] at hALa | simp only [List.cons_append] at hALa | simp only [List.set_cons_zero] at hALa | simp only [List.set_cons_succ] at hALa | simp only [List.eraseIdx_zero] at hALa | simp only [List.tail_cons] at hALa | simp only [List.eraseIdx_cons_zero] at hALa | simp only [List.eraseIdx_cons_succ] at hALa | simp only [List.setIfInBounds_toArray] at hALa)
  have hRLa : ElRep HLa _ ([(9223372036854775807, id), (a, 9223372036854775807), (a, -9223372036854775808), (-9223372036854775808, id), (b, id)]) := rALa
  refine wpList_plainQ rfl (fun K Q' hK => ?_); go_simp
  refine (hof_ok (m := none) (xs := [(9223372036854775807, id), (a, 9223372036854775807), (a, -9223372036854775808), (-9223372036854775808, id), (b, id)]) (by simp [El.fits, ba, bb, bi]) hALa.pre (by simp) hRLa).mono ?_
  rintro e wXx ⟨rXx, HXx, rfl, hpXx, hXx⟩
  obtain ⟨Xx, eXx⟩ : ∃ hp0, Hid (Hp.ofL [(9223372036854775807, id), (a, 9223372036854775807), (a, -9223372036854775808), (-9223372036854775808, id), (b, id)] = hp0) := ⟨_, show _ = _ from rfl⟩
  rw [eXx.out] at hXx
  have oXx := hXx.ok
  have pXx : Hid ((Hp.els Xx).Perm l5) := by
    rw [← eXx.out, ← hl5.out]
    refine (Hp.els_ofL _).trans ?_
    refine ((List.Perm.swap (a, -9223372036854775808) (a, 9223372036854775807) _).cons _).trans ?_
    exact List.perm_middle (l₁ := [(9223372036854775807, id), (a, -9223372036854775808), (a, 9223372036854775807)]) (a := (-9223372036854775808, id)) (l₂ := [(b, id)])
  have sXx : Hp.size Xx = 5 := by rw [Hp.size_eq, pXx.out.length_eq, len5]
  have h12 := hALa.call0 hpXx
  have htab_12 := htab_11.mono hpXx.le
  refine hK _ _ ?_; clear hK K; try clear Q'
  refine wpList_plainQ rfl (fun K Q' hK => ?_); go_simp
  refine h12.k_alloc (fun w13 h13 => ?_)
  refine hK _ _ ?_; clear hK K; try clear Q'
  have c_0 := h13.cell 4 rfl 0 rfl
  have f_0 := h13.free 4 rfl 0
  refine wpList_plainQ rfl (fun K Q' hK => ?_); go_simp
  clear c_0 f_0
  refine h13.k_set 4 rfl (fun w14 h14 => ?_)
  refine hK _ _ ?_; clear hK K; try clear Q'
  refine wpList_nil ?_
  show Code.wp _ _ _ _ _
  refine wp_seq ?_
  clear h9 htab_1 h10 htab_11 h12 h13
  repeat (first | simp only [List.nil_append] at h14 | simp only [List.cons_append] at h14 | simp only [List.set_cons_zero] at h14 | simp only [List.set_cons_succ] at h14 | simp only [List.eraseIdx_zero] at h14 | simp only [List.tail_cons] at h14 | simp only [List.eraseIdx_cons_zero] at h14 | simp only [List.eraseIdx_cons_succ] at h14 | simp only [List.setIfInBounds_toArray] at h14)
  refine wp_region_lit ?_
  have c_0_0 := h14.cell 0 rfl 0 rfl
  have c_0_1 := h14.cell 0 rfl 1 rfl
  have c_1_0 := h14.cell 1 rfl 0 rfl
  have c_1_1 := h14.cell 1 rfl 1 rfl
  have c_2_0 := h14.cell 2 rfl 0 rfl
  have c_2_1 := h14.cell 2 rfl 1 rfl
  have c_3_0 := h14.cell 3 rfl 0 rfl
  have c_3_1 := h14.cell 3 rfl 1 rfl
  iterate 7 (refine wpList_plainQ rfl (fun K Q' hK => ?_); go_simp; refine hK _ _ ?_; clear hK K; try clear Q')
  clear c_0_0 c_0_1 c_1_0 c_1_1 c_2_0 c_2_1 c_3_0 c_3_1
  refine wpList_plainQ rfl (fun K Q' hK => ?_); go_simp
  refine h14.k_alloc (fun w15 h15 => ?_)
  refine hK _ _ ?_; clear hK K; try clear Q'
  -- stops at: eff:call (Go.Op.call {'callee': (Go.Callee.value (Go.Operand.func 16)), 'args': [(Go.Operand.tmp 51)], 'argTypes': [22]}) slot 52
  as_aux_lemma =>
  obtain ⟨HLb, hALb, rALb, leALb⟩ := (h15.rowOf 5 rfl 2 5 rfl (by unfold maxLen; omega)).settleRow 0 rfl
  have htab_16 := htab_12.mono leALb
  have hXx_16 := hXx.mono leALb
  repeat (first | simp only [List.nil_append] at hALb | simp only [List.cons_append] at hALb | simp only [List.set_cons_zero] at hALb | simp only [List.set_cons_succ] at hALb | simp only [List.eraseIdx_zero] at hALb | simp only [List.tail_cons] at hALb | simp only [List.eraseIdx_cons_zero] at hALb | simp only [List.eraseIdx_cons_succ] at hALb | simp only [List.setIfInBounds_toArray] at hALb)
  have hRLb : ElRep HLb _ ([(-9223372036854775808, id), (9223372036854775807, id), (a, -9223372036854775808), (a, 9223372036854775807), (b, id)]) := rALb
  rw [hl5.out] at hRLb
  refine wpList_plainQ rfl (fun K Q' hK => ?_); go_simp
  refine (rsort_ok _ _ _ l5 (by first | omega | simp) hALb.fits hRLb).mono ?_
  rintro e wSp ⟨vSp, HSp, rfl, hpSp, dSp⟩
  have h17 := hALb.call0 hpSp
  have htab_17 := htab_16.mono hpSp.le
  have hXx_17 := hXx_16.mono hpSp.le
  have hRLb_17 := hRLb.mono hpSp.le
  refine hK _ _ ?_; clear hK K; try clear Q'
  iterate 1 (refine wpList_plainQ rfl (fun K Q' hK => ?_); go_simp; refine hK _ _ ?_; clear hK K; try clear Q')
  refine wpList_nil ?_
  show Code.wp _ _ _ _ _
  refine wp_seq ?_
  clear h14 htab_12 h15 htab_16 hXx_16
  repeat (first | simp only [List.nil_append] at h17 | simp only [List.cons_append] at h17 | simp only [List.set_cons_zero] at h17 | simp only [List.set_cons_succ] at h17 | simp only [List.eraseIdx_zero] at h17 | simp only [List.tail_cons] at h17 | simp only [List.eraseIdx_cons_zero] at h17 | simp only [List.eraseIdx_cons_succ] at h17 | simp only [List.setIfInBounds_toArray] at h17)
  refine wp_region_lit ?_
  refine wpList_plainQ rfl (fun K Q' hK => ?_); go_simp
  refine h17.k_alloc (fun w18 h18 => ?_)
  refine hK _ _ ?_; clear hK K; try clear Q'
  refine wpList_nil ?_
  show Code.wp _ _ _ _ _
  refine wp_seq ?_
  clear h17
  repeat (first | simp only [List.nil_append] at h18 | simp only [List.cons_append] at h18 | simp only [List.set_cons_zero] at h18 | simp only [List.set_cons_succ] at h18 | simp only [List.eraseIdx_zero] at h18 | simp only [List.tail_cons] at h18 | simp only [List.eraseIdx_cons_zero] at h18 | simp only [List.eraseIdx_cons_succ] at h18 | simp only [List.setIfInBounds_toArray] at h18)
  refine wp_region_lit ?_
  have c_5_0 := h18.cell 5 rfl 0 rfl
  iterate 1 (refine wpList_plainQ rfl (fun K Q' hK => ?_); go_simp; refine hK _ _ ?_; clear hK K; try clear Q')
  clear c_5_0
  -- stops at: eff:call (Go.Op.call {'callee': (Go.Callee.value (Go.Operand.func 27)), 'args': [(Go.Operand.tmp 54), (Go.Operand.const (Go.Value.pointer none))], 'argTypes': [26, 36]}) slot 55
  as_aux_lemma =>
  refine wpList_plainQ rfl (fun K Q' hK => ?_); go_simp
  refine (hmin_ok (m := none) (t := Hp.nil) h18.pre (by omega) (HpR.nil _)).mono ?_
  rintro e wMa ⟨HMa, rfl, hpMa⟩
  simp only [Hp.min_nil, Option.getD_none, Option.isSome_none]
  have h19 := h18.call0 hpMa
  have htab_19 := htab_17.mono hpMa.le
  have hXx_19 := hXx_17.mono hpMa.le
  have hRLb_19 := hRLb_17.mono hpMa.le
  have dSp_19 := dSp.mono hpMa.le
  refine hK _ _ ?_; clear hK K; try clear Q'
  iterate 3 (refine wpList_plainQ rfl (fun K Q' hK => ?_); go_simp; refine hK _ _ ?_; clear hK K; try clear Q')
  refine wpList_plainQ rfl (fun K Q' hK => ?_); go_simp
  refine h19.k_alloc (fun w20 h20 => ?_)
  refine hK _ _ ?_; clear hK K; try clear Q'
  have c_0 := h20.cell 6 rfl 0 rfl
  have f_0 := h20.free 6 rfl 0
  have c_1 := h20.cell 6 rfl 1 rfl
  have f_1 := h20.free 6 rfl 1
  refine wpList_plainQ rfl (fun K Q' hK => ?_); go_simp
  clear c_0 f_0 c_1 f_1
  refine (h20.set (i := 6) rfl 0 _).k_set 6 rfl (fun w21 h21 => ?_)
  refine hK _ _ ?_; clear hK K; try clear Q'
  iterate 1 (refine wpList_plainQ rfl (fun K Q' hK => ?_); go_simp; refine hK _ _ ?_; clear hK K; try clear Q')
  refine wpList_nil ?_
  show Code.wp _ _ _ _ _
  refine wp_seq ?_
  clear h18 htab_17 hXx_17 hRLb_17 h19 h20
  repeat (first | simp only [List.nil_append] at h21 | simp only [List.cons_append] at h21 | simp only [List.set_cons_zero] at h21 | simp only [List.set_cons_succ] at h21 | simp only [List.eraseIdx_zero] at h21 | simp only [List.tail_cons] at h21 | simp only [List.eraseIdx_cons_zero] at h21 | simp only [List.eraseIdx_cons_succ] at h21 | simp only [List.setIfInBounds_toArray] at h21)
  refine wp_region_lit ?_
  have c_5_0 := h21.cell 5 rfl 0 rfl
  iterate 1 (refine wpList_plainQ rfl (fun K Q' hK => ?_); go_simp; refine hK _ _ ?_; clear hK K; try clear Q')
  clear c_5_0
  -- stops at: eff:call (Go.Op.call {'callee': (Go.Callee.value (Go.Operand.func 25)), 'args': [(Go.Operand.tmp 59), (Go.Operand.const (Go.Value.pointer none))], 'argTypes': [26, 36]}) slot 60
  as_aux_lemma =>
  refine wpList_plainQ rfl (fun K Q' hK => ?_); go_simp
  refine (hpop_ok (m := none) (t := Hp.nil) h21.pre (by omega) (HpR.nil _)).mono ?_
  rintro e wPa ⟨rPa, HPa, rfl, hpPa, hPa⟩
  simp only [Hp.min_nil, Option.isSome_none]
  rw [Hp.pop_nil] at hPa
  have h22 := h21.call0 hpPa
  have htab_22 := htab_19.mono hpPa.le
  have hXx_22 := hXx_19.mono hpPa.le
  have hRLb_22 := hRLb_19.mono hpPa.le
  have dSp_22 := dSp_19.mono hpPa.le
  refine hK _ _ ?_; clear hK K; try clear Q'
  iterate 3 (refine wpList_plainQ rfl (fun K Q' hK => ?_); go_simp; refine hK _ _ ?_; clear hK K; try clear Q')
  refine wpList_plainQ rfl (fun K Q' hK => ?_); go_simp
  refine h22.k_alloc (fun w23 h23 => ?_)
  refine hK _ _ ?_; clear hK K; try clear Q'
  have c_0 := h23.cell 7 rfl 0 rfl
  have f_0 := h23.free 7 rfl 0
  refine wpList_plainQ rfl (fun K Q' hK => ?_); go_simp
  clear c_0 f_0
  refine h23.k_set 7 rfl (fun w24 h24 => ?_)
  refine hK _ _ ?_; clear hK K; try clear Q'
  iterate 1 (refine wpList_plainQ rfl (fun K Q' hK => ?_); go_simp; refine hK _ _ ?_; clear hK K; try clear Q')
  refine wpList_nil ?_
  show Code.wp _ _ _ _ _
  refine wp_seq ?_
  clear h21 htab_19 hXx_19 hRLb_19 dSp_19 h22 h23
  repeat (first | simp only [List.nil_append] at h24 | simp only [List.cons_append] at h24 | simp only [List.set_cons_zero] at h24 | simp only [List.set_cons_succ] at h24 | simp only [List.eraseIdx_zero] at h24 | simp only [List.tail_cons] at h24 | simp only [List.eraseIdx_cons_zero] at h24 | simp only [List.eraseIdx_cons_succ] at h24 | simp only [List.setIfInBounds_toArray] at h24)
  refine wp_region_lit ?_
  have c_5_0 := h24.cell 5 rfl 0 rfl
  have c_2_0 := h24.cell 2 rfl 0 rfl
  have c_2_1 := h24.cell 2 rfl 1 rfl
  iterate 2 (refine wpList_plainQ rfl (fun K Q' hK => ?_); go_simp; refine hK _ _ ?_; clear hK K; try clear Q')
  clear c_5_0 c_2_0 c_2_1
  -- stops at: eff:call (Go.Op.call {'callee': (Go.Callee.value (Go.Operand.func 23)), 'args': [(Go.Operand.tmp 63), (Go.Operand.const (Go.Value.pointer none)), (Go.Operand.tmp 64)], ' slot 65
  as_aux_lemma =>
  refine wpList_plainQ rfl (fun K Q' hK => ?_); go_simp
  refine (hinsert_ok (m := none) (a, -9223372036854775808) fx h24.pre (by omega) (HpR.nil _)).mono ?_
  rintro e wIa ⟨rIa, HIa, rfl, hpIa, hIa⟩
  rw [hone.out] at hIa
  have h25 := h24.call0 hpIa
  have htab_25 := htab_22.mono hpIa.le
  have hXx_25 := hXx_22.mono hpIa.le
  have hRLb_25 := hRLb_22.mono hpIa.le
  have dSp_25 := dSp_22.mono hpIa.le
  have hPa_25 := hPa.mono hpIa.le
  refine hK _ _ ?_; clear hK K; try clear Q'
  refine wpList_plainQ rfl (fun K Q' hK => ?_); go_simp
  refine h25.k_alloc (fun w26 h26 => ?_)
  refine hK _ _ ?_; clear hK K; try clear Q'
  have c_0 := h26.cell 8 rfl 0 rfl
  have f_0 := h26.free 8 rfl 0
  refine wpList_plainQ rfl (fun K Q' hK => ?_); go_simp
  clear c_0 f_0
  refine h26.k_set 8 rfl (fun w27 h27 => ?_)
  refine hK _ _ ?_; clear hK K; try clear Q'
  refine wpList_nil ?_
  show Code.wp _ _ _ _ _
  refine wp_seq ?_
  clear h24 htab_22 hXx_22 hRLb_22 dSp_22 h25 h26
  repeat (first | simp only [List.nil_append] at h27 | simp only [List.cons_append] at h27 | simp only [List.set_cons_zero] at h27 | simp only [List.set_cons_succ] at h27 | simp only [List.eraseIdx_zero] at h27 | simp only [List.tail_cons] at h27 | simp only [List.eraseIdx_cons_zero] at h27 | simp only [List.eraseIdx_cons_succ] at h27 | simp only [List.setIfInBounds_toArray] at h27)
  refine wp_region_lit ?_
  have c_8_0 := h27.cell 8 rfl 0 rfl
  iterate 1 (refine wpList_plainQ rfl (fun K Q' hK => ?_); go_simp; refine hK _ _ ?_; clear hK K; try clear Q')
  clear c_8_0
  -- stops at: eff:call (Go.Op.call {'callee': (Go.Callee.value (Go.Operand.func 27)), 'args': [(Go.Operand.tmp 67), (Go.Operand.const (Go.Value.pointer none))], 'argTypes': [26, 36]}) slot 68
  as_aux_lemma =>
  refine wpList_plainQ rfl (fun K Q' hK => ?_); go_simp
  refine (hmin_ok (m := none) h27.pre (by omega) hIa).mono ?_
  rintro e wMb ⟨HMb, rfl, hpMb⟩
  simp only [hmone, Option.getD_some, Option.isSome_some]
  have h28 := h27.call0 hpMb
  have htab_28 := htab_25.mono hpMb.le
  have hXx_28 := hXx_25.mono hpMb.le
  have hRLb_28 := hRLb_25.mono hpMb.le
  have dSp_28 := dSp_25.mono hpMb.le
  have hPa_28 := hPa_25.mono hpMb.le
  have hIa_28 := hIa.mono hpMb.le
  refine hK _ _ ?_; clear hK K; try clear Q'
  iterate 3 (refine wpList_plainQ rfl (fun K Q' hK => ?_); go_simp; refine hK _ _ ?_; clear hK K; try clear Q')
  refine wpList_plainQ rfl (fun K Q' hK => ?_); go_simp
  refine h28.k_alloc (fun w29 h29 => ?_)
  refine hK _ _ ?_; clear hK K; try clear Q'
  have c_0 := h29.cell 9 rfl 0 rfl
  have f_0 := h29.free 9 rfl 0
  have c_1 := h29.cell 9 rfl 1 rfl
  have f_1 := h29.free 9 rfl 1
  refine wpList_plainQ rfl (fun K Q' hK => ?_); go_simp
  clear c_0 f_0 c_1 f_1
  refine (h29.set (i := 9) rfl 0 _).k_set 9 rfl (fun w30 h30 => ?_)
  refine hK _ _ ?_; clear hK K; try clear Q'
  iterate 1 (refine wpList_plainQ rfl (fun K Q' hK => ?_); go_simp; refine hK _ _ ?_; clear hK K; try clear Q')
  refine wpList_nil ?_
  show Code.wp _ _ _ _ _
  refine wp_seq ?_
  clear h27 htab_25 hXx_25 hRLb_25 dSp_25 hPa_25 h28 h29
  repeat (first | simp only [List.nil_append] at h30 | simp only [List.cons_append] at h30 | simp only [List.set_cons_zero] at h30 | simp only [List.set_cons_succ] at h30 | simp only [List.eraseIdx_zero] at h30 | simp only [List.tail_cons] at h30 | simp only [List.eraseIdx_cons_zero] at h30 | simp only [List.eraseIdx_cons_succ] at h30 | simp only [List.setIfInBounds_toArray] at h30)
  refine wp_region_lit ?_
  have c_8_0 := h30.cell 8 rfl 0 rfl
  iterate 1 (refine wpList_plainQ rfl (fun K Q' hK => ?_); go_simp; refine hK _ _ ?_; clear hK K; try clear Q')
  clear c_8_0
  -- stops at: eff:call (Go.Op.call {'callee': (Go.Callee.value (Go.Operand.func 25)), 'args': [(Go.Operand.tmp 72), (Go.Operand.const (Go.Value.pointer none))], 'argTypes': [26, 36]}) slot 73
  as_aux_lemma =>
  refine wpList_plainQ rfl (fun K Q' hK => ?_); go_simp
  refine (hpop_ok (m := none) h30.pre (by omega) hIa_28).mono ?_
  rintro e wPb ⟨rPb, HPb, rfl, hpPb, hPb⟩
  simp only [hmone, Option.isSome_some]
  have h31 := h30.call0 hpPb
  have htab_31 := htab_28.mono hpPb.le
  have hXx_31 := hXx_28.mono hpPb.le
  have hRLb_31 := hRLb_28.mono hpPb.le
  have dSp_31 := dSp_28.mono hpPb.le
  have hPa_31 := hPa_28.mono hpPb.le
  have hIa_31 := hIa_28.mono hpPb.le
  refine hK _ _ ?_; clear hK K; try clear Q'
  iterate 3 (refine wpList_plainQ rfl (fun K Q' hK => ?_); go_simp; refine hK _ _ ?_; clear hK K; try clear Q')
  refine wpList_plainQ rfl (fun K Q' hK => ?_); go_simp
  refine h31.k_alloc (fun w32 h32 => ?_)
  refine hK _ _ ?_; clear hK K; try clear Q'
  have c_0 := h32.cell 10 rfl 0 rfl
  have f_0 := h32.free 10 rfl 0
  refine wpList_plainQ rfl (fun K Q' hK => ?_); go_simp
  clear c_0 f_0
  refine h32.k_set 10 rfl (fun w33 h33 => ?_)
  refine hK _ _ ?_; clear hK K; try clear Q'
  iterate 1 (refine wpList_plainQ rfl (fun K Q' hK => ?_); go_simp; refine hK _ _ ?_; clear hK K; try clear Q')
  refine wpList_nil ?_
  show Code.wp _ _ _ _ _
  refine wp_seq ?_
  clear h30 htab_28 hXx_28 hRLb_28 dSp_28 hPa_28 hIa_28 h31 h32
  repeat (first | simp only [List.nil_append] at h33 | simp only [List.cons_append] at h33 | simp only [List.set_cons_zero] at h33 | simp only [List.set_cons_succ] at h33 | simp only [List.eraseIdx_zero] at h33 | simp only [List.tail_cons] at h33 | simp only [List.eraseIdx_cons_zero] at h33 | simp only [List.eraseIdx_cons_succ] at h33 | simp only [List.setIfInBounds_toArray] at h33)
  refine h33.region [2, 4, 5, 7, 8, 9, 10] [(0, true), (2, true), (1, false), (3, false), (4, true), (5, true), (6, true), (7, true), (8, true), (9, true), (10, true), (11, true), (12, true), (13, true), (14, false), (15, true), (16, true), (17, true), (18, true), (19, false), (20, true), (21, true), (22, true), (23, true), (24, true), (25, false), (26, false), (27, true), (28, true), (29, true), (30, true), (31, true), (32, true), (33, true), (34, true), (35, true), (36, true), (37, true), (38, true), (39, true), (40, true), (41, true), (42, false), (43, true), (44, true), (45, true), (46, true), (47, true), (50, true), (48, false), (49, false), (51, false), (52, true), (53, true), (54, true), (55, true), (56, true), (59, true), (57, false), (58, false), (60, false), (61, true), (62, true), (63, true), (64, true), (66, true), (65, false), (67, false), (68, true), (69, true), (70, true)] (by kernel_rfl) (by kernel_rfl) (fun w34 h34 => ?_)
  refine wpOrd_hide (fun _ _ d _ _ h => by cases d <;> exact h) (fun QR hQn hQp => ?_)
  iterate 2 (refine wpOrd_get (by conv => lhs; whnf) ?_; refine wpOrd_quiet (v := ?_) rfl (fun _ _ _ => hQp _ _ _ _ _) ?_ ?_; rotate_left; (intro w' hS; have c_4_0 := hS.cell 1 rfl 0 rfl; (first | (go_simp; done) | (go_simp; with_reducible rfl))); simp only [Act.put, List.setIfInBounds_toArray, List.set_cons_zero, List.set_cons_succ])
  -- stops at: eff:call (Go.Op.call {'callee': (Go.Callee.value (Go.Operand.func 17)), 'args': [(Go.Operand.tmp 76), (Go.Operand.const (Go.Value.int Go.IntKind.i64 9))], 'argTypes': [2 slot 77
  as_aux_lemma =>
  refine wpOrd_get (by conv => lhs; whnf) ?_
  refine wpOrd_effQ rfl (fun K Q' hK => ?_); go_simp
  refine (drain_ok _ _ _ Xx 9 (by omega) (by omega) h34.fits hXx_31).mono ?_
  rintro e wDh ⟨vDh, HDh, rfl, hpDh, dDh⟩
  rw [drainL_all 9 Xx oXx (by omega), sortE_congr pXx.out] at dDh
  have h35 := h34.call0 hpDh
  have htab_35 := htab_31.mono hpDh.le
  have hXx_35 := hXx_31.mono hpDh.le
  have hRLb_35 := hRLb_31.mono hpDh.le
  have dSp_35 := dSp_31.mono hpDh.le
  have hPa_35 := hPa_31.mono hpDh.le
  have hIa_35 := hIa_31.mono hpDh.le
  have hPb_35 := hPb.mono hpDh.le
  refine hK _ _ (h35.sat' hpDh.le [2, 4, 5, 7, 8, 9, 10] (by kernel_rfl)) ?_; clear hK K; try clear Q'
  -- stops at: eff:call (Go.Op.call {'callee': (Go.Callee.value (Go.Operand.func 18)), 'args': [(Go.Operand.tmp 77), (Go.Operand.tmp 78)], 'argTypes': [22, 22]}) slot 79
  as_aux_lemma =>
  refine wpOrd_get (by conv => lhs; whnf) ?_
  refine wpOrd_effQ rfl (fun K Q' hK => ?_); go_simp
  refine (rsame_ok _ _ _ _ _ _ (by rw [sortE_length]; omega) (by rw [sortE_length]; omega) h35.fits dDh dSp_35).mono ?_
  rintro e wE1 ⟨rfl, hkE1⟩
  rw [decide_eq_true (rfl)]
  have h36 := h35.callk hkE1
  refine hK _ _ (h36.sat' hpDh.le [2, 4, 5, 7, 8, 9, 10] (by kernel_rfl)) ?_; clear hK K; try clear Q'
  iterate 1 (refine wpOrd_get (by conv => lhs; whnf) ?_; refine wpOrd_quiet (v := ?_) rfl (fun _ _ _ => hQp _ _ _ _ _) ?_ ?_; rotate_left; (intro w' hS; (first | (go_simp; done) | (go_simp; with_reducible rfl))); simp only [Act.put, List.setIfInBounds_toArray, List.set_cons_zero, List.set_cons_succ])
  iterate 2 (refine wpOrd_get (by conv => lhs; whnf) ?_; refine wpOrd_quiet (v := ?_) (by kernel_rfl) (fun _ _ _ => hQp _ _ _ _ _) ?_ ?_; rotate_left; (intro w' hS; (first | (go_simp; done) | (go_simp; with_reducible rfl))); simp only [Act.put, List.setIfInBounds_toArray, List.set_cons_zero, List.set_cons_succ])
  iterate 2 (refine wpOrd_get (by conv => lhs; whnf) ?_; refine wpOrd_quiet (v := ?_) rfl (fun _ _ _ => hQp _ _ _ _ _) ?_ ?_; rotate_left; (intro w' hS; (first | (go_simp; done) | (go_simp; with_reducible rfl))); simp only [Act.put, List.setIfInBounds_toArray, List.set_cons_zero, List.set_cons_succ])
  iterate 2 (refine wpOrd_get (by conv => lhs; whnf) ?_; refine wpOrd_quiet (v := ?_) (by kernel_rfl) (fun _ _ _ => hQp _ _ _ _ _) ?_ ?_; rotate_left; (intro w' hS; (first | (go_simp; done) | (go_simp; with_reducible rfl))); simp only [Act.put, List.setIfInBounds_toArray, List.set_cons_zero, List.set_cons_succ])
  iterate 2 (refine wpOrd_get (by conv => lhs; whnf) ?_; refine wpOrd_quiet (v := ?_) rfl (fun _ _ _ => hQp _ _ _ _ _) ?_ ?_; rotate_left; (intro w' hS; (first | (go_simp; done) | (go_simp; with_reducible rfl))); simp only [Act.put, List.setIfInBounds_toArray, List.set_cons_zero, List.set_cons_succ])
  iterate 1 (refine wpOrd_get (by conv => lhs; whnf) ?_; refine wpOrd_quiet (v := ?_) (by kernel_rfl) (fun _ _ _ => hQp _ _ _ _ _) ?_ ?_; rotate_left; (intro w' hS; have c_7_0 := hS.cell 3 rfl 0 rfl; (first | (go_simp; done) | (go_simp; with_reducible rfl))); simp only [Act.put, List.setIfInBounds_toArray, List.set_cons_zero, List.set_cons_succ])
  -- stops at: eff:call (Go.Op.call {'callee': (Go.Callee.value (Go.Operand.func 20)), 'args': [(Go.Operand.tmp 89)], 'argTypes': [26]}) slot 90
  refine wpOrd_get (by conv => lhs; whnf) ?_
  refine wpOrd_effQ (by kernel_rfl) (fun K Q' hK => ?_); go_simp
  refine (hsize_ok h36.fits (by omega) hPa_35).mono ?_
  rintro e wZ1 ⟨HZ1, rfl, hpZ1⟩
  rw [s0]
  have h37 := h36.call0 hpZ1
  have htab_37 := htab_35.mono hpZ1.le
  have hXx_37 := hXx_35.mono hpZ1.le
  have hRLb_37 := hRLb_35.mono hpZ1.le
  have dSp_37 := dSp_35.mono hpZ1.le
  have hPa_37 := hPa_35.mono hpZ1.le
  have hIa_37 := hIa_35.mono hpZ1.le
  have hPb_37 := hPb_35.mono hpZ1.le
  have dDh_37 := dDh.mono hpZ1.le
  refine hK _ _ (h37.sat' (GH.le.trans hpDh.le hpZ1.le) [2, 4, 5, 7, 8, 9, 10] (by kernel_rfl)) ?_; clear hK K; try clear Q'
  iterate 1 (refine wpOrd_get (by conv => lhs; whnf) ?_; refine wpOrd_quiet (v := ?_) (by kernel_rfl) (fun _ _ _ => hQp _ _ _ _ _) ?_ ?_; rotate_left; (intro w' hS; (first | (go_simp; done) | (go_simp; with_reducible rfl))); simp only [Act.put, List.setIfInBounds_toArray, List.set_cons_zero, List.set_cons_succ])
  iterate 2 (refine wpOrd_get (by conv => lhs; whnf) ?_; refine wpOrd_quiet (v := ?_) rfl (fun _ _ _ => hQp _ _ _ _ _) ?_ ?_; rotate_left; (intro w' hS; (first | (go_simp; done) | (go_simp; with_reducible rfl))); simp only [Act.put, List.setIfInBounds_toArray, List.set_cons_zero, List.set_cons_succ])
  iterate 1 (refine wpOrd_get (by conv => lhs; whnf) ?_; refine wpOrd_quiet (v := ?_) (by kernel_rfl) (fun _ _ _ => hQp _ _ _ _ _) ?_ ?_; rotate_left; (intro w' hS; have c_5_0 := hS.cell 2 rfl 0 rfl; (first | (go_simp; done) | (go_simp; with_reducible rfl))); simp only [Act.put, List.setIfInBounds_toArray, List.set_cons_zero, List.set_cons_succ])
  -- stops at: eff:call (Go.Op.call {'callee': (Go.Callee.value (Go.Operand.func 20)), 'args': [(Go.Operand.tmp 94)], 'argTypes': [26]}) slot 95
  as_aux_lemma =>
  refine wpOrd_get (by conv => lhs; whnf) ?_
  refine wpOrd_effQ (by kernel_rfl) (fun K Q' hK => ?_); go_simp
  refine (hsize_ok h37.fits (by omega) (HpR.nil _)).mono ?_
  rintro e wZ2 ⟨HZ2, rfl, hpZ2⟩
  rw [s0]
  have h38 := h37.call0 hpZ2
  have htab_38 := htab_37.mono hpZ2.le
  have hXx_38 := hXx_37.mono hpZ2.le
  have hRLb_38 := hRLb_37.mono hpZ2.le
  have dSp_38 := dSp_37.mono hpZ2.le
  have hPa_38 := hPa_37.mono hpZ2.le
  have hIa_38 := hIa_37.mono hpZ2.le
  have hPb_38 := hPb_37.mono hpZ2.le
  have dDh_38 := dDh_37.mono hpZ2.le
  refine hK _ _ (h38.sat' (GH.le.trans (GH.le.trans hpDh.le hpZ1.le) hpZ2.le) [2, 4, 5, 7, 8, 9, 10] (by kernel_rfl)) ?_; clear hK K; try clear Q'
  iterate 1 (refine wpOrd_get (by conv => lhs; whnf) ?_; refine wpOrd_quiet (v := ?_) (by kernel_rfl) (fun _ _ _ => hQp _ _ _ _ _) ?_ ?_; rotate_left; (intro w' hS; (first | (go_simp; done) | (go_simp; with_reducible rfl))); simp only [Act.put, List.setIfInBounds_toArray, List.set_cons_zero, List.set_cons_succ])
  iterate 2 (refine wpOrd_get (by conv => lhs; whnf) ?_; refine wpOrd_quiet (v := ?_) rfl (fun _ _ _ => hQp _ _ _ _ _) ?_ ?_; rotate_left; (intro w' hS; (first | (go_simp; done) | (go_simp; with_reducible rfl))); simp only [Act.put, List.setIfInBounds_toArray, List.set_cons_zero, List.set_cons_succ])
  iterate 2 (refine wpOrd_get (by conv => lhs; whnf) ?_; refine wpOrd_quiet (v := ?_) (by kernel_rfl) (fun _ _ _ => hQp _ _ _ _ _) ?_ ?_; rotate_left; (intro w' hS; have c_5_0 := hS.cell 2 rfl 0 rfl; (first | (go_simp; done) | (go_simp; with_reducible rfl))); simp only [Act.put, List.setIfInBounds_toArray, List.set_cons_zero, List.set_cons_succ])
  -- stops at: eff:call (Go.Op.call {'callee': (Go.Callee.value (Go.Operand.func 15)), 'args': [(Go.Operand.tmp 99), (Go.Operand.const (Go.Value.pointer none)), (Go.Operand.tmp 100)],  slot 101
  as_aux_lemma =>
  refine wpOrd_get (by conv => lhs; whnf) ?_
  refine wpOrd_effQ (by kernel_rfl) (fun K Q' hK => ?_); go_simp
  refine (hmeld_ok (m := none) h38.pre (by omega) (HpR.nil _) (HpR.nil _)).mono ?_
  rintro e wNa ⟨rNa, HNa, rfl, hpNa, hNa⟩
  have h39 := h38.call0 hpNa
  have htab_39 := htab_38.mono hpNa.le
  have hXx_39 := hXx_38.mono hpNa.le
  have hRLb_39 := hRLb_38.mono hpNa.le
  have dSp_39 := dSp_38.mono hpNa.le
  have hPa_39 := hPa_38.mono hpNa.le
  have hIa_39 := hIa_38.mono hpNa.le
  have hPb_39 := hPb_38.mono hpNa.le
  have dDh_39 := dDh_38.mono hpNa.le
  refine hK _ _ (h39.sat' (GH.le.trans (GH.le.trans (GH.le.trans hpDh.le hpZ1.le) hpZ2.le) hpNa.le) [2, 4, 5, 7, 8, 9, 10] (by kernel_rfl)) ?_; clear hK K; try clear Q'
  -- stops at: eff:call (Go.Op.call {'callee': (Go.Callee.value (Go.Operand.func 20)), 'args': [(Go.Operand.tmp 101)], 'argTypes': [26]}) slot 102
  as_aux_lemma =>
  refine wpOrd_get (by conv => lhs; whnf) ?_
  refine wpOrd_effQ (by kernel_rfl) (fun K Q' hK => ?_); go_simp
  refine (hsize_ok h39.fits (by omega) hNa).mono ?_
  rintro e wZ3 ⟨HZ3, rfl, hpZ3⟩
  rw [s3]
  have h40 := h39.call0 hpZ3
  have htab_40 := htab_39.mono hpZ3.le
  have hXx_40 := hXx_39.mono hpZ3.le
  have hRLb_40 := hRLb_39.mono hpZ3.le
  have dSp_40 := dSp_39.mono hpZ3.le
  have hPa_40 := hPa_39.mono hpZ3.le
  have hIa_40 := hIa_39.mono hpZ3.le
  have hPb_40 := hPb_39.mono hpZ3.le
  have dDh_40 := dDh_39.mono hpZ3.le
  have hNa_40 := hNa.mono hpZ3.le
  refine hK _ _ (h40.sat' (GH.le.trans (GH.le.trans (GH.le.trans (GH.le.trans hpDh.le hpZ1.le) hpZ2.le) hpNa.le) hpZ3.le) [2, 4, 5, 7, 8, 9, 10] (by kernel_rfl)) ?_; clear hK K; try clear Q'
  iterate 1 (refine wpOrd_get (by conv => lhs; whnf) ?_; refine wpOrd_quiet (v := ?_) (by kernel_rfl) (fun _ _ _ => hQp _ _ _ _ _) ?_ ?_; rotate_left; (intro w' hS; (first | (go_simp; done) | (go_simp; with_reducible rfl))); simp only [Act.put, List.setIfInBounds_toArray, List.set_cons_zero, List.set_cons_succ])
  iterate 2 (refine wpOrd_get (by conv => lhs; whnf) ?_; refine wpOrd_quiet (v := ?_) rfl (fun _ _ _ => hQp _ _ _ _ _) ?_ ?_; rotate_left; (intro w' hS; (first | (go_simp; done) | (go_simp; with_reducible rfl))); simp only [Act.put, List.setIfInBounds_toArray, List.set_cons_zero, List.set_cons_succ])
  iterate 1 (refine wpOrd_get (by conv => lhs; whnf) ?_; refine wpOrd_quiet (v := ?_) (by kernel_rfl) (fun _ _ _ => hQp _ _ _ _ _) ?_ ?_; rotate_left; (intro w' hS; (first | (go_simp; done) | (go_simp; with_reducible rfl))); simp only [Act.put, List.setIfInBounds_toArray, List.set_cons_zero, List.set_cons_succ])
  iterate 2 (refine wpOrd_get (by conv => lhs; whnf) ?_; refine wpOrd_quiet (v := ?_) rfl (fun _ _ _ => hQp _ _ _ _ _) ?_ ?_; rotate_left; (intro w' hS; (first | (go_simp; done) | (go_simp; with_reducible rfl))); simp only [Act.put, List.setIfInBounds_toArray, List.set_cons_zero, List.set_cons_succ])
  iterate 3 (refine wpOrd_get (by conv => lhs; whnf) ?_; refine wpOrd_quiet (v := ?_) (by kernel_rfl) (fun _ _ _ => hQp _ _ _ _ _) ?_ ?_; rotate_left; (intro w' hS; have c_9_0 := hS.cell 5 rfl 0 rfl; have c_9_1 := hS.cell 5 rfl 1 rfl; have c_2_0 := hS.cell 0 rfl 0 rfl; have c_2_1 := hS.cell 0 rfl 1 rfl; (first | (go_simp; done) | (go_simp; with_reducible rfl))); simp only [Act.put, List.setIfInBounds_toArray, List.set_cons_zero, List.set_cons_succ])
  iterate 2 (refine wpOrd_get (by conv => lhs; whnf) ?_; refine wpOrd_quiet (v := ?_) rfl (fun _ _ _ => hQp _ _ _ _ _) ?_ ?_; rotate_left; (intro w' hS; (first | (go_simp; done) | (go_simp; with_reducible rfl))); simp only [Act.put, List.setIfInBounds_toArray, List.set_cons_zero, List.set_cons_succ])
  iterate 1 (refine wpOrd_get (by conv => lhs; whnf) ?_; refine wpOrd_quiet (v := ?_) (by kernel_rfl) (fun _ _ _ => hQp _ _ _ _ _) ?_ ?_; rotate_left; (intro w' hS; (first | (go_simp; done) | (go_simp; with_reducible rfl))); simp only [Act.put, List.setIfInBounds_toArray, List.set_cons_zero, List.set_cons_succ])
  iterate 2 (refine wpOrd_get (by conv => lhs; whnf) ?_; refine wpOrd_quiet (v := ?_) rfl (fun _ _ _ => hQp _ _ _ _ _) ?_ ?_; rotate_left; (intro w' hS; (first | (go_simp; done) | (go_simp; with_reducible rfl))); simp only [Act.put, List.setIfInBounds_toArray, List.set_cons_zero, List.set_cons_succ])
  iterate 1 (refine wpOrd_get (by conv => lhs; whnf) ?_; refine wpOrd_quiet (v := ?_) (by kernel_rfl) (fun _ _ _ => hQp _ _ _ _ _) ?_ ?_; rotate_left; (intro w' hS; have c_10_0 := hS.cell 6 rfl 0 rfl; (first | (go_simp; done) | (go_simp; with_reducible rfl))); simp only [Act.put, List.setIfInBounds_toArray, List.set_cons_zero, List.set_cons_succ])
  -- stops at: eff:call (Go.Op.call {'callee': (Go.Callee.value (Go.Operand.func 20)), 'args': [(Go.Operand.tmp 117)], 'argTypes': [26]}) slot 118
  as_aux_lemma =>
  refine wpOrd_get (by conv => lhs; whnf) ?_
  refine wpOrd_effQ (by kernel_rfl) (fun K Q' hK => ?_); go_simp
  refine (hsize_ok h40.fits (by omega) hPb_40).mono ?_
  rintro e wZ4 ⟨HZ4, rfl, hpZ4⟩
  rw [s2]
  have h41 := h40.call0 hpZ4
  have htab_41 := htab_40.mono hpZ4.le
  have hXx_41 := hXx_40.mono hpZ4.le
  have hRLb_41 := hRLb_40.mono hpZ4.le
  have dSp_41 := dSp_40.mono hpZ4.le
  have hPa_41 := hPa_40.mono hpZ4.le
  have hIa_41 := hIa_40.mono hpZ4.le
  have hPb_41 := hPb_40.mono hpZ4.le
  have dDh_41 := dDh_40.mono hpZ4.le
  have hNa_41 := hNa_40.mono hpZ4.le
  refine hK _ _ (h41.sat' (GH.le.trans (GH.le.trans (GH.le.trans (GH.le.trans (GH.le.trans hpDh.le hpZ1.le) hpZ2.le) hpNa.le) hpZ3.le) hpZ4.le) [2, 4, 5, 7, 8, 9, 10] (by kernel_rfl)) ?_; clear hK K; try clear Q'
  iterate 1 (refine wpOrd_get (by conv => lhs; whnf) ?_; refine wpOrd_quiet (v := ?_) (by kernel_rfl) (fun _ _ _ => hQp _ _ _ _ _) ?_ ?_; rotate_left; (intro w' hS; (first | (go_simp; done) | (go_simp; with_reducible rfl))); simp only [Act.put, List.setIfInBounds_toArray, List.set_cons_zero, List.set_cons_succ])
  iterate 2 (refine wpOrd_get (by conv => lhs; whnf) ?_; refine wpOrd_quiet (v := ?_) rfl (fun _ _ _ => hQp _ _ _ _ _) ?_ ?_; rotate_left; (intro w' hS; (first | (go_simp; done) | (go_simp; with_reducible rfl))); simp only [Act.put, List.setIfInBounds_toArray, List.set_cons_zero, List.set_cons_succ])
  iterate 3 (refine wpOrd_get (by conv => lhs; whnf) ?_; refine wpOrd_quiet (v := ?_) (by kernel_rfl) (fun _ _ _ => hQp _ _ _ _ _) ?_ ?_; rotate_left; (intro w' hS; have c_5_0 := hS.cell 2 rfl 0 rfl; have c_8_0 := hS.cell 4 rfl 0 rfl; (first | (go_simp; done) | (go_simp; with_reducible rfl))); simp only [Act.put, List.setIfInBounds_toArray, List.set_cons_zero, List.set_cons_succ])
  -- stops at: eff:call (Go.Op.call {'callee': (Go.Callee.value (Go.Operand.func 15)), 'args': [(Go.Operand.tmp 122), (Go.Operand.const (Go.Value.pointer none)), (Go.Operand.tmp 123)], slot 124
  as_aux_lemma =>
  refine wpOrd_get (by conv => lhs; whnf) ?_
  refine wpOrd_effQ (by kernel_rfl) (fun K Q' hK => ?_); go_simp
  refine (hmeld_ok (m := none) h41.pre (by omega) (HpR.nil _) hIa_41).mono ?_
  rintro e wNb ⟨rNb, HNb, rfl, hpNb, hNb⟩
  have h42 := h41.call0 hpNb
  have htab_42 := htab_41.mono hpNb.le
  have hXx_42 := hXx_41.mono hpNb.le
  have hRLb_42 := hRLb_41.mono hpNb.le
  have dSp_42 := dSp_41.mono hpNb.le
  have hPa_42 := hPa_41.mono hpNb.le
  have hIa_42 := hIa_41.mono hpNb.le
  have hPb_42 := hPb_41.mono hpNb.le
  have dDh_42 := dDh_41.mono hpNb.le
  have hNa_42 := hNa_41.mono hpNb.le
  refine hK _ _ (h42.sat' (GH.le.trans (GH.le.trans (GH.le.trans (GH.le.trans (GH.le.trans (GH.le.trans hpDh.le hpZ1.le) hpZ2.le) hpNa.le) hpZ3.le) hpZ4.le) hpNb.le) [2, 4, 5, 7, 8, 9, 10] (by kernel_rfl)) ?_; clear hK K; try clear Q'
  -- stops at: eff:call (Go.Op.call {'callee': (Go.Callee.value (Go.Operand.func 26)), 'args': [(Go.Operand.tmp 124)], 'argTypes': [26]}) slot 125
  as_aux_lemma =>
  refine wpOrd_get (by conv => lhs; whnf) ?_
  refine wpOrd_effQ (by kernel_rfl) (fun K Q' hK => ?_); go_simp
  refine (hshow_ok htab_42 h42.fits (by omega) hNb).mono ?_
  rintro e wT1 ⟨HT1, rfl, hpT1⟩
  rw [t2]
  have h43 := h42.call0 hpT1
  have htab_43 := htab_42.mono hpT1.le
  have hXx_43 := hXx_42.mono hpT1.le
  have hRLb_43 := hRLb_42.mono hpT1.le
  have dSp_43 := dSp_42.mono hpT1.le
  have hPa_43 := hPa_42.mono hpT1.le
  have hIa_43 := hIa_42.mono hpT1.le
  have hPb_43 := hPb_42.mono hpT1.le
  have dDh_43 := dDh_42.mono hpT1.le
  have hNa_43 := hNa_42.mono hpT1.le
  have hNb_43 := hNb.mono hpT1.le
  refine hK _ _ (h43.sat' (GH.le.trans (GH.le.trans (GH.le.trans (GH.le.trans (GH.le.trans (GH.le.trans (GH.le.trans hpDh.le hpZ1.le) hpZ2.le) hpNa.le) hpZ3.le) hpZ4.le) hpNb.le) hpT1.le) [2, 4, 5, 7, 8, 9, 10] (by kernel_rfl)) ?_; clear hK K; try clear Q'
  -- stops at: eff:call (Go.Op.call {'callee': (Go.Callee.value (Go.Operand.func 26)), 'args': [(Go.Operand.tmp 126)], 'argTypes': [26]}) slot 127
  as_aux_lemma =>
  refine wpOrd_get (by conv => lhs; whnf) ?_
  refine wpOrd_effQ (by kernel_rfl) (fun K Q' hK => ?_); go_simp
  refine (hshow_ok htab_43 h43.fits (by omega) hIa_43).mono ?_
  rintro e wT2 ⟨HT2, rfl, hpT2⟩
  rw [ht1.out]
  have h44 := h43.call0 hpT2
  have htab_44 := htab_43.mono hpT2.le
  have hXx_44 := hXx_43.mono hpT2.le
  have hRLb_44 := hRLb_43.mono hpT2.le
  have dSp_44 := dSp_43.mono hpT2.le
  have hPa_44 := hPa_43.mono hpT2.le
  have hIa_44 := hIa_43.mono hpT2.le
  have hPb_44 := hPb_43.mono hpT2.le
  have dDh_44 := dDh_43.mono hpT2.le
  have hNa_44 := hNa_43.mono hpT2.le
  have hNb_44 := hNb_43.mono hpT2.le
  refine hK _ _ (h44.sat' (GH.le.trans (GH.le.trans (GH.le.trans (GH.le.trans (GH.le.trans (GH.le.trans (GH.le.trans (GH.le.trans hpDh.le hpZ1.le) hpZ2.le) hpNa.le) hpZ3.le) hpZ4.le) hpNb.le) hpT1.le) hpT2.le) [2, 4, 5, 7, 8, 9, 10] (by kernel_rfl)) ?_; clear hK K; try clear Q'
  iterate 1 (refine wpOrd_get (by conv => lhs; whnf) ?_; refine wpOrd_quiet (v := ?_) (by kernel_rfl) (fun _ _ _ => hQp _ _ _ _ _) ?_ ?_; rotate_left; (intro w' hS; (first | (go_simp; done) | (go_simp; with_reducible rfl))); simp only [Act.put, List.setIfInBounds_toArray, List.set_cons_zero, List.set_cons_succ])
  iterate 2 (refine wpOrd_get (by conv => lhs; whnf) ?_; refine wpOrd_quiet (v := ?_) rfl (fun _ _ _ => hQp _ _ _ _ _) ?_ ?_; rotate_left; (intro w' hS; (first | (go_simp; done) | (go_simp; with_reducible rfl))); simp only [Act.put, List.setIfInBounds_toArray, List.set_cons_zero, List.set_cons_succ])
  iterate 3 (refine wpOrd_get (by conv => lhs; whnf) ?_; refine wpOrd_quiet (v := ?_) (by kernel_rfl) (fun _ _ _ => hQp _ _ _ _ _) ?_ ?_; rotate_left; (intro w' hS; have c_8_0 := hS.cell 4 rfl 0 rfl; have c_5_0 := hS.cell 2 rfl 0 rfl; (first | (go_simp; done) | (go_simp; with_reducible rfl))); simp only [Act.put, List.setIfInBounds_toArray, List.set_cons_zero, List.set_cons_succ])
  -- stops at: eff:call (Go.Op.call {'callee': (Go.Callee.value (Go.Operand.func 15)), 'args': [(Go.Operand.tmp 131), (Go.Operand.const (Go.Value.pointer none)), (Go.Operand.tmp 132)], slot 133
  as_aux_lemma =>
  refine wpOrd_get (by conv => lhs; whnf) ?_
  refine wpOrd_effQ (by kernel_rfl) (fun K Q' hK => ?_); go_simp
  refine (hmeld_ok (m := none) h44.pre (by omega) hIa_44 (HpR.nil _)).mono ?_
  rintro e wNc ⟨rNc, HNc, rfl, hpNc, hNc⟩
  have h45 := h44.call0 hpNc
  have htab_45 := htab_44.mono hpNc.le
  have hXx_45 := hXx_44.mono hpNc.le
  have hRLb_45 := hRLb_44.mono hpNc.le
  have dSp_45 := dSp_44.mono hpNc.le
  have hPa_45 := hPa_44.mono hpNc.le
  have hIa_45 := hIa_44.mono hpNc.le
  have hPb_45 := hPb_44.mono hpNc.le
  have dDh_45 := dDh_44.mono hpNc.le
  have hNa_45 := hNa_44.mono hpNc.le
  have hNb_45 := hNb_44.mono hpNc.le
  refine hK _ _ (h45.sat' (GH.le.trans (GH.le.trans (GH.le.trans (GH.le.trans (GH.le.trans (GH.le.trans (GH.le.trans (GH.le.trans (GH.le.trans hpDh.le hpZ1.le) hpZ2.le) hpNa.le) hpZ3.le) hpZ4.le) hpNb.le) hpT1.le) hpT2.le) hpNc.le) [2, 4, 5, 7, 8, 9, 10] (by kernel_rfl)) ?_; clear hK K; try clear Q'
  -- stops at: eff:call (Go.Op.call {'callee': (Go.Callee.value (Go.Operand.func 26)), 'args': [(Go.Operand.tmp 133)], 'argTypes': [26]}) slot 134
  as_aux_lemma =>
  refine wpOrd_get (by conv => lhs; whnf) ?_
  refine wpOrd_effQ (by kernel_rfl) (fun K Q' hK => ?_); go_simp
  refine (hshow_ok htab_45 h45.fits (by omega) hNc).mono ?_
  rintro e wT3 ⟨HT3, rfl, hpT3⟩
  rw [t3]
  have h46 := h45.call0 hpT3
  have htab_46 := htab_45.mono hpT3.le
  have hXx_46 := hXx_45.mono hpT3.le
  have hRLb_46 := hRLb_45.mono hpT3.le
  have dSp_46 := dSp_45.mono hpT3.le
  have hPa_46 := hPa_45.mono hpT3.le
  have hIa_46 := hIa_45.mono hpT3.le
  have hPb_46 := hPb_45.mono hpT3.le
  have dDh_46 := dDh_45.mono hpT3.le
  have hNa_46 := hNa_45.mono hpT3.le
  have hNb_46 := hNb_45.mono hpT3.le
  have hNc_46 := hNc.mono hpT3.le
  refine hK _ _ (h46.sat' (GH.le.trans (GH.le.trans (GH.le.trans (GH.le.trans (GH.le.trans (GH.le.trans (GH.le.trans (GH.le.trans (GH.le.trans (GH.le.trans hpDh.le hpZ1.le) hpZ2.le) hpNa.le) hpZ3.le) hpZ4.le) hpNb.le) hpT1.le) hpT2.le) hpNc.le) hpT3.le) [2, 4, 5, 7, 8, 9, 10] (by kernel_rfl)) ?_; clear hK K; try clear Q'
  -- stops at: eff:call (Go.Op.call {'callee': (Go.Callee.value (Go.Operand.func 26)), 'args': [(Go.Operand.tmp 135)], 'argTypes': [26]}) slot 136
  as_aux_lemma =>
  refine wpOrd_get (by conv => lhs; whnf) ?_
  refine wpOrd_effQ (by kernel_rfl) (fun K Q' hK => ?_); go_simp
  refine (hshow_ok htab_46 h46.fits (by omega) hIa_46).mono ?_
  rintro e wT4 ⟨HT4, rfl, hpT4⟩
  rw [ht1.out]
  have h47 := h46.call0 hpT4
  have htab_47 := htab_46.mono hpT4.le
  have hXx_47 := hXx_46.mono hpT4.le
  have hRLb_47 := hRLb_46.mono hpT4.le
  have dSp_47 := dSp_46.mono hpT4.le
  have hPa_47 := hPa_46.mono hpT4.le
  have hIa_47 := hIa_46.mono hpT4.le
  have hPb_47 := hPb_46.mono hpT4.le
  have dDh_47 := dDh_46.mono hpT4.le
  have hNa_47 := hNa_46.mono hpT4.le
  have hNb_47 := hNb_46.mono hpT4.le
  have hNc_47 := hNc_46.mono hpT4.le
  refine hK _ _ (h47.sat' (GH.le.trans (GH.le.trans (GH.le.trans (GH.le.trans (GH.le.trans (GH.le.trans (GH.le.trans (GH.le.trans (GH.le.trans (GH.le.trans (GH.le.trans hpDh.le hpZ1.le) hpZ2.le) hpNa.le) hpZ3.le) hpZ4.le) hpNb.le) hpT1.le) hpT2.le) hpNc.le) hpT3.le) hpT4.le) [2, 4, 5, 7, 8, 9, 10] (by kernel_rfl)) ?_; clear hK K; try clear Q'
  iterate 1 (refine wpOrd_get (by conv => lhs; whnf) ?_; refine wpOrd_quiet (v := ?_) (by kernel_rfl) (fun _ _ _ => hQp _ _ _ _ _) ?_ ?_; rotate_left; (intro w' hS; (first | (go_simp; done) | (go_simp; with_reducible rfl))); simp only [Act.put, List.setIfInBounds_toArray, List.set_cons_zero, List.set_cons_succ])
  iterate 2 (refine wpOrd_get (by conv => lhs; whnf) ?_; refine wpOrd_quiet (v := ?_) rfl (fun _ _ _ => hQp _ _ _ _ _) ?_ ?_; rotate_left; (intro w' hS; (first | (go_simp; done) | (go_simp; with_reducible rfl))); simp only [Act.put, List.setIfInBounds_toArray, List.set_cons_zero, List.set_cons_succ])
  iterate 2 (refine wpOrd_get (by conv => lhs; whnf) ?_; refine wpOrd_quiet (v := ?_) (by kernel_rfl) (fun _ _ _ => hQp _ _ _ _ _) ?_ ?_; rotate_left; (intro w' hS; have c_10_0 := hS.cell 6 rfl 0 rfl; have c_5_0 := hS.cell 2 rfl 0 rfl; (first | (go_simp; done) | (go_simp; with_reducible rfl))); simp only [Act.put, List.setIfInBounds_toArray, List.set_cons_zero, List.set_cons_succ])
  -- stops at: eff:call (Go.Op.call {'callee': (Go.Callee.value (Go.Operand.func 26)), 'args': [(Go.Operand.tmp 140)], 'argTypes': [26]}) slot 141
  as_aux_lemma =>
  refine wpOrd_get (by conv => lhs; whnf) ?_
  refine wpOrd_effQ (by kernel_rfl) (fun K Q' hK => ?_); go_simp
  refine (hshow_ok htab_47 h47.fits (by omega) hPb_47).mono ?_
  rintro e wT5 ⟨HT5, rfl, hpT5⟩
  rw [t4]
  have h48 := h47.call0 hpT5
  have htab_48 := htab_47.mono hpT5.le
  have hXx_48 := hXx_47.mono hpT5.le
  have hRLb_48 := hRLb_47.mono hpT5.le
  have dSp_48 := dSp_47.mono hpT5.le
  have hPa_48 := hPa_47.mono hpT5.le
  have hIa_48 := hIa_47.mono hpT5.le
  have hPb_48 := hPb_47.mono hpT5.le
  have dDh_48 := dDh_47.mono hpT5.le
  have hNa_48 := hNa_47.mono hpT5.le
  have hNb_48 := hNb_47.mono hpT5.le
  have hNc_48 := hNc_47.mono hpT5.le
  refine hK _ _ (h48.sat' (GH.le.trans (GH.le.trans (GH.le.trans (GH.le.trans (GH.le.trans (GH.le.trans (GH.le.trans (GH.le.trans (GH.le.trans (GH.le.trans (GH.le.trans (GH.le.trans hpDh.le hpZ1.le) hpZ2.le) hpNa.le) hpZ3.le) hpZ4.le) hpNb.le) hpT1.le) hpT2.le) hpNc.le) hpT3.le) hpT4.le) hpT5.le) [2, 4, 5, 7, 8, 9, 10] (by kernel_rfl)) ?_; clear hK K; try clear Q'
  -- stops at: eff:call (Go.Op.call {'callee': (Go.Callee.value (Go.Operand.func 26)), 'args': [(Go.Operand.tmp 142)], 'argTypes': [26]}) slot 143
  as_aux_lemma =>
  refine wpOrd_get (by conv => lhs; whnf) ?_
  refine wpOrd_effQ (by kernel_rfl) (fun K Q' hK => ?_); go_simp
  refine (hshow_ok htab_48 h48.fits (by omega) (HpR.nil _)).mono ?_
  rintro e wT6 ⟨HT6, rfl, hpT6⟩
  rw [ht0.out]
  have h49 := h48.call0 hpT6
  have htab_49 := htab_48.mono hpT6.le
  have hXx_49 := hXx_48.mono hpT6.le
  have hRLb_49 := hRLb_48.mono hpT6.le
  have dSp_49 := dSp_48.mono hpT6.le
  have hPa_49 := hPa_48.mono hpT6.le
  have hIa_49 := hIa_48.mono hpT6.le
  have hPb_49 := hPb_48.mono hpT6.le
  have dDh_49 := dDh_48.mono hpT6.le
  have hNa_49 := hNa_48.mono hpT6.le
  have hNb_49 := hNb_48.mono hpT6.le
  have hNc_49 := hNc_48.mono hpT6.le
  refine hK _ _ (h49.sat' (GH.le.trans (GH.le.trans (GH.le.trans (GH.le.trans (GH.le.trans (GH.le.trans (GH.le.trans (GH.le.trans (GH.le.trans (GH.le.trans (GH.le.trans (GH.le.trans (GH.le.trans hpDh.le hpZ1.le) hpZ2.le) hpNa.le) hpZ3.le) hpZ4.le) hpNb.le) hpT1.le) hpT2.le) hpNc.le) hpT3.le) hpT4.le) hpT5.le) hpT6.le) [2, 4, 5, 7, 8, 9, 10] (by kernel_rfl)) ?_; clear hK K; try clear Q'
  iterate 1 (refine wpOrd_get (by conv => lhs; whnf) ?_; refine wpOrd_quiet (v := ?_) (by kernel_rfl) (fun _ _ _ => hQp _ _ _ _ _) ?_ ?_; rotate_left; (intro w' hS; (first | (go_simp; done) | (go_simp; with_reducible rfl))); simp only [Act.put, List.setIfInBounds_toArray, List.set_cons_zero, List.set_cons_succ])
  iterate 2 (refine wpOrd_get (by conv => lhs; whnf) ?_; refine wpOrd_quiet (v := ?_) rfl (fun _ _ _ => hQp _ _ _ _ _) ?_ ?_; rotate_left; (intro w' hS; (first | (go_simp; done) | (go_simp; with_reducible rfl))); simp only [Act.put, List.setIfInBounds_toArray, List.set_cons_zero, List.set_cons_succ])
  refine wpOrd_nil (hQn _ _ ?_); clear hQn hQp QR
  show Code.wp _ _ _ _ _
  -- stops at: ret
  as_aux_lemma =>
  refine wp_ret ?_
  go_ret
  exact ⟨rfl, h49.post.keep⟩
end Go.Proofs.YtceamdacacacjaaDoor
