/-
The document's rows of trees of heaps melded, levelled.
-/
import Derived.Test.YtkhjcmbppcimnaaGreatDoorTcPut
import Derived.Test.YtkhjcmbppcimnaaGreatDoorMiSkewUp
namespace Go.Proofs.YtkhjcmbppcimnaaGreatDoor
open Go Go.RowKit
set_option linter.unusedVariables false

set_option maxRecDepth 100000 in
set_option maxHeartbeats 8000000 in
theorem wtrees_ok : ∀ (a b : List (Tr Vp)) (H : GH) (w : World) (u v : Value), Fits w H → Rw.size a + Rw.size b < 1000000 → RsW H u a → RsW H v b →
    Calls Tryz.prog 64 #[u, v] w fun e w' => ∃ r H', e = .returned (.tuple #[r, .int .i64 (2 * Rw.meldN kw a b : Nat)]) ∧ Post w H none w' H' 0 0 ∧ RsW H' r (Rw.meld kw a b) := by
  refine Rw.meld_cases (fun b => ?_) (fun f a => ?_) (fun f a g b h ih => ?_) (fun f a g b h ih => ?_) (fun f a g b h ih => ?_)
  · intro H w u v hf hn hla hlb
    as_aux_lemma =>
    have hpre : Pre w H none 0 0 := Pre.none hf 0 0
    obtain ⟨a0, c0, rfl, _, _⟩ := hla.form
    obtain ⟨a1, c1, rfl, _, _⟩ := hlb.form
    go_enter Tryz.func64, Tryz.ntmps64
    have h0 := St.start hpre
    refine wp_seq ?_
    repeat (first | simp only [List.nil_append] at h0 | simp only [List.cons_append] at h0 | simp only [List.set_cons_zero] at h0 | simp only [List.set_cons_succ] at h0 | simp only [List.eraseIdx_zero] at h0 | simp only [List.tail_cons] at h0 | simp only [List.eraseIdx_cons_zero] at h0 | simp only [List.eraseIdx_cons_succ] at h0 | simp only [List.setIfInBounds_toArray] at h0)
    refine wp_region_lit ?_
    iterate 2 (refine wpList_plainQ rfl (fun K Q' hK => ?_); go_simp; refine hK _ _ ?_; clear hK K; try clear Q')
    refine wpList_nil ?_
    show Code.wp _ _ _ _ _
    refine wp_seq ?_
    refine wp_seq ?_
    refine wp_region_lit ?_
    iterate 3 (refine wpList_plainQ rfl (fun K Q' hK => ?_); go_simp; refine hK _ _ ?_; clear hK K; try clear Q')
    refine wpList_nil ?_
    show Code.wp _ _ _ _ _
    -- stops at: cond
    refine wp_cond_true (rfl) ?_
    refine wp_seq ?_
    refine wp_region_lit ?_
    iterate 3 (refine wpList_plainQ rfl (fun K Q' hK => ?_); go_simp; refine hK _ _ ?_; clear hK K; try clear Q')
    refine wpList_nil ?_
    show Code.wp _ _ _ _ _
    -- stops at: ret
    refine wp_ret ?_
    go_ret2
    exact ⟨_, H, rfl, h0.post, hlb⟩
  · intro H w u v hf hn hla hlb
    as_aux_lemma =>
    have hpre : Pre w H none 0 0 := Pre.none hf 0 0
    obtain ⟨b0, o0, cap0, nn, vS, rfl, hnn, hn1, hn0, hcap0, hvS, hrest⟩ := hla.cons
    obtain ⟨a1, c1, rfl, _, _⟩ := hlb.form
    have da : ((nn : Int) == 0) = false := beq_eq_false_iff_ne.2 (by omega)
    go_enter Tryz.func64, Tryz.ntmps64
    have h0 := St.start hpre
    refine wp_seq ?_
    repeat (first | simp only [List.nil_append] at h0 | simp only [List.cons_append] at h0 | simp only [List.set_cons_zero] at h0 | simp only [List.set_cons_succ] at h0 | simp only [List.eraseIdx_zero] at h0 | simp only [List.tail_cons] at h0 | simp only [List.eraseIdx_cons_zero] at h0 | simp only [List.eraseIdx_cons_succ] at h0 | simp only [List.setIfInBounds_toArray] at h0)
    refine wp_region_lit ?_
    iterate 2 (refine wpList_plainQ rfl (fun K Q' hK => ?_); go_simp; refine hK _ _ ?_; clear hK K; try clear Q')
    refine wpList_nil ?_
    show Code.wp _ _ _ _ _
    refine wp_seq ?_
    refine wp_seq ?_
    refine wp_region_lit ?_
    iterate 3 (refine wpList_plainQ rfl (fun K Q' hK => ?_); go_simp; refine hK _ _ ?_; clear hK K; try clear Q')
    refine wpList_nil ?_
    show Code.wp _ _ _ _ _
    -- stops at: cond
    refine wp_cond_false (rfl) ?_
    refine wp_skip ?_
    show Code.wp _ _ _ _ _
    refine wp_seq ?_
    refine wp_seq ?_
    refine wp_region_lit ?_
    iterate 3 (refine wpList_plainQ rfl (fun K Q' hK => ?_); go_simp; refine hK _ _ ?_; clear hK K; try clear Q')
    refine wpList_nil ?_
    show Code.wp _ _ _ _ _
    -- stops at: cond
    refine wp_cond_true (rfl) ?_
    refine wp_seq ?_
    refine wp_region_lit ?_
    iterate 3 (refine wpList_plainQ rfl (fun K Q' hK => ?_); go_simp; refine hK _ _ ?_; clear hK K; try clear Q')
    refine wpList_nil ?_
    show Code.wp _ _ _ _ _
    -- stops at: ret
    refine wp_ret ?_
    go_ret2
    exact ⟨_, H, by rw [Rw.meldN_nil']; rfl, h0.post, by rw [Rw.meld_nil']; exact hla⟩
  · intro H w u v hf hn hla hlb
    as_aux_lemma =>
    have hpre : Pre w H none 0 0 := Pre.none hf 0 0
    have hla' := hla
    have hlb' := hlb
    obtain ⟨b0, o0, cap0, nn, vS, rfl, hnn, hn1, hn0, hcap0, hvS, hrest⟩ := hla.cons
    obtain ⟨b1, o1, cap1, mm, vT, rfl, hmm, hm1, hm0, hcap1, hvT, hresg⟩ := hlb.cons
    obtain ⟨bF, oF, cF, aF, cF2, aG, cG, r1, hcF, hc, hr1, hf1, hxF, hbF, hkF⟩ := hla.head
    obtain ⟨bM, oM, cM, aM, cM2, aN, cN, r2, hcM, hd, hr2, hg1, hxG, hbG, hkG⟩ := hlb.head
    have hsz : Hid (f.size + Rw.size a + (g.size + Rw.size b) < 1000000) := by rw [Rw.size_cons, Rw.size_cons] at hn; exact hn
    have da : ((nn : Int) == 0) = false := beq_eq_false_iff_ne.2 (by omega)
    have db : ((mm : Int) == 0) = false := beq_eq_false_iff_ne.2 (by omega)
    simp [Addr.add] at hvS hvT
    have d1 : decide (r1 < r2) = true := decide_eq_true (by have := hr1.out; have := hr2.out; omega)
    go_enter Tryz.func64, Tryz.ntmps64
    have h0 := St.start hpre
    refine wp_seq ?_
    repeat (first | simp only [List.nil_append] at h0 | simp only [List.cons_append] at h0 | simp only [List.set_cons_zero] at h0 | simp only [List.set_cons_succ] at h0 | simp only [List.eraseIdx_zero] at h0 | simp only [List.tail_cons] at h0 | simp only [List.eraseIdx_cons_zero] at h0 | simp only [List.eraseIdx_cons_succ] at h0 | simp only [List.setIfInBounds_toArray] at h0)
    refine wp_region_lit ?_
    iterate 2 (refine wpList_plainQ rfl (fun K Q' hK => ?_); go_simp; refine hK _ _ ?_; clear hK K; try clear Q')
    refine wpList_nil ?_
    show Code.wp _ _ _ _ _
    refine wp_seq ?_
    refine wp_seq ?_
    refine wp_region_lit ?_
    iterate 3 (refine wpList_plainQ rfl (fun K Q' hK => ?_); go_simp; refine hK _ _ ?_; clear hK K; try clear Q')
    refine wpList_nil ?_
    show Code.wp _ _ _ _ _
    -- stops at: cond
    refine wp_cond_false (rfl) ?_
    refine wp_skip ?_
    show Code.wp _ _ _ _ _
    refine wp_seq ?_
    refine wp_seq ?_
    refine wp_region_lit ?_
    iterate 3 (refine wpList_plainQ rfl (fun K Q' hK => ?_); go_simp; refine hK _ _ ?_; clear hK K; try clear Q')
    refine wpList_nil ?_
    show Code.wp _ _ _ _ _
    -- stops at: cond
    refine wp_cond_false (rfl) ?_
    refine wp_skip ?_
    show Code.wp _ _ _ _ _
    refine wp_seq ?_
    refine wp_seq ?_
    refine h0.region [] [(0, true), (1, true), (2, true), (3, true), (4, true), (5, true), (6, true), (7, true), (8, true)] (by kernel_rfl) (by kernel_rfl) (fun w1 h1 => ?_)
    refine wpOrd_hide (fun _ _ d _ _ h => by cases d <;> exact h) (fun QR hQn hQp => ?_)
    simp only [ordOps, List.map_cons, List.map_nil, List.getD_cons_zero, List.getD_cons_succ]
    iterate 3 (refine wpOrd_quiet (v := ?_) rfl (fun _ _ _ => hQp _ _ _ _ _) ?_ ?_; rotate_left; (intro w' hS; (first | (go_simp; done) | (go_simp; with_reducible rfl))); simp only [Act.put, List.setIfInBounds_toArray, List.set_cons_zero, List.set_cons_succ])
    -- stops at: load (Go.Op.load 3 (Go.Operand.tmp 26)) slot 27
    iterate 1 (refine wpOrd_quiet (v := ?_) rfl (fun _ _ _ => hQp _ _ _ _ _) ?_ ?_; rotate_left; (intro w' hS; obtain ⟨q0, q1, q2, q3⟩ := hc.out _ hS.1; (first | (go_simp; done) | (go_simp; with_reducible rfl))); simp only [Act.put, List.setIfInBounds_toArray, List.set_cons_zero, List.set_cons_succ])
    iterate 3 (refine wpOrd_quiet (v := ?_) rfl (fun _ _ _ => hQp _ _ _ _ _) ?_ ?_; rotate_left; (intro w' hS; (first | (go_simp; done) | (go_simp; with_reducible rfl))); simp only [Act.put, List.setIfInBounds_toArray, List.set_cons_zero, List.set_cons_succ])
    -- stops at: load (Go.Op.load 3 (Go.Operand.tmp 30)) slot 31
    iterate 1 (refine wpOrd_quiet (v := ?_) rfl (fun _ _ _ => hQp _ _ _ _ _) ?_ ?_; rotate_left; (intro w' hS; obtain ⟨q0, q1, q2, q3⟩ := hd.out _ hS.1; (first | (go_simp; done) | (go_simp; with_reducible rfl))); simp only [Act.put, List.setIfInBounds_toArray, List.set_cons_zero, List.set_cons_succ])
    iterate 1 (refine wpOrd_quiet (v := ?_) rfl (fun _ _ _ => hQp _ _ _ _ _) ?_ ?_; rotate_left; (intro w' hS; (first | (go_simp; done) | (go_simp; with_reducible rfl))); simp only [Act.put, List.setIfInBounds_toArray, List.set_cons_zero, List.set_cons_succ])
    refine wpOrd_nil (hQn _ _ ?_); clear hQn hQp QR
    show Code.wp _ _ _ _ _
    -- stops at: cond
    refine wp_cond_true (rfl) ?_
    refine wp_seq ?_
    repeat (first | simp only [List.nil_append] at h1 | simp only [List.cons_append] at h1 | simp only [List.set_cons_zero] at h1 | simp only [List.set_cons_succ] at h1 | simp only [List.eraseIdx_zero] at h1 | simp only [List.tail_cons] at h1 | simp only [List.eraseIdx_cons_zero] at h1 | simp only [List.eraseIdx_cons_succ] at h1 | simp only [List.setIfInBounds_toArray] at h1)
    refine wp_region_lit ?_
    iterate 3 (refine wpList_plainQ rfl (fun K Q' hK => ?_); go_simp; refine hK _ _ ?_; clear hK K; try clear Q')
    -- stops at: eff:call (Go.Op.call {'callee': (Go.Callee.value (Go.Operand.func 64)), 'args': [(Go.Operand.tmp 35), (Go.Operand.tmp 36)], 'argTypes': [33, 33]}) slot 37
    refine wpList_plainQ rfl (fun K Q' hK => ?_); go_simp
    refine (ih H _ vS _ h1.fits (by have := hsz.out; have h6 := Rw.size_cons g b; omega) hrest hlb').mono ?_
    rintro e wM ⟨q3, H1, rfl, hpM, hM⟩
    obtain ⟨pn, hpn⟩ : ∃ m, Hid ((Rw.meld kw a (g :: b)).length = m) := ⟨_, show _ = _ from rfl⟩
    have hM' := hM
    obtain ⟨aQ, cQ, rfl, _, _⟩ := hM.form
    have hpl : pn < 1000000 := by have h5 := Rw.length_le (Rw.meld kw a (g :: b)); rw [Rw.meld_size] at h5; have := hpn.out; have := hsz.out; have h6 := Rw.size_cons g b; omega
    have h2 := h1.call0 hpM
    refine hK _ _ ?_; clear hK K; try clear Q'
    iterate 5 (refine wpList_plainQ rfl (fun K Q' hK => ?_); go_simp; refine hK _ _ ?_; clear hK K; try clear Q')
    refine wpList_nil ?_
    show Code.wp _ _ _ _ _
    refine wp_seq ?_
    repeat (first | simp only [List.nil_append] at h2 | simp only [List.cons_append] at h2 | simp only [List.set_cons_zero] at h2 | simp only [List.set_cons_succ] at h2 | simp only [List.eraseIdx_zero] at h2 | simp only [List.tail_cons] at h2 | simp only [List.eraseIdx_cons_zero] at h2 | simp only [List.eraseIdx_cons_succ] at h2 | simp only [List.setIfInBounds_toArray] at h2)
    refine wp_region_lit ?_
    iterate 2 (refine wpList_plainQ rfl (fun K Q' hK => ?_); go_simp; refine hK _ _ ?_; clear hK K; try clear Q')
    -- stops at: load (Go.Op.load 82 (Go.Operand.tmp 41)) slot 42
    have ce0 := hc.out _ (h2.fits.le hpM.le)
    obtain ⟨q0, q1, q2, q3⟩ := ce0
    iterate 1 (refine wpList_plainQ rfl (fun K Q' hK => ?_); go_simp; refine hK _ _ ?_; clear hK K; try clear Q')
    clear q0 q1 q2 q3
    refine wpList_plainQ rfl (fun K Q' hK => ?_); go_simp
    refine h2.k_alloc (fun w3 h3 => ?_)
    refine hK _ _ ?_; clear hK K; try clear Q'
    iterate 1 (refine wpList_plainQ rfl (fun K Q' hK => ?_); go_simp; refine hK _ _ ?_; clear hK K; try clear Q')
    refine wpList_nil ?_
    show Code.wp _ _ _ _ _
    refine wp_seq ?_
    repeat (first | simp only [List.nil_append] at h3 | simp only [List.cons_append] at h3 | simp only [List.set_cons_zero] at h3 | simp only [List.set_cons_succ] at h3 | simp only [List.eraseIdx_zero] at h3 | simp only [List.tail_cons] at h3 | simp only [List.eraseIdx_cons_zero] at h3 | simp only [List.eraseIdx_cons_succ] at h3 | simp only [List.setIfInBounds_toArray] at h3)
    refine wp_region_lit ?_
    iterate 2 (refine wpList_plainQ rfl (fun K Q' hK => ?_); go_simp; refine hK _ _ ?_; clear hK K; try clear Q')
    -- stops at: eff:Builtin.append (Go.Op.call {'callee': (Go.Callee.builtin Go.Builtin.append), 'args': [(Go.Operand.tmp 44), (Go.Operand.tmp 45)], 'argTypes': [33, 33]}) slot 46
    have hR := h3.rowOf 0 rfl 4 1 rfl (by unfold maxLen; omega)
    refine wpList_plainQ rfl (fun K Q' hK => ?_)
    obtain ⟨cs, hv1, hv2⟩ := hM'
    refine hR.op_append_rep 0 rfl rfl infoTT rfl cs rfl hv1 (TW.one hv2) (by have := hpn.out; omega) (by have := hpn.out; unfold maxLen; omega) (fun v1 wB hB => ?_)
    refine hK _ _ ?_; clear hK K; try clear Q'
    obtain ⟨aV, cV, rfl⟩ := hB.row_form 0 rfl
    obtain ⟨H6, h6, rA, leA⟩ := hB.settleRow 0 rfl
    iterate 3 (refine wpList_plainQ rfl (fun K Q' hK => ?_); go_simp; refine hK _ _ ?_; clear hK K; try clear Q')
    refine wpList_nil ?_
    show Code.wp _ _ _ _ _
    -- stops at: ret
    refine wp_ret ?_
    go_ret2
    refine ⟨_, H6, by rw [Rw.meldN_lt kw a b h]; rfl, h6.post, ?_⟩
    rw [Rw.meld_lt kw a b h]
    refine ⟨_, ?_, TW.push hr1 ((hxF.mono hpM.le).mono leA) ((hbF.mono hpM.le).mono leA) ((hkF.mono hpM.le).mono leA) (hv2.mono leA)⟩
    show SliceRep H6 4 _ (_ + 1) _
    rw [Nat.add_comm _ 1]
    exact rA
  · intro H w u v hf hn hla hlb
    as_aux_lemma =>
    have hpre : Pre w H none 0 0 := Pre.none hf 0 0
    have hla' := hla
    have hlb' := hlb
    obtain ⟨b0, o0, cap0, nn, vS, rfl, hnn, hn1, hn0, hcap0, hvS, hrest⟩ := hla.cons
    obtain ⟨b1, o1, cap1, mm, vT, rfl, hmm, hm1, hm0, hcap1, hvT, hresg⟩ := hlb.cons
    obtain ⟨bF, oF, cF, aF, cF2, aG, cG, r1, hcF, hc, hr1, hf1, hxF, hbF, hkF⟩ := hla.head
    obtain ⟨bM, oM, cM, aM, cM2, aN, cN, r2, hcM, hd, hr2, hg1, hxG, hbG, hkG⟩ := hlb.head
    have hsz : Hid (f.size + Rw.size a + (g.size + Rw.size b) < 1000000) := by rw [Rw.size_cons, Rw.size_cons] at hn; exact hn
    have da : ((nn : Int) == 0) = false := beq_eq_false_iff_ne.2 (by omega)
    have db : ((mm : Int) == 0) = false := beq_eq_false_iff_ne.2 (by omega)
    simp [Addr.add] at hvS hvT
    have d1 : decide (r1 < r2) = false := decide_eq_false (by have := hr1.out; have := hr2.out; omega)
    go_enter Tryz.func64, Tryz.ntmps64
    have h0 := St.start hpre
    refine wp_seq ?_
    repeat (first | simp only [List.nil_append] at h0 | simp only [List.cons_append] at h0 | simp only [List.set_cons_zero] at h0 | simp only [List.set_cons_succ] at h0 | simp only [List.eraseIdx_zero] at h0 | simp only [List.tail_cons] at h0 | simp only [List.eraseIdx_cons_zero] at h0 | simp only [List.eraseIdx_cons_succ] at h0 | simp only [List.setIfInBounds_toArray] at h0)
    refine wp_region_lit ?_
    iterate 2 (refine wpList_plainQ rfl (fun K Q' hK => ?_); go_simp; refine hK _ _ ?_; clear hK K; try clear Q')
    refine wpList_nil ?_
    show Code.wp _ _ _ _ _
    refine wp_seq ?_
    refine wp_seq ?_
    refine wp_region_lit ?_
    iterate 3 (refine wpList_plainQ rfl (fun K Q' hK => ?_); go_simp; refine hK _ _ ?_; clear hK K; try clear Q')
    refine wpList_nil ?_
    show Code.wp _ _ _ _ _
    -- stops at: cond
    refine wp_cond_false (rfl) ?_
    refine wp_skip ?_
    show Code.wp _ _ _ _ _
    refine wp_seq ?_
    refine wp_seq ?_
    refine wp_region_lit ?_
    iterate 3 (refine wpList_plainQ rfl (fun K Q' hK => ?_); go_simp; refine hK _ _ ?_; clear hK K; try clear Q')
    refine wpList_nil ?_
    show Code.wp _ _ _ _ _
    -- stops at: cond
    refine wp_cond_false (rfl) ?_
    refine wp_skip ?_
    show Code.wp _ _ _ _ _
    refine wp_seq ?_
    refine wp_seq ?_
    refine h0.region [] [(0, true), (1, true), (2, true), (3, true), (4, true), (5, true), (6, true), (7, true), (8, true)] (by kernel_rfl) (by kernel_rfl) (fun w1 h1 => ?_)
    refine wpOrd_hide (fun _ _ d _ _ h => by cases d <;> exact h) (fun QR hQn hQp => ?_)
    simp only [ordOps, List.map_cons, List.map_nil, List.getD_cons_zero, List.getD_cons_succ]
    iterate 3 (refine wpOrd_quiet (v := ?_) rfl (fun _ _ _ => hQp _ _ _ _ _) ?_ ?_; rotate_left; (intro w' hS; (first | (go_simp; done) | (go_simp; with_reducible rfl))); simp only [Act.put, List.setIfInBounds_toArray, List.set_cons_zero, List.set_cons_succ])
    -- stops at: load (Go.Op.load 3 (Go.Operand.tmp 26)) slot 27
    iterate 1 (refine wpOrd_quiet (v := ?_) rfl (fun _ _ _ => hQp _ _ _ _ _) ?_ ?_; rotate_left; (intro w' hS; obtain ⟨q0, q1, q2, q3⟩ := hc.out _ hS.1; (first | (go_simp; done) | (go_simp; with_reducible rfl))); simp only [Act.put, List.setIfInBounds_toArray, List.set_cons_zero, List.set_cons_succ])
    iterate 3 (refine wpOrd_quiet (v := ?_) rfl (fun _ _ _ => hQp _ _ _ _ _) ?_ ?_; rotate_left; (intro w' hS; (first | (go_simp; done) | (go_simp; with_reducible rfl))); simp only [Act.put, List.setIfInBounds_toArray, List.set_cons_zero, List.set_cons_succ])
    -- stops at: load (Go.Op.load 3 (Go.Operand.tmp 30)) slot 31
    iterate 1 (refine wpOrd_quiet (v := ?_) rfl (fun _ _ _ => hQp _ _ _ _ _) ?_ ?_; rotate_left; (intro w' hS; obtain ⟨q0, q1, q2, q3⟩ := hd.out _ hS.1; (first | (go_simp; done) | (go_simp; with_reducible rfl))); simp only [Act.put, List.setIfInBounds_toArray, List.set_cons_zero, List.set_cons_succ])
    iterate 1 (refine wpOrd_quiet (v := ?_) rfl (fun _ _ _ => hQp _ _ _ _ _) ?_ ?_; rotate_left; (intro w' hS; (first | (go_simp; done) | (go_simp; with_reducible rfl))); simp only [Act.put, List.setIfInBounds_toArray, List.set_cons_zero, List.set_cons_succ])
    refine wpOrd_nil (hQn _ _ ?_); clear hQn hQp QR
    show Code.wp _ _ _ _ _
    -- stops at: cond
    have d2 : decide (r2 < r1) = true := decide_eq_true (by have := hr1.out; have := hr2.out; omega)
    refine wp_cond_false (rfl) ?_
    refine wp_skip ?_
    show Code.wp _ _ _ _ _
    refine wp_seq ?_
    refine wp_seq ?_
    repeat (first | simp only [List.nil_append] at h1 | simp only [List.cons_append] at h1 | simp only [List.set_cons_zero] at h1 | simp only [List.set_cons_succ] at h1 | simp only [List.eraseIdx_zero] at h1 | simp only [List.tail_cons] at h1 | simp only [List.eraseIdx_cons_zero] at h1 | simp only [List.eraseIdx_cons_succ] at h1 | simp only [List.setIfInBounds_toArray] at h1)
    refine h1.region [] [(0, true), (1, true), (2, true), (3, true), (4, true), (5, true), (6, true), (7, true), (8, true)] (by kernel_rfl) (by kernel_rfl) (fun w2 h2 => ?_)
    refine wpOrd_hide (fun _ _ d _ _ h => by cases d <;> exact h) (fun QR hQn hQp => ?_)
    simp only [ordOps, List.map_cons, List.map_nil, List.getD_cons_zero, List.getD_cons_succ]
    iterate 3 (refine wpOrd_quiet (v := ?_) rfl (fun _ _ _ => hQp _ _ _ _ _) ?_ ?_; rotate_left; (intro w' hS; (first | (go_simp; done) | (go_simp; with_reducible rfl))); simp only [Act.put, List.setIfInBounds_toArray, List.set_cons_zero, List.set_cons_succ])
    -- stops at: load (Go.Op.load 3 (Go.Operand.tmp 50)) slot 51
    iterate 1 (refine wpOrd_quiet (v := ?_) rfl (fun _ _ _ => hQp _ _ _ _ _) ?_ ?_; rotate_left; (intro w' hS; obtain ⟨q0, q1, q2, q3⟩ := hd.out _ hS.1; (first | (go_simp; done) | (go_simp; with_reducible rfl))); simp only [Act.put, List.setIfInBounds_toArray, List.set_cons_zero, List.set_cons_succ])
    iterate 3 (refine wpOrd_quiet (v := ?_) rfl (fun _ _ _ => hQp _ _ _ _ _) ?_ ?_; rotate_left; (intro w' hS; (first | (go_simp; done) | (go_simp; with_reducible rfl))); simp only [Act.put, List.setIfInBounds_toArray, List.set_cons_zero, List.set_cons_succ])
    -- stops at: load (Go.Op.load 3 (Go.Operand.tmp 54)) slot 55
    iterate 1 (refine wpOrd_quiet (v := ?_) rfl (fun _ _ _ => hQp _ _ _ _ _) ?_ ?_; rotate_left; (intro w' hS; obtain ⟨q0, q1, q2, q3⟩ := hc.out _ hS.1; (first | (go_simp; done) | (go_simp; with_reducible rfl))); simp only [Act.put, List.setIfInBounds_toArray, List.set_cons_zero, List.set_cons_succ])
    iterate 1 (refine wpOrd_quiet (v := ?_) rfl (fun _ _ _ => hQp _ _ _ _ _) ?_ ?_; rotate_left; (intro w' hS; (first | (go_simp; done) | (go_simp; with_reducible rfl))); simp only [Act.put, List.setIfInBounds_toArray, List.set_cons_zero, List.set_cons_succ])
    refine wpOrd_nil (hQn _ _ ?_); clear hQn hQp QR
    show Code.wp _ _ _ _ _
    -- stops at: cond
    refine wp_cond_true (rfl) ?_
    refine wp_seq ?_
    repeat (first | simp only [List.nil_append] at h2 | simp only [List.cons_append] at h2 | simp only [List.set_cons_zero] at h2 | simp only [List.set_cons_succ] at h2 | simp only [List.eraseIdx_zero] at h2 | simp only [List.tail_cons] at h2 | simp only [List.eraseIdx_cons_zero] at h2 | simp only [List.eraseIdx_cons_succ] at h2 | simp only [List.setIfInBounds_toArray] at h2)
    refine wp_region_lit ?_
    iterate 3 (refine wpList_plainQ rfl (fun K Q' hK => ?_); go_simp; refine hK _ _ ?_; clear hK K; try clear Q')
    -- stops at: eff:call (Go.Op.call {'callee': (Go.Callee.value (Go.Operand.func 64)), 'args': [(Go.Operand.tmp 58), (Go.Operand.tmp 60)], 'argTypes': [33, 33]}) slot 61
    refine wpList_plainQ rfl (fun K Q' hK => ?_); go_simp
    refine (ih H _ _ vT h2.fits (by have := hsz.out; have h6 := Rw.size_cons f a; omega) hla' hresg).mono ?_
    rintro e wM ⟨q3, H1, rfl, hpM, hM⟩
    obtain ⟨pn, hpn⟩ : ∃ m, Hid ((Rw.meld kw (f :: a) b).length = m) := ⟨_, show _ = _ from rfl⟩
    have hM' := hM
    obtain ⟨aQ, cQ, rfl, _, _⟩ := hM.form
    have hpl : pn < 1000000 := by have h5 := Rw.length_le (Rw.meld kw (f :: a) b); rw [Rw.meld_size] at h5; have := hpn.out; have := hsz.out; have h6 := Rw.size_cons f a; omega
    have h3 := h2.call0 hpM
    refine hK _ _ ?_; clear hK K; try clear Q'
    iterate 5 (refine wpList_plainQ rfl (fun K Q' hK => ?_); go_simp; refine hK _ _ ?_; clear hK K; try clear Q')
    refine wpList_nil ?_
    show Code.wp _ _ _ _ _
    refine wp_seq ?_
    repeat (first | simp only [List.nil_append] at h3 | simp only [List.cons_append] at h3 | simp only [List.set_cons_zero] at h3 | simp only [List.set_cons_succ] at h3 | simp only [List.eraseIdx_zero] at h3 | simp only [List.tail_cons] at h3 | simp only [List.eraseIdx_cons_zero] at h3 | simp only [List.eraseIdx_cons_succ] at h3 | simp only [List.setIfInBounds_toArray] at h3)
    refine wp_region_lit ?_
    iterate 2 (refine wpList_plainQ rfl (fun K Q' hK => ?_); go_simp; refine hK _ _ ?_; clear hK K; try clear Q')
    -- stops at: load (Go.Op.load 82 (Go.Operand.tmp 65)) slot 66
    have ce0 := hd.out _ (h3.fits.le hpM.le)
    obtain ⟨q0, q1, q2, q3⟩ := ce0
    iterate 1 (refine wpList_plainQ rfl (fun K Q' hK => ?_); go_simp; refine hK _ _ ?_; clear hK K; try clear Q')
    clear q0 q1 q2 q3
    refine wpList_plainQ rfl (fun K Q' hK => ?_); go_simp
    refine h3.k_alloc (fun w4 h4 => ?_)
    refine hK _ _ ?_; clear hK K; try clear Q'
    iterate 1 (refine wpList_plainQ rfl (fun K Q' hK => ?_); go_simp; refine hK _ _ ?_; clear hK K; try clear Q')
    refine wpList_nil ?_
    show Code.wp _ _ _ _ _
    refine wp_seq ?_
    repeat (first | simp only [List.nil_append] at h4 | simp only [List.cons_append] at h4 | simp only [List.set_cons_zero] at h4 | simp only [List.set_cons_succ] at h4 | simp only [List.eraseIdx_zero] at h4 | simp only [List.tail_cons] at h4 | simp only [List.eraseIdx_cons_zero] at h4 | simp only [List.eraseIdx_cons_succ] at h4 | simp only [List.setIfInBounds_toArray] at h4)
    refine wp_region_lit ?_
    iterate 2 (refine wpList_plainQ rfl (fun K Q' hK => ?_); go_simp; refine hK _ _ ?_; clear hK K; try clear Q')
    -- stops at: eff:Builtin.append (Go.Op.call {'callee': (Go.Callee.builtin Go.Builtin.append), 'args': [(Go.Operand.tmp 68), (Go.Operand.tmp 69)], 'argTypes': [33, 33]}) slot 70
    have hR := h4.rowOf 0 rfl 4 1 rfl (by unfold maxLen; omega)
    refine wpList_plainQ rfl (fun K Q' hK => ?_)
    obtain ⟨cs, hv1, hv2⟩ := hM'
    refine hR.op_append_rep 0 rfl rfl infoTT rfl cs rfl hv1 (TW.one hv2) (by have := hpn.out; omega) (by have := hpn.out; unfold maxLen; omega) (fun v1 wB hB => ?_)
    refine hK _ _ ?_; clear hK K; try clear Q'
    obtain ⟨aV, cV, rfl⟩ := hB.row_form 0 rfl
    obtain ⟨H6, h6, rA, leA⟩ := hB.settleRow 0 rfl
    iterate 3 (refine wpList_plainQ rfl (fun K Q' hK => ?_); go_simp; refine hK _ _ ?_; clear hK K; try clear Q')
    refine wpList_nil ?_
    show Code.wp _ _ _ _ _
    -- stops at: ret
    refine wp_ret ?_
    go_ret2
    refine ⟨_, H6, by rw [Rw.meldN_gt kw a b h]; rfl, h6.post, ?_⟩
    rw [Rw.meld_gt kw a b h]
    refine ⟨_, ?_, TW.push hr2 ((hxG.mono hpM.le).mono leA) ((hbG.mono hpM.le).mono leA) ((hkG.mono hpM.le).mono leA) (hv2.mono leA)⟩
    show SliceRep H6 4 _ (_ + 1) _
    rw [Nat.add_comm _ 1]
    exact rA
  · intro H w u v hf hn hla hlb
    as_aux_lemma =>
    have hpre : Pre w H none 0 0 := Pre.none hf 0 0
    have hla' := hla
    have hlb' := hlb
    obtain ⟨b0, o0, cap0, nn, vS, rfl, hnn, hn1, hn0, hcap0, hvS, hrest⟩ := hla.cons
    obtain ⟨b1, o1, cap1, mm, vT, rfl, hmm, hm1, hm0, hcap1, hvT, hresg⟩ := hlb.cons
    obtain ⟨bF, oF, cF, aF, cF2, aG, cG, r1, hcF, hc, hr1, hf1, hxF, hbF, hkF⟩ := hla.head
    obtain ⟨bM, oM, cM, aM, cM2, aN, cN, r2, hcM, hd, hr2, hg1, hxG, hbG, hkG⟩ := hlb.head
    have hsz : Hid (f.size + Rw.size a + (g.size + Rw.size b) < 1000000) := by rw [Rw.size_cons, Rw.size_cons] at hn; exact hn
    have da : ((nn : Int) == 0) = false := beq_eq_false_iff_ne.2 (by omega)
    have db : ((mm : Int) == 0) = false := beq_eq_false_iff_ne.2 (by omega)
    simp [Addr.add] at hvS hvT
    have d1 : decide (r1 < r2) = false := decide_eq_false (by have := hr1.out; have := hr2.out; omega)
    go_enter Tryz.func64, Tryz.ntmps64
    have h0 := St.start hpre
    refine wp_seq ?_
    repeat (first | simp only [List.nil_append] at h0 | simp only [List.cons_append] at h0 | simp only [List.set_cons_zero] at h0 | simp only [List.set_cons_succ] at h0 | simp only [List.eraseIdx_zero] at h0 | simp only [List.tail_cons] at h0 | simp only [List.eraseIdx_cons_zero] at h0 | simp only [List.eraseIdx_cons_succ] at h0 | simp only [List.setIfInBounds_toArray] at h0)
    refine wp_region_lit ?_
    iterate 2 (refine wpList_plainQ rfl (fun K Q' hK => ?_); go_simp; refine hK _ _ ?_; clear hK K; try clear Q')
    refine wpList_nil ?_
    show Code.wp _ _ _ _ _
    refine wp_seq ?_
    refine wp_seq ?_
    refine wp_region_lit ?_
    iterate 3 (refine wpList_plainQ rfl (fun K Q' hK => ?_); go_simp; refine hK _ _ ?_; clear hK K; try clear Q')
    refine wpList_nil ?_
    show Code.wp _ _ _ _ _
    -- stops at: cond
    refine wp_cond_false (rfl) ?_
    refine wp_skip ?_
    show Code.wp _ _ _ _ _
    refine wp_seq ?_
    refine wp_seq ?_
    refine wp_region_lit ?_
    iterate 3 (refine wpList_plainQ rfl (fun K Q' hK => ?_); go_simp; refine hK _ _ ?_; clear hK K; try clear Q')
    refine wpList_nil ?_
    show Code.wp _ _ _ _ _
    -- stops at: cond
    refine wp_cond_false (rfl) ?_
    refine wp_skip ?_
    show Code.wp _ _ _ _ _
    refine wp_seq ?_
    refine wp_seq ?_
    refine h0.region [] [(0, true), (1, true), (2, true), (3, true), (4, true), (5, true), (6, true), (7, true), (8, true)] (by kernel_rfl) (by kernel_rfl) (fun w1 h1 => ?_)
    refine wpOrd_hide (fun _ _ d _ _ h => by cases d <;> exact h) (fun QR hQn hQp => ?_)
    simp only [ordOps, List.map_cons, List.map_nil, List.getD_cons_zero, List.getD_cons_succ]
    iterate 3 (refine wpOrd_quiet (v := ?_) rfl (fun _ _ _ => hQp _ _ _ _ _) ?_ ?_; rotate_left; (intro w' hS; (first | (go_simp; done) | (go_simp; with_reducible rfl))); simp only [Act.put, List.setIfInBounds_toArray, List.set_cons_zero, List.set_cons_succ])
    -- stops at: load (Go.Op.load 3 (Go.Operand.tmp 26)) slot 27
    iterate 1 (refine wpOrd_quiet (v := ?_) rfl (fun _ _ _ => hQp _ _ _ _ _) ?_ ?_; rotate_left; (intro w' hS; obtain ⟨q0, q1, q2, q3⟩ := hc.out _ hS.1; (first | (go_simp; done) | (go_simp; with_reducible rfl))); simp only [Act.put, List.setIfInBounds_toArray, List.set_cons_zero, List.set_cons_succ])
    iterate 3 (refine wpOrd_quiet (v := ?_) rfl (fun _ _ _ => hQp _ _ _ _ _) ?_ ?_; rotate_left; (intro w' hS; (first | (go_simp; done) | (go_simp; with_reducible rfl))); simp only [Act.put, List.setIfInBounds_toArray, List.set_cons_zero, List.set_cons_succ])
    -- stops at: load (Go.Op.load 3 (Go.Operand.tmp 30)) slot 31
    iterate 1 (refine wpOrd_quiet (v := ?_) rfl (fun _ _ _ => hQp _ _ _ _ _) ?_ ?_; rotate_left; (intro w' hS; obtain ⟨q0, q1, q2, q3⟩ := hd.out _ hS.1; (first | (go_simp; done) | (go_simp; with_reducible rfl))); simp only [Act.put, List.setIfInBounds_toArray, List.set_cons_zero, List.set_cons_succ])
    iterate 1 (refine wpOrd_quiet (v := ?_) rfl (fun _ _ _ => hQp _ _ _ _ _) ?_ ?_; rotate_left; (intro w' hS; (first | (go_simp; done) | (go_simp; with_reducible rfl))); simp only [Act.put, List.setIfInBounds_toArray, List.set_cons_zero, List.set_cons_succ])
    refine wpOrd_nil (hQn _ _ ?_); clear hQn hQp QR
    show Code.wp _ _ _ _ _
    -- stops at: cond
    have d2 : decide (r2 < r1) = false := decide_eq_false (by have := hr1.out; have := hr2.out; omega)
    obtain ⟨mn, hmn⟩ : ∃ n, Hid (2 * Rw.meldN kw a b = n) := ⟨_, show _ = _ from rfl⟩
    obtain ⟨pn, hpn⟩ : ∃ n, Hid (2 * Rw.putN kw (Tr.link kw f g) (Rw.meld kw a b) = n) := ⟨_, show _ = _ from rfl⟩
    obtain ⟨r1n, hr1n⟩ : ∃ n, Hid (mn + pn = n) := ⟨_, show _ = _ from rfl⟩
    obtain ⟨r2n, hr2n⟩ : ∃ n, Hid (r1n + 2 = n) := ⟨_, show _ = _ from rfl⟩
    have hbound : mn + pn < 9000000 := by
      have h5 := Rw.meld_length kw a b
      have h6 := Rw.put_length kw (Tr.link kw f g) (Rw.meld kw a b)
      have h7 := Rw.length_le a
      have h8 := Rw.length_le b
      have := hsz.out
      have := hmn.out
      have := hpn.out
      omega
    have e8 : IntKind.i64.wrap ((mn : Int) + (pn : Int)) = (r1n : Int) := by have := hr1n.out; rw [IntWalk.i64_in _ (by omega)]; omega
    have e9 : IntKind.i64.wrap ((r1n : Int) + 2) = (r2n : Int) := by have := hr1n.out; have := hr2n.out; rw [IntWalk.i64_in _ (by omega)]; omega
    refine wp_cond_false (rfl) ?_
    refine wp_skip ?_
    show Code.wp _ _ _ _ _
    refine wp_seq ?_
    refine wp_seq ?_
    repeat (first | simp only [List.nil_append] at h1 | simp only [List.cons_append] at h1 | simp only [List.set_cons_zero] at h1 | simp only [List.set_cons_succ] at h1 | simp only [List.eraseIdx_zero] at h1 | simp only [List.tail_cons] at h1 | simp only [List.eraseIdx_cons_zero] at h1 | simp only [List.eraseIdx_cons_succ] at h1 | simp only [List.setIfInBounds_toArray] at h1)
    refine h1.region [] [(0, true), (1, true), (2, true), (3, true), (4, true), (5, true), (6, true), (7, true), (8, true)] (by kernel_rfl) (by kernel_rfl) (fun w2 h2 => ?_)
    refine wpOrd_hide (fun _ _ d _ _ h => by cases d <;> exact h) (fun QR hQn hQp => ?_)
    simp only [ordOps, List.map_cons, List.map_nil, List.getD_cons_zero, List.getD_cons_succ]
    iterate 3 (refine wpOrd_quiet (v := ?_) rfl (fun _ _ _ => hQp _ _ _ _ _) ?_ ?_; rotate_left; (intro w' hS; (first | (go_simp; done) | (go_simp; with_reducible rfl))); simp only [Act.put, List.setIfInBounds_toArray, List.set_cons_zero, List.set_cons_succ])
    -- stops at: load (Go.Op.load 3 (Go.Operand.tmp 50)) slot 51
    iterate 1 (refine wpOrd_quiet (v := ?_) rfl (fun _ _ _ => hQp _ _ _ _ _) ?_ ?_; rotate_left; (intro w' hS; obtain ⟨q0, q1, q2, q3⟩ := hd.out _ hS.1; (first | (go_simp; done) | (go_simp; with_reducible rfl))); simp only [Act.put, List.setIfInBounds_toArray, List.set_cons_zero, List.set_cons_succ])
    iterate 3 (refine wpOrd_quiet (v := ?_) rfl (fun _ _ _ => hQp _ _ _ _ _) ?_ ?_; rotate_left; (intro w' hS; (first | (go_simp; done) | (go_simp; with_reducible rfl))); simp only [Act.put, List.setIfInBounds_toArray, List.set_cons_zero, List.set_cons_succ])
    -- stops at: load (Go.Op.load 3 (Go.Operand.tmp 54)) slot 55
    iterate 1 (refine wpOrd_quiet (v := ?_) rfl (fun _ _ _ => hQp _ _ _ _ _) ?_ ?_; rotate_left; (intro w' hS; obtain ⟨q0, q1, q2, q3⟩ := hc.out _ hS.1; (first | (go_simp; done) | (go_simp; with_reducible rfl))); simp only [Act.put, List.setIfInBounds_toArray, List.set_cons_zero, List.set_cons_succ])
    iterate 1 (refine wpOrd_quiet (v := ?_) rfl (fun _ _ _ => hQp _ _ _ _ _) ?_ ?_; rotate_left; (intro w' hS; (first | (go_simp; done) | (go_simp; with_reducible rfl))); simp only [Act.put, List.setIfInBounds_toArray, List.set_cons_zero, List.set_cons_succ])
    refine wpOrd_nil (hQn _ _ ?_); clear hQn hQp QR
    show Code.wp _ _ _ _ _
    -- stops at: cond
    refine wp_cond_false (rfl) ?_
    refine wp_skip ?_
    show Code.wp _ _ _ _ _
    refine wp_seq ?_
    repeat (first | simp only [List.nil_append] at h2 | simp only [List.cons_append] at h2 | simp only [List.set_cons_zero] at h2 | simp only [List.set_cons_succ] at h2 | simp only [List.eraseIdx_zero] at h2 | simp only [List.tail_cons] at h2 | simp only [List.eraseIdx_cons_zero] at h2 | simp only [List.eraseIdx_cons_succ] at h2 | simp only [List.setIfInBounds_toArray] at h2)
    refine h2.region [] [(0, true), (1, true), (2, true), (3, true), (4, false), (5, true), (6, true), (7, true), (8, true), (9, true)] (by kernel_rfl) (by kernel_rfl) (fun w3 h3 => ?_)
    refine wpOrd_hide (fun _ _ d _ _ h => by cases d <;> exact h) (fun QR hQn hQp => ?_)
    simp only [ordOps, List.map_cons, List.map_nil, List.getD_cons_zero, List.getD_cons_succ]
    iterate 4 (refine wpOrd_quiet (v := ?_) rfl (fun _ _ _ => hQp _ _ _ _ _) ?_ ?_; rotate_left; (intro w' hS; (first | (go_simp; done) | (go_simp; with_reducible rfl))); simp only [Act.put, List.setIfInBounds_toArray, List.set_cons_zero, List.set_cons_succ])
    -- stops at: eff:call (Go.Op.call {'callee': (Go.Callee.value (Go.Operand.func 64)), 'args': [(Go.Operand.tmp 74), (Go.Operand.tmp 76)], 'argTypes': [33, 33]}) slot 77
    refine wpOrd_effQ rfl (fun K Q' hK => ?_); go_simp
    refine (ih H _ vS vT h3.fits (by have := hsz.out; omega) hrest hresg).mono ?_
    rintro e wM ⟨q3, H1, rfl, hpM, hM⟩
    rw [hmn.out]
    obtain ⟨aQ, cQ, rfl, _, _⟩ := hM.form
    have hle1 := hpM.le
    have h4 := h3.call0 hpM
    refine hK _ _ (h4.sat' hpM.le [] (by kernel_rfl)) ?_; clear hK K; try clear Q'
    iterate 5 (refine wpOrd_quiet (v := ?_) rfl (fun _ _ _ => hQp _ _ _ _ _) ?_ ?_; rotate_left; (intro w' hS; (first | (go_simp; done) | (go_simp; with_reducible rfl))); simp only [Act.put, List.setIfInBounds_toArray, List.set_cons_zero, List.set_cons_succ])
    refine wpOrd_nil (hQn _ _ ?_); clear hQn hQp QR
    show Code.wp _ _ _ _ _
    refine wp_seq ?_
    repeat (first | simp only [List.nil_append] at h4 | simp only [List.cons_append] at h4 | simp only [List.set_cons_zero] at h4 | simp only [List.set_cons_succ] at h4 | simp only [List.eraseIdx_zero] at h4 | simp only [List.tail_cons] at h4 | simp only [List.eraseIdx_cons_zero] at h4 | simp only [List.eraseIdx_cons_succ] at h4 | simp only [List.setIfInBounds_toArray] at h4)
    refine h4.region [] [(0, true), (1, true), (2, true), (3, true), (4, true), (5, true), (7, true), (6, false), (8, false), (9, true), (10, true), (11, true), (12, true), (13, true)] (by kernel_rfl) (by kernel_rfl) (fun w5 h5 => ?_)
    refine wpOrd_hide (fun _ _ d _ _ h => by cases d <;> exact h) (fun QR hQn hQp => ?_)
    simp only [ordOps, List.map_cons, List.map_nil, List.getD_cons_zero, List.getD_cons_succ]
    iterate 2 (refine wpOrd_quiet (v := ?_) rfl (fun _ _ _ => hQp _ _ _ _ _) ?_ ?_; rotate_left; (intro w' hS; (first | (go_simp; done) | (go_simp; with_reducible rfl))); simp only [Act.put, List.setIfInBounds_toArray, List.set_cons_zero, List.set_cons_succ])
    -- stops at: load (Go.Op.load 82 (Go.Operand.tmp 82)) slot 83
    iterate 1 (refine wpOrd_quiet (v := ?_) rfl (fun _ _ _ => hQp _ _ _ _ _) ?_ ?_; rotate_left; (intro w' hS; obtain ⟨q0, q1, q2, q3⟩ := hc.out _ (hS.1.le hle1); (first | (go_simp; done) | (go_simp; with_reducible rfl))); simp only [Act.put, List.setIfInBounds_toArray, List.set_cons_zero, List.set_cons_succ])
    iterate 2 (refine wpOrd_quiet (v := ?_) rfl (fun _ _ _ => hQp _ _ _ _ _) ?_ ?_; rotate_left; (intro w' hS; (first | (go_simp; done) | (go_simp; with_reducible rfl))); simp only [Act.put, List.setIfInBounds_toArray, List.set_cons_zero, List.set_cons_succ])
    -- stops at: load (Go.Op.load 82 (Go.Operand.tmp 85)) slot 86
    iterate 1 (refine wpOrd_quiet (v := ?_) rfl (fun _ _ _ => hQp _ _ _ _ _) ?_ ?_; rotate_left; (intro w' hS; obtain ⟨q0, q1, q2, q3⟩ := hd.out _ (hS.1.le hle1); (first | (go_simp; done) | (go_simp; with_reducible rfl))); simp only [Act.put, List.setIfInBounds_toArray, List.set_cons_zero, List.set_cons_succ])
    iterate 1 (refine wpOrd_quiet (v := ?_) rfl (fun _ _ _ => hQp _ _ _ _ _) ?_ ?_; rotate_left; (intro w' hS; (first | (go_simp; done) | (go_simp; with_reducible rfl))); simp only [Act.put, List.setIfInBounds_toArray, List.set_cons_zero, List.set_cons_succ])
    -- stops at: eff:call (Go.Op.call {'callee': (Go.Callee.value (Go.Operand.func 52)), 'args': [(Go.Operand.tmp 83), (Go.Operand.tmp 86)], 'argTypes': [82, 82]}) slot 87
    refine wpOrd_effQ rfl (fun K Q' hK => ?_); go_simp
    refine (wlink_ok H1 _ _ _ f g h5.fits (by have := hsz.out; omega) (hf1.mono hpM.le) (hg1.mono hpM.le)).mono ?_
    rintro e wL ⟨rL, H2, rfl, hpL, hL⟩
    have hL' := hL
    obtain ⟨bR, oR, cR, aR, cR2, aS, cS, r3, rfl, hcR, hr3, hxL, hbL, hkL⟩ := hL.form
    have h6 := h5.call0 hpL
    refine hK _ _ (h6.sat' hpL.le [] (by kernel_rfl)) ?_; clear hK K; try clear Q'
    -- stops at: eff:call (Go.Op.call {'callee': (Go.Callee.value (Go.Operand.func 84)), 'args': [(Go.Operand.tmp 87), (Go.Operand.tmp 88)], 'argTypes': [82, 33]}) slot 89
    refine wpOrd_effQ rfl (fun K Q' hK => ?_); go_simp
    refine (wput_ok _ (Tr.link kw f g) H2 _ _ _ h6.fits (by rw [Tr.link_size, Rw.meld_size]; have := hsz.out; omega) hL' (hM.mono hpL.le)).mono ?_
    rintro e wP ⟨rP, H3, rfl, hpP, hP⟩
    rw [hpn.out]
    obtain ⟨aP, cP, rfl, _, _⟩ := hP.form
    have h7 := h6.call0 hpP
    refine hK _ _ (h7.sat' (GH.le.trans hpL.le hpP.le) [] (by kernel_rfl)) ?_; clear hK K; try clear Q'
    iterate 5 (refine wpOrd_quiet (v := ?_) rfl (fun _ _ _ => hQp _ _ _ _ _) ?_ ?_; rotate_left; (intro w' hS; (first | (go_simp; done) | (go_simp; with_reducible rfl))); simp only [Act.put, List.setIfInBounds_toArray, List.set_cons_zero, List.set_cons_succ])
    refine wpOrd_nil (hQn _ _ ?_); clear hQn hQp QR
    show Code.wp _ _ _ _ _
    refine wp_seq ?_
    repeat (first | simp only [List.nil_append] at h7 | simp only [List.cons_append] at h7 | simp only [List.set_cons_zero] at h7 | simp only [List.set_cons_succ] at h7 | simp only [List.eraseIdx_zero] at h7 | simp only [List.tail_cons] at h7 | simp only [List.eraseIdx_cons_zero] at h7 | simp only [List.eraseIdx_cons_succ] at h7 | simp only [List.setIfInBounds_toArray] at h7)
    refine wp_region_lit ?_
    iterate 7 (refine wpList_plainQ rfl (fun K Q' hK => ?_); go_simp; refine hK _ _ ?_; clear hK K; try clear Q')
    refine wpList_nil ?_
    show Code.wp _ _ _ _ _
    -- stops at: ret
    refine wp_ret ?_
    go_ret2
    refine ⟨_, H3, ?_, h7.post, by rw [Rw.meld_eq kw a b h]; exact hP⟩
    rw [show 2 * Rw.meldN kw (f :: a) (g :: b) = r2n by rw [Rw.meldN_eq kw a b h]; have h5 := hpn.out; have h6 := hmn.out; have h7 := hr1n.out; have h8 := hr2n.out; omega]
    rfl

set_option maxRecDepth 100000 in
set_option maxHeartbeats 1000000 in
theorem wlevel_ok (H : GH) (w : World) (v : Value) (l : List (Tr Vp)) (hf : Fits w H) (hn : Rw.size l < 1000000) (hv : RsW H v l) :
    Calls Tryz.prog 63 #[v] w fun e w' => ∃ r H', e = .returned (.tuple #[r, .int .i64 (2 * Sk.levelN kw l : Nat)]) ∧ Post w H none w' H' 0 0 ∧ RsW H' r (Sk.level kw l) := by
  have hpre : Pre w H none 0 0 := Pre.none hf 0 0
  cases l with
  | nil =>
    obtain ⟨a0, c0, rfl, _, _⟩ := hv.form
    go_enter Tryz.func63, Tryz.ntmps63
    have h0 := St.start hpre
    refine wp_seq ?_
    repeat (first | simp only [List.nil_append] at h0 | simp only [List.cons_append] at h0 | simp only [List.set_cons_zero] at h0 | simp only [List.set_cons_succ] at h0 | simp only [List.eraseIdx_zero] at h0 | simp only [List.tail_cons] at h0 | simp only [List.eraseIdx_cons_zero] at h0 | simp only [List.eraseIdx_cons_succ] at h0 | simp only [List.setIfInBounds_toArray] at h0)
    refine wp_region_lit ?_
    iterate 2 (refine wpList_plainQ rfl (fun K Q' hK => ?_); go_simp; refine hK _ _ ?_; clear hK K; try clear Q')
    refine wpList_nil ?_
    show Code.wp _ _ _ _ _
    refine wp_seq ?_
    refine wp_seq ?_
    refine wp_region_lit ?_
    iterate 3 (refine wpList_plainQ rfl (fun K Q' hK => ?_); go_simp; refine hK _ _ ?_; clear hK K; try clear Q')
    refine wpList_nil ?_
    show Code.wp _ _ _ _ _
    -- stops at: cond
    refine wp_cond_true (rfl) ?_
    refine wp_seq ?_
    refine wp_region_lit ?_
    iterate 3 (refine wpList_plainQ rfl (fun K Q' hK => ?_); go_simp; refine hK _ _ ?_; clear hK K; try clear Q')
    refine wpList_nil ?_
    show Code.wp _ _ _ _ _
    -- stops at: ret
    refine wp_ret ?_
    go_ret2
    exact ⟨_, H, rfl, h0.post, hv⟩
  | cons t l =>
    obtain ⟨b0, o0, cap0, nn, vS, rfl, hnn, hn1, hn0, hcap0, hvS, hrest⟩ := hv.cons
    obtain ⟨bF, oF, cF, aF, cF2, aG, cG, r1, hcF, hc, hr1, hf1, _, _, _⟩ := hv.head
    have d1 : ((nn : Int) == 0) = false := beq_eq_false_iff_ne.2 (by omega)
    simp [Addr.add] at hvS
    rw [Rw.size_cons] at hn
    go_enter Tryz.func63, Tryz.ntmps63
    have h0 := St.start hpre
    refine wp_seq ?_
    repeat (first | simp only [List.nil_append] at h0 | simp only [List.cons_append] at h0 | simp only [List.set_cons_zero] at h0 | simp only [List.set_cons_succ] at h0 | simp only [List.eraseIdx_zero] at h0 | simp only [List.tail_cons] at h0 | simp only [List.eraseIdx_cons_zero] at h0 | simp only [List.eraseIdx_cons_succ] at h0 | simp only [List.setIfInBounds_toArray] at h0)
    refine wp_region_lit ?_
    iterate 2 (refine wpList_plainQ rfl (fun K Q' hK => ?_); go_simp; refine hK _ _ ?_; clear hK K; try clear Q')
    refine wpList_nil ?_
    show Code.wp _ _ _ _ _
    refine wp_seq ?_
    refine wp_seq ?_
    refine wp_region_lit ?_
    iterate 3 (refine wpList_plainQ rfl (fun K Q' hK => ?_); go_simp; refine hK _ _ ?_; clear hK K; try clear Q')
    refine wpList_nil ?_
    show Code.wp _ _ _ _ _
    -- stops at: cond
    refine wp_cond_false (rfl) ?_
    refine wp_skip ?_
    show Code.wp _ _ _ _ _
    refine wp_seq ?_
    refine h0.region [] [(0, true), (1, true), (2, true), (3, true), (4, true), (5, false), (6, true), (7, true), (8, true), (9, true)] (by kernel_rfl) (by kernel_rfl) (fun w1 h1 => ?_)
    refine wpOrd_hide (fun _ _ d _ _ h => by cases d <;> exact h) (fun QR hQn hQp => ?_)
    simp only [ordOps, List.map_cons, List.map_nil, List.getD_cons_zero, List.getD_cons_succ]
    iterate 2 (refine wpOrd_quiet (v := ?_) rfl (fun _ _ _ => hQp _ _ _ _ _) ?_ ?_; rotate_left; (intro w' hS; (first | (go_simp; done) | (go_simp; with_reducible rfl))); simp only [Act.put, List.setIfInBounds_toArray, List.set_cons_zero, List.set_cons_succ])
    -- stops at: load (Go.Op.load 82 (Go.Operand.tmp 9)) slot 10
    iterate 1 (refine wpOrd_quiet (v := ?_) rfl (fun _ _ _ => hQp _ _ _ _ _) ?_ ?_; rotate_left; (intro w' hS; obtain ⟨q0, q1, q2, q3⟩ := hc.out _ hS.1; (first | (go_simp; done) | (go_simp; with_reducible rfl))); simp only [Act.put, List.setIfInBounds_toArray, List.set_cons_zero, List.set_cons_succ])
    iterate 2 (refine wpOrd_quiet (v := ?_) rfl (fun _ _ _ => hQp _ _ _ _ _) ?_ ?_; rotate_left; (intro w' hS; (first | (go_simp; done) | (go_simp; with_reducible rfl))); simp only [Act.put, List.setIfInBounds_toArray, List.set_cons_zero, List.set_cons_succ])
    -- stops at: eff:call (Go.Op.call {'callee': (Go.Callee.value (Go.Operand.func 84)), 'args': [(Go.Operand.tmp 10), (Go.Operand.tmp 12)], 'argTypes': [82, 33]}) slot 13
    refine wpOrd_effQ rfl (fun K Q' hK => ?_); go_simp
    refine (wput_ok l t H _ _ vS h1.fits hn hf1 hrest).mono ?_
    rintro e wA ⟨r, H1, rfl, hpA, hA⟩
    obtain ⟨aP, cP, rfl, _, _⟩ := hA.form
    have h2 := h1.call0 hpA
    refine hK _ _ (h2.sat' hpA.le [] (by kernel_rfl)) ?_; clear hK K; try clear Q'
    iterate 4 (refine wpOrd_quiet (v := ?_) rfl (fun _ _ _ => hQp _ _ _ _ _) ?_ ?_; rotate_left; (intro w' hS; (first | (go_simp; done) | (go_simp; with_reducible rfl))); simp only [Act.put, List.setIfInBounds_toArray, List.set_cons_zero, List.set_cons_succ])
    refine wpOrd_nil (hQn _ _ ?_); clear hQn hQp QR
    show Code.wp _ _ _ _ _
    -- stops at: ret
    refine wp_ret ?_
    go_ret2
    exact ⟨_, H1, rfl, h2.post, hA⟩

set_option maxRecDepth 100000 in
set_option maxHeartbeats 1000000 in
theorem whmeld_ok (H : GH) (w : World) (u v : Value) (a b : List (Tr Vp)) (hf : Fits w H) (hn : Rw.size a + Rw.size b < 1000000) (ha : RsW H u a) (hb : RsW H v b) :
    Calls Tryz.prog 33 #[u, v] w fun e w' => ∃ r H', e = .returned (.tuple #[r, .int .i64 (2 * Sk.meldN kw a b : Nat)]) ∧ Post w H none w' H' 0 0 ∧ RsW H' r (Sk.meld kw a b) := by
  have hpre : Pre w H none 0 0 := Pre.none hf 0 0
  have ha' := ha
  have hb' := hb
  obtain ⟨a0, c0, rfl, _, _⟩ := ha.form
  obtain ⟨a1, c1, rfl, _, _⟩ := hb.form
  have hsA := Sk.level_size kw a
  have hsB := Sk.level_size kw b
  obtain ⟨ln, hln⟩ : ∃ m, Hid (2 * Sk.levelN kw a = m) := ⟨_, show _ = _ from rfl⟩
  obtain ⟨kn, hkn⟩ : ∃ m, Hid (2 * Sk.levelN kw b = m) := ⟨_, show _ = _ from rfl⟩
  obtain ⟨mn, hmn⟩ : ∃ m, Hid (2 * Rw.meldN kw (Sk.level kw a) (Sk.level kw b) = m) := ⟨_, show _ = _ from rfl⟩
  obtain ⟨s1, hs1⟩ : ∃ m, Hid (ln + kn = m) := ⟨_, show _ = _ from rfl⟩
  obtain ⟨s2, hs2⟩ : ∃ m, Hid (s1 + mn = m) := ⟨_, show _ = _ from rfl⟩
  have hbnd : ln + kn + mn ≤ 8000000 := by
    have h1 := Sk.level_len kw a
    have h2 := Sk.level_len kw b
    have h3 := Rw.meld_length kw (Sk.level kw a) (Sk.level kw b)
    have h4 := Rw.length_le a
    have h5 := Rw.length_le b
    have := hln.out
    have := hkn.out
    have := hmn.out
    omega
  have e1 : IntKind.i64.wrap ((ln : Int) + (kn : Int)) = (s1 : Int) := by have := hs1.out; rw [IntWalk.i64_in _ (by omega)]; omega
  have e2 : IntKind.i64.wrap ((s1 : Int) + (mn : Int)) = (s2 : Int) := by have := hs2.out; have := hs1.out; rw [IntWalk.i64_in _ (by omega)]; omega
  go_enter Tryz.func33, Tryz.ntmps33
  have h0 := St.start hpre
  refine wp_seq ?_
  repeat (first | simp only [List.nil_append] at h0 | simp only [List.cons_append] at h0 | simp only [List.set_cons_zero] at h0 | simp only [List.set_cons_succ] at h0 | simp only [List.eraseIdx_zero] at h0 | simp only [List.tail_cons] at h0 | simp only [List.eraseIdx_cons_zero] at h0 | simp only [List.eraseIdx_cons_succ] at h0 | simp only [List.setIfInBounds_toArray] at h0)
  refine wp_region_lit ?_
  iterate 2 (refine wpList_plainQ rfl (fun K Q' hK => ?_); go_simp; refine hK _ _ ?_; clear hK K; try clear Q')
  refine wpList_nil ?_
  show Code.wp _ _ _ _ _
  refine wp_seq ?_
  refine wp_region_lit ?_
  iterate 1 (refine wpList_plainQ rfl (fun K Q' hK => ?_); go_simp; refine hK _ _ ?_; clear hK K; try clear Q')
  -- stops at: eff:call (Go.Op.call {'callee': (Go.Callee.value (Go.Operand.func 63)), 'args': [(Go.Operand.tmp 13)], 'argTypes': [33]}) slot 14
  refine wpList_plainQ rfl (fun K Q' hK => ?_); go_simp
  refine (wlevel_ok H _ _ a h0.fits (by omega) ha').mono ?_
  rintro e wA ⟨rA, H1, rfl, hpA, hA⟩
  rw [hln.out]
  obtain ⟨aA, cA, rfl, _, _⟩ := hA.form
  have h1 := h0.call0 hpA
  refine hK _ _ ?_; clear hK K; try clear Q'
  iterate 5 (refine wpList_plainQ rfl (fun K Q' hK => ?_); go_simp; refine hK _ _ ?_; clear hK K; try clear Q')
  refine wpList_nil ?_
  show Code.wp _ _ _ _ _
  refine wp_seq ?_
  repeat (first | simp only [List.nil_append] at h1 | simp only [List.cons_append] at h1 | simp only [List.set_cons_zero] at h1 | simp only [List.set_cons_succ] at h1 | simp only [List.eraseIdx_zero] at h1 | simp only [List.tail_cons] at h1 | simp only [List.eraseIdx_cons_zero] at h1 | simp only [List.eraseIdx_cons_succ] at h1 | simp only [List.setIfInBounds_toArray] at h1)
  refine wp_region_lit ?_
  iterate 1 (refine wpList_plainQ rfl (fun K Q' hK => ?_); go_simp; refine hK _ _ ?_; clear hK K; try clear Q')
  -- stops at: eff:call (Go.Op.call {'callee': (Go.Callee.value (Go.Operand.func 63)), 'args': [(Go.Operand.tmp 18)], 'argTypes': [33]}) slot 19
  refine wpList_plainQ rfl (fun K Q' hK => ?_); go_simp
  refine (wlevel_ok H1 _ _ b h1.fits (by omega) (hb'.mono hpA.le)).mono ?_
  rintro e wB ⟨rB, H2, rfl, hpB, hB⟩
  rw [hkn.out]
  obtain ⟨aB, cB, rfl, _, _⟩ := hB.form
  have h2 := h1.call0 hpB
  refine hK _ _ ?_; clear hK K; try clear Q'
  iterate 5 (refine wpList_plainQ rfl (fun K Q' hK => ?_); go_simp; refine hK _ _ ?_; clear hK K; try clear Q')
  refine wpList_nil ?_
  show Code.wp _ _ _ _ _
  refine wp_seq ?_
  repeat (first | simp only [List.nil_append] at h2 | simp only [List.cons_append] at h2 | simp only [List.set_cons_zero] at h2 | simp only [List.set_cons_succ] at h2 | simp only [List.eraseIdx_zero] at h2 | simp only [List.tail_cons] at h2 | simp only [List.eraseIdx_cons_zero] at h2 | simp only [List.eraseIdx_cons_succ] at h2 | simp only [List.setIfInBounds_toArray] at h2)
  refine wp_region_lit ?_
  iterate 2 (refine wpList_plainQ rfl (fun K Q' hK => ?_); go_simp; refine hK _ _ ?_; clear hK K; try clear Q')
  -- stops at: eff:call (Go.Op.call {'callee': (Go.Callee.value (Go.Operand.func 64)), 'args': [(Go.Operand.tmp 23), (Go.Operand.tmp 24)], 'argTypes': [33, 33]}) slot 25
  refine wpList_plainQ rfl (fun K Q' hK => ?_); go_simp
  refine (wtrees_ok _ _ H2 _ _ _ h2.fits (by omega) (hA.mono hpB.le) hB).mono ?_
  rintro e wC ⟨rC, H3, rfl, hpC, hC⟩
  rw [hmn.out]
  obtain ⟨aC, cC, rfl, _, _⟩ := hC.form
  have h3 := h2.call0 hpC
  refine hK _ _ ?_; clear hK K; try clear Q'
  iterate 5 (refine wpList_plainQ rfl (fun K Q' hK => ?_); go_simp; refine hK _ _ ?_; clear hK K; try clear Q')
  refine wpList_nil ?_
  show Code.wp _ _ _ _ _
  refine wp_seq ?_
  repeat (first | simp only [List.nil_append] at h3 | simp only [List.cons_append] at h3 | simp only [List.set_cons_zero] at h3 | simp only [List.set_cons_succ] at h3 | simp only [List.eraseIdx_zero] at h3 | simp only [List.tail_cons] at h3 | simp only [List.eraseIdx_cons_zero] at h3 | simp only [List.eraseIdx_cons_succ] at h3 | simp only [List.setIfInBounds_toArray] at h3)
  refine wp_region_lit ?_
  iterate 8 (refine wpList_plainQ rfl (fun K Q' hK => ?_); go_simp; refine hK _ _ ?_; clear hK K; try clear Q')
  refine wpList_nil ?_
  show Code.wp _ _ _ _ _
  -- stops at: ret
  refine wp_ret ?_
  go_ret2
  refine ⟨_, H3, ?_, h3.post, hC⟩
  rw [show 2 * Sk.meldN kw a b = s2 by unfold Sk.meldN; have := hln.out; have := hkn.out; have := hmn.out; have := hs1.out; have := hs2.out; omega]
  rfl
end Go.Proofs.YtkhjcmbppcimnaaGreatDoor
