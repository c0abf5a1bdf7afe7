/-
Skew heaps: rows of trees melded.
-/
import Derived.Test.YteigmfkkeofcaaaGreatDoorOfSkew
namespace Go.Proofs.YteigmfkkeofcaaaGreatDoor
open Go Go.RowKit
set_option linter.unusedVariables false

set_option maxRecDepth 100000 in
set_option maxHeartbeats 8000000 in
theorem skmeld_ok : ∀ (a b : List (Tr El)) (H : GH) (w : World) (m : Option Nat) (c d : Int) (va vb : Value), Pre w H m c d → Rw.size a + Rw.size b < 1000000 → SlT H va a → SlT H vb b →
    Calls Tryz.prog 56 #[mV m, va, vb] w fun e w' => ∃ r H', e = .returned r ∧ Post w H m w' H' (c + Rw.meldN kf a b) (d + Rw.meldN kf a b) ∧ SlT H' r (Rw.meld kf a b) := by
  refine Rw.meld_cases (fun b => ?_) (fun f a => ?_) (fun f a g b h ih => ?_) (fun f a g b h ih => ?_) (fun f a g b h ih => ?_)
  · intro H w m c d va vb hpre hn hla hlb
    as_aux_lemma =>
    obtain ⟨a0, c0, rfl, _, _⟩ := hla.form
    obtain ⟨a1, c1, rfl, _, _⟩ := hlb.form
    go_enter Tryz.func56, Tryz.ntmps56
    have h0 := St.start hpre
    refine wp_seq ?_
    refine wp_region_lit ?_
    iterate 1 (refine wpList_plainQ rfl (fun K Q' hK => ?_); go_simp; refine hK _ _ ?_; clear hK K; try clear Q')
    refine wpList_nil ?_
    show Code.wp _ _ _ _ _
    refine wp_seq ?_
    refine wp_block ?_
    refine wp_seq ?_
    refine wp_region_lit ?_
    iterate 4 (refine wpList_plainQ rfl (fun K Q' hK => ?_); go_simp; refine hK _ _ ?_; clear hK K; try clear Q')
    refine wpList_nil ?_
    show Code.wp _ _ _ _ _
    -- stops at: cond
    refine wp_cond_true (rfl) ?_
    refine wp_seq ?_
    refine wp_region_lit ?_
    iterate 2 (refine wpList_plainQ rfl (fun K Q' hK => ?_); go_simp; refine hK _ _ ?_; clear hK K; try clear Q')
    refine wpList_nil ?_
    show Code.wp _ _ _ _ _
    -- stops at: ret
    refine wp_ret ?_
    go_ret
    exact ⟨_, H, rfl, by simpa [Rw.meldN_nil] using h0.post, hlb⟩
  · intro H w m c d va vb hpre hn hla hlb
    as_aux_lemma =>
    obtain ⟨b0, o0, cap0, nn, pf, vS, rfl, hnn, hn1, hn0, hcap0, hcell, hpf, hvS, hrest⟩ := hla.cons
    obtain ⟨a1, c1, rfl, _, _⟩ := hlb.form
    have da : ((nn : Int) == 0) = false := beq_eq_false_iff_ne.2 (by omega)
    go_enter Tryz.func56, Tryz.ntmps56
    have h0 := St.start hpre
    refine wp_seq ?_
    refine wp_region_lit ?_
    iterate 1 (refine wpList_plainQ rfl (fun K Q' hK => ?_); go_simp; refine hK _ _ ?_; clear hK K; try clear Q')
    refine wpList_nil ?_
    show Code.wp _ _ _ _ _
    refine wp_seq ?_
    refine wp_block ?_
    refine wp_seq ?_
    refine wp_region_lit ?_
    iterate 4 (refine wpList_plainQ rfl (fun K Q' hK => ?_); go_simp; refine hK _ _ ?_; clear hK K; try clear Q')
    refine wpList_nil ?_
    show Code.wp _ _ _ _ _
    -- stops at: cond
    refine wp_cond_false (rfl) ?_
    refine wp_seq ?_
    refine wp_region_lit ?_
    iterate 4 (refine wpList_plainQ rfl (fun K Q' hK => ?_); go_simp; refine hK _ _ ?_; clear hK K; try clear Q')
    refine wpList_nil ?_
    show Code.wp _ _ _ _ _
    -- stops at: cond
    refine wp_cond_true (rfl) ?_
    refine wp_seq ?_
    refine wp_region_lit ?_
    iterate 2 (refine wpList_plainQ rfl (fun K Q' hK => ?_); go_simp; refine hK _ _ ?_; clear hK K; try clear Q')
    refine wpList_nil ?_
    show Code.wp _ _ _ _ _
    -- stops at: ret
    refine wp_ret ?_
    go_ret
    exact ⟨_, H, rfl, by simpa [Rw.meldN_nil'] using h0.post, by rw [Rw.meld_nil']; exact hla⟩
  · intro H w m c d va vb hpre hn hla hlb
    as_aux_lemma =>
    obtain ⟨b0, o0, cap0, nn, pf, vS, rfl, hnn, hn1, hn0, hcap0, hcell, hpf, hvS, hrest⟩ := hla.cons
    obtain ⟨b1, o1, cap1, mm, pg, vT, rfl, hmm, hm1, hm0, hcap1, hcelg, hpg, hvT, hresg⟩ := hlb.cons
    obtain ⟨r1, hr1⟩ : ∃ r, Hid (f.rank = r) := ⟨_, show _ = _ from rfl⟩
    obtain ⟨r2, hr2⟩ : ∃ r, Hid (g.rank = r) := ⟨_, show _ = _ from rfl⟩
    have hsz : Hid (f.size + Rw.size a + (g.size + Rw.size b) < 1000000) := by rw [Rw.size_cons, Rw.size_cons] at hn; exact hn
    have da : ((nn : Int) == 0) = false := beq_eq_false_iff_ne.2 (by omega)
    have db : ((mm : Int) == 0) = false := beq_eq_false_iff_ne.2 (by omega)
    simp [Addr.add] at hvS hvT
    have d1 : decide (r1 < r2) = true := decide_eq_true (by have := hr1.out; have := hr2.out; omega)
    go_enter Tryz.func56, Tryz.ntmps56
    have h0 := St.start hpre
    refine wp_seq ?_
    refine wp_region_lit ?_
    iterate 1 (refine wpList_plainQ rfl (fun K Q' hK => ?_); go_simp; refine hK _ _ ?_; clear hK K; try clear Q')
    refine wpList_nil ?_
    show Code.wp _ _ _ _ _
    refine wp_seq ?_
    refine wp_block ?_
    refine wp_seq ?_
    refine wp_region_lit ?_
    iterate 4 (refine wpList_plainQ rfl (fun K Q' hK => ?_); go_simp; refine hK _ _ ?_; clear hK K; try clear Q')
    refine wpList_nil ?_
    show Code.wp _ _ _ _ _
    -- stops at: cond
    refine wp_cond_false (rfl) ?_
    refine wp_seq ?_
    refine wp_region_lit ?_
    iterate 4 (refine wpList_plainQ rfl (fun K Q' hK => ?_); go_simp; refine hK _ _ ?_; clear hK K; try clear Q')
    refine wpList_nil ?_
    show Code.wp _ _ _ _ _
    -- stops at: cond
    refine wp_cond_false (rfl) ?_
    refine wp_seq ?_
    refine h0.region [] [(0, true), (1, true), (2, true), (4, true), (5, true), (6, true), (3, false), (7, false), (8, true), (9, true)] (by kernel_rfl) (by kernel_rfl) (fun w1 h1 => ?_)
    refine wpOrd_hide (fun _ _ d _ _ h => by cases d <;> exact h) (fun QR hQn hQp => ?_)
    simp only [ordOps, List.map_cons, List.map_nil, List.getD_cons_zero, List.getD_cons_succ]
    iterate 2 (refine wpOrd_quiet (v := ?_) rfl (fun _ _ _ => hQp _ _ _ _ _) ?_ ?_; rotate_left; (intro w' hS; (first | (go_simp; done) | (go_simp; with_reducible rfl))); simp only [Act.put, List.setIfInBounds_toArray, List.set_cons_zero, List.set_cons_succ])
    -- stops at: load (Go.Op.load 94 (Go.Operand.tmp 20)) slot 21
    iterate 1 (refine wpOrd_quiet (v := ?_) rfl (fun _ _ _ => hQp _ _ _ _ _) ?_ ?_; rotate_left; (intro w' hS; have ce := hcell.out _ hS.1; (first | (go_simp; done) | (go_simp; with_reducible rfl))); simp only [Act.put, List.setIfInBounds_toArray, List.set_cons_zero, List.set_cons_succ])
    iterate 2 (refine wpOrd_quiet (v := ?_) rfl (fun _ _ _ => hQp _ _ _ _ _) ?_ ?_; rotate_left; (intro w' hS; (first | (go_simp; done) | (go_simp; with_reducible rfl))); simp only [Act.put, List.setIfInBounds_toArray, List.set_cons_zero, List.set_cons_succ])
    -- stops at: load (Go.Op.load 94 (Go.Operand.tmp 24)) slot 25
    iterate 1 (refine wpOrd_quiet (v := ?_) rfl (fun _ _ _ => hQp _ _ _ _ _) ?_ ?_; rotate_left; (intro w' hS; have ce := hcelg.out _ hS.1; (first | (go_simp; done) | (go_simp; with_reducible rfl))); simp only [Act.put, List.setIfInBounds_toArray, List.set_cons_zero, List.set_cons_succ])
    -- stops at: eff:call (Go.Op.call {'callee': (Go.Callee.value (Go.Operand.func 46)), 'args': [(Go.Operand.tmp 21)], 'argTypes': [94]}) slot 22
    refine wpOrd_effQ rfl (fun K Q' hK => ?_); go_simp
    refine (rank_ok H _ pf f h1.fits hpf).mono ?_
    rintro e wA1 ⟨rfl, hkA1⟩
    rw [hr1.out]
    have h2 := h1.callk hkA1
    refine hK _ _ (h2.sat' (GH.le_refl _) [] (by kernel_rfl)) ?_; clear hK K; try clear Q'
    -- stops at: eff:call (Go.Op.call {'callee': (Go.Callee.value (Go.Operand.func 46)), 'args': [(Go.Operand.tmp 25)], 'argTypes': [94]}) slot 26
    refine wpOrd_effQ rfl (fun K Q' hK => ?_); go_simp
    refine (rank_ok H _ pg g h2.fits hpg).mono ?_
    rintro e wA2 ⟨rfl, hkA2⟩
    rw [hr2.out]
    have h3 := h2.callk hkA2
    refine hK _ _ (h3.sat' (GH.le_refl _) [] (by kernel_rfl)) ?_; clear hK K; try clear Q'
    iterate 2 (refine wpOrd_quiet (v := ?_) rfl (fun _ _ _ => hQp _ _ _ _ _) ?_ ?_; rotate_left; (intro w' hS; (first | (go_simp; done) | (go_simp; with_reducible rfl))); simp only [Act.put, List.setIfInBounds_toArray, List.set_cons_zero, List.set_cons_succ])
    refine wpOrd_nil (hQn _ _ ?_); clear hQn hQp QR
    show Code.wp _ _ _ _ _
    -- stops at: cond
    refine wp_cond_true (rfl) ?_
    refine wp_seq ?_
    refine h3.regionT [] (.one 0 true (.one 1 true (.one 2 true (.one 4 true (.one 5 true (.one 6 true (.one 7 true (.two (.one 3 false (.one 8 false (.one 9 false (.one 10 true .nil)))) (.one 8 false (.one 3 false (.one 9 false (.one 10 true .nil)))))))))))) (by as_aux_lemma => kernel_rfl) (by as_aux_lemma => kernel_rfl) (fun w4 h4 => ?_)
    refine wpT_hide (fun _ _ d _ _ h => by cases d <;> exact h) (fun QR hQn hQp => ?_)
    dsimp only [OT.ops, List.getD_cons_zero, List.getD_cons_succ]
    iterate 2 (refine wpT_quiet (v := ?_) rfl (fun _ _ _ => hQp _ _ _ _ _) ?_ ?_; rotate_left; (intro w' hS; (first | (go_simp; done) | (go_simp; with_reducible rfl))); simp only [Act.put, List.setIfInBounds_toArray])
    -- stops at: load (Go.Op.load 94 (Go.Operand.tmp 29)) slot 30
    iterate 1 (refine wpT_quiet (v := ?_) rfl (fun _ _ _ => hQp _ _ _ _ _) ?_ ?_; rotate_left; (intro w' hS; have ce := hcell.out _ hS.1; (first | (go_simp; done) | (go_simp; with_reducible rfl))); simp only [Act.put])
    iterate 4 (refine wpT_quiet (v := ?_) rfl (fun _ _ _ => hQp _ _ _ _ _) ?_ ?_; rotate_left; (intro w' hS; (first | (go_simp; done) | (go_simp; with_reducible rfl))); simp only [Act.put])
    refine wpT_two ?_ ?_
    -- stops at: fork 
    · skip
      as_aux_lemma =>
      refine wpT_effQ rfl (fun K Q' hK => ?_); go_simp
      refine h4.k_alloc (fun w5 h5 => ?_)
      refine hK _ _ (h5.sat' (GH.le_refl _) [] (by kernel_rfl)) ?_; clear hK K; try clear Q'
      -- stops at: eff:call (Go.Op.call {'callee': (Go.Callee.value (Go.Operand.func 56)), 'args': [(Go.Operand.tmp 32), (Go.Operand.tmp 34), (Go.Operand.tmp 35)], 'argTypes': [25, 107, 10 slot 36
      refine wpT_effQ rfl (fun K Q' hK => ?_); go_simp
      refine (ih H _ m c d vS _ h5.pre (by have := hsz.out; have h6 := Rw.size_cons g b; omega) hrest hlb).mono ?_
      rintro e wM ⟨q3, H1, rfl, hpM, hM⟩
      have h6 := h5.call hpM
      refine hK _ _ (h6.sat' hpM.le [] (by kernel_rfl)) ?_; clear hK K; try clear Q'
      -- stops at: eff:Builtin.append (Go.Op.call {'callee': (Go.Callee.builtin Go.Builtin.append), 'args': [(Go.Operand.tmp 31), (Go.Operand.tmp 36)], 'argTypes': [107, 107]}) slot 37
      have hR := h6.rowOf 0 rfl 1 1 rfl (by unfold maxLen; omega)
      obtain ⟨qs, hq1, hq2⟩ := hM
      have hqn : qs.length < 1000000 := by have := hq2.1; have h5 := Rw.length_le (Rw.meld kf a (g :: b)); rw [Rw.meld_size] at h5; have := hsz.out; have h6 := Rw.size_cons g b; omega
      refine wpT_effQ rfl (fun K Q' hK => ?_)
      refine hR.op_append_rep 0 rfl rfl info1 rfl (qs.map .pointer) rfl hq1 (by simp [Value.oneCell']) (by omega) (by unfold maxLen; omega) (fun v1 wB hB => ?_)
      obtain ⟨H6, h6, rA, leA⟩ := hB.settleRow 0 rfl
      refine hK _ _ (h6.sat' (GH.le.trans hpM.le leA) [] (by kernel_rfl)) ?_; clear hK K; try clear Q'
      iterate 1 (refine wpT_quiet (v := ?_) rfl (fun _ _ _ => hQp _ _ _ _ _) ?_ ?_; rotate_left; (intro w' hS; (first | (go_simp; done) | (go_simp; with_reducible rfl))); simp only [Act.put, List.setIfInBounds_toArray])
      refine wpT_nil (hQn _ _ ?_); clear hQn hQp QR
      show Code.wp _ _ _ _ _
      -- stops at: ret
      refine wp_ret ?_
      go_ret
      refine ⟨v1, H6, rfl, ?_, ?_⟩
      · rw [Rw.meldN_lt kf a b h]
        exact h6.post
      · rw [Rw.meld_lt kf a b h]
        refine ⟨pf :: qs, ?_, RowR.cons (hpf.mono (hpM.le.trans leA)) (hq2.mono leA)⟩
        rw [Nat.add_comm] at rA
        exact rA
    · skip
      as_aux_lemma =>
      -- stops at: eff:call (Go.Op.call {'callee': (Go.Callee.value (Go.Operand.func 56)), 'args': [(Go.Operand.tmp 32), (Go.Operand.tmp 34), (Go.Operand.tmp 35)], 'argTypes': [25, 107, 10 slot 36
      refine wpT_effQ rfl (fun K Q' hK => ?_); go_simp
      refine (ih H _ m c d vS _ h4.pre (by have := hsz.out; have h6 := Rw.size_cons g b; omega) hrest hlb).mono ?_
      rintro e wM ⟨q3, H1, rfl, hpM, hM⟩
      have h8 := h4.call hpM
      refine hK _ _ (h8.sat' hpM.le [] (by kernel_rfl)) ?_; clear hK K; try clear Q'
      refine wpT_effQ rfl (fun K Q' hK => ?_); go_simp
      refine h8.k_alloc (fun w9 h9 => ?_)
      refine hK _ _ (h9.sat' hpM.le [] (by kernel_rfl)) ?_; clear hK K; try clear Q'
      -- stops at: eff:Builtin.append (Go.Op.call {'callee': (Go.Callee.builtin Go.Builtin.append), 'args': [(Go.Operand.tmp 31), (Go.Operand.tmp 36)], 'argTypes': [107, 107]}) slot 37
      have hR := h9.rowOf 0 rfl 1 1 rfl (by unfold maxLen; omega)
      obtain ⟨qs, hq1, hq2⟩ := hM
      have hqn : qs.length < 1000000 := by have := hq2.1; have h5 := Rw.length_le (Rw.meld kf a (g :: b)); rw [Rw.meld_size] at h5; have := hsz.out; have h6 := Rw.size_cons g b; omega
      refine wpT_effQ rfl (fun K Q' hK => ?_)
      refine hR.op_append_rep 0 rfl rfl info1 rfl (qs.map .pointer) rfl hq1 (by simp [Value.oneCell']) (by omega) (by unfold maxLen; omega) (fun v1 wB hB => ?_)
      obtain ⟨H6, h6, rA, leA⟩ := hB.settleRow 0 rfl
      refine hK _ _ (h6.sat' (GH.le.trans hpM.le leA) [] (by kernel_rfl)) ?_; clear hK K; try clear Q'
      iterate 1 (refine wpT_quiet (v := ?_) rfl (fun _ _ _ => hQp _ _ _ _ _) ?_ ?_; rotate_left; (intro w' hS; (first | (go_simp; done) | (go_simp; with_reducible rfl))); simp only [Act.put, List.setIfInBounds_toArray])
      refine wpT_nil (hQn _ _ ?_); clear hQn hQp QR
      show Code.wp _ _ _ _ _
      -- stops at: ret
      refine wp_ret ?_
      go_ret
      refine ⟨v1, H6, rfl, ?_, ?_⟩
      · rw [Rw.meldN_lt kf a b h]
        exact h6.post
      · rw [Rw.meld_lt kf a b h]
        refine ⟨pf :: qs, ?_, RowR.cons (hpf.mono (hpM.le.trans leA)) (hq2.mono leA)⟩
        rw [Nat.add_comm] at rA
        exact rA
  · intro H w m c d va vb hpre hn hla hlb
    as_aux_lemma =>
    obtain ⟨b0, o0, cap0, nn, pf, vS, rfl, hnn, hn1, hn0, hcap0, hcell, hpf, hvS, hrest⟩ := hla.cons
    obtain ⟨b1, o1, cap1, mm, pg, vT, rfl, hmm, hm1, hm0, hcap1, hcelg, hpg, hvT, hresg⟩ := hlb.cons
    obtain ⟨r1, hr1⟩ : ∃ r, Hid (f.rank = r) := ⟨_, show _ = _ from rfl⟩
    obtain ⟨r2, hr2⟩ : ∃ r, Hid (g.rank = r) := ⟨_, show _ = _ from rfl⟩
    have hsz : Hid (f.size + Rw.size a + (g.size + Rw.size b) < 1000000) := by rw [Rw.size_cons, Rw.size_cons] at hn; exact hn
    have da : ((nn : Int) == 0) = false := beq_eq_false_iff_ne.2 (by omega)
    have db : ((mm : Int) == 0) = false := beq_eq_false_iff_ne.2 (by omega)
    simp [Addr.add] at hvS hvT
    have d1 : decide (r1 < r2) = false := decide_eq_false (by have := hr1.out; have := hr2.out; omega)
    go_enter Tryz.func56, Tryz.ntmps56
    have h0 := St.start hpre
    refine wp_seq ?_
    refine wp_region_lit ?_
    iterate 1 (refine wpList_plainQ rfl (fun K Q' hK => ?_); go_simp; refine hK _ _ ?_; clear hK K; try clear Q')
    refine wpList_nil ?_
    show Code.wp _ _ _ _ _
    refine wp_seq ?_
    refine wp_block ?_
    refine wp_seq ?_
    refine wp_region_lit ?_
    iterate 4 (refine wpList_plainQ rfl (fun K Q' hK => ?_); go_simp; refine hK _ _ ?_; clear hK K; try clear Q')
    refine wpList_nil ?_
    show Code.wp _ _ _ _ _
    -- stops at: cond
    refine wp_cond_false (rfl) ?_
    refine wp_seq ?_
    refine wp_region_lit ?_
    iterate 4 (refine wpList_plainQ rfl (fun K Q' hK => ?_); go_simp; refine hK _ _ ?_; clear hK K; try clear Q')
    refine wpList_nil ?_
    show Code.wp _ _ _ _ _
    -- stops at: cond
    refine wp_cond_false (rfl) ?_
    refine wp_seq ?_
    refine h0.region [] [(0, true), (1, true), (2, true), (4, true), (5, true), (6, true), (3, false), (7, false), (8, true), (9, true)] (by kernel_rfl) (by kernel_rfl) (fun w1 h1 => ?_)
    refine wpOrd_hide (fun _ _ d _ _ h => by cases d <;> exact h) (fun QR hQn hQp => ?_)
    simp only [ordOps, List.map_cons, List.map_nil, List.getD_cons_zero, List.getD_cons_succ]
    iterate 2 (refine wpOrd_quiet (v := ?_) rfl (fun _ _ _ => hQp _ _ _ _ _) ?_ ?_; rotate_left; (intro w' hS; (first | (go_simp; done) | (go_simp; with_reducible rfl))); simp only [Act.put, List.setIfInBounds_toArray, List.set_cons_zero, List.set_cons_succ])
    -- stops at: load (Go.Op.load 94 (Go.Operand.tmp 20)) slot 21
    iterate 1 (refine wpOrd_quiet (v := ?_) rfl (fun _ _ _ => hQp _ _ _ _ _) ?_ ?_; rotate_left; (intro w' hS; have ce := hcell.out _ hS.1; (first | (go_simp; done) | (go_simp; with_reducible rfl))); simp only [Act.put, List.setIfInBounds_toArray, List.set_cons_zero, List.set_cons_succ])
    iterate 2 (refine wpOrd_quiet (v := ?_) rfl (fun _ _ _ => hQp _ _ _ _ _) ?_ ?_; rotate_left; (intro w' hS; (first | (go_simp; done) | (go_simp; with_reducible rfl))); simp only [Act.put, List.setIfInBounds_toArray, List.set_cons_zero, List.set_cons_succ])
    -- stops at: load (Go.Op.load 94 (Go.Operand.tmp 24)) slot 25
    iterate 1 (refine wpOrd_quiet (v := ?_) rfl (fun _ _ _ => hQp _ _ _ _ _) ?_ ?_; rotate_left; (intro w' hS; have ce := hcelg.out _ hS.1; (first | (go_simp; done) | (go_simp; with_reducible rfl))); simp only [Act.put, List.setIfInBounds_toArray, List.set_cons_zero, List.set_cons_succ])
    -- stops at: eff:call (Go.Op.call {'callee': (Go.Callee.value (Go.Operand.func 46)), 'args': [(Go.Operand.tmp 21)], 'argTypes': [94]}) slot 22
    refine wpOrd_effQ rfl (fun K Q' hK => ?_); go_simp
    refine (rank_ok H _ pf f h1.fits hpf).mono ?_
    rintro e wA1 ⟨rfl, hkA1⟩
    rw [hr1.out]
    have h2 := h1.callk hkA1
    refine hK _ _ (h2.sat' (GH.le_refl _) [] (by kernel_rfl)) ?_; clear hK K; try clear Q'
    -- stops at: eff:call (Go.Op.call {'callee': (Go.Callee.value (Go.Operand.func 46)), 'args': [(Go.Operand.tmp 25)], 'argTypes': [94]}) slot 26
    refine wpOrd_effQ rfl (fun K Q' hK => ?_); go_simp
    refine (rank_ok H _ pg g h2.fits hpg).mono ?_
    rintro e wA2 ⟨rfl, hkA2⟩
    rw [hr2.out]
    have h3 := h2.callk hkA2
    refine hK _ _ (h3.sat' (GH.le_refl _) [] (by kernel_rfl)) ?_; clear hK K; try clear Q'
    iterate 2 (refine wpOrd_quiet (v := ?_) rfl (fun _ _ _ => hQp _ _ _ _ _) ?_ ?_; rotate_left; (intro w' hS; (first | (go_simp; done) | (go_simp; with_reducible rfl))); simp only [Act.put, List.setIfInBounds_toArray, List.set_cons_zero, List.set_cons_succ])
    refine wpOrd_nil (hQn _ _ ?_); clear hQn hQp QR
    show Code.wp _ _ _ _ _
    -- stops at: cond
    have d2 : decide (r2 < r1) = true := decide_eq_true (by have := hr1.out; have := hr2.out; omega)
    refine wp_cond_false (rfl) ?_
    refine wp_seq ?_
    refine h3.region [] [(0, true), (1, true), (2, true), (4, true), (5, true), (6, true), (3, false), (7, false), (8, true), (9, true)] (by kernel_rfl) (by kernel_rfl) (fun w4 h4 => ?_)
    refine wpOrd_hide (fun _ _ d _ _ h => by cases d <;> exact h) (fun QR hQn hQp => ?_)
    simp only [ordOps, List.map_cons, List.map_nil, List.getD_cons_zero, List.getD_cons_succ]
    iterate 2 (refine wpOrd_quiet (v := ?_) rfl (fun _ _ _ => hQp _ _ _ _ _) ?_ ?_; rotate_left; (intro w' hS; (first | (go_simp; done) | (go_simp; with_reducible rfl))); simp only [Act.put, List.setIfInBounds_toArray, List.set_cons_zero, List.set_cons_succ])
    -- stops at: load (Go.Op.load 94 (Go.Operand.tmp 40)) slot 41
    iterate 1 (refine wpOrd_quiet (v := ?_) rfl (fun _ _ _ => hQp _ _ _ _ _) ?_ ?_; rotate_left; (intro w' hS; have ce := hcelg.out _ hS.1; (first | (go_simp; done) | (go_simp; with_reducible rfl))); simp only [Act.put, List.setIfInBounds_toArray, List.set_cons_zero, List.set_cons_succ])
    iterate 2 (refine wpOrd_quiet (v := ?_) rfl (fun _ _ _ => hQp _ _ _ _ _) ?_ ?_; rotate_left; (intro w' hS; (first | (go_simp; done) | (go_simp; with_reducible rfl))); simp only [Act.put, List.setIfInBounds_toArray, List.set_cons_zero, List.set_cons_succ])
    -- stops at: load (Go.Op.load 94 (Go.Operand.tmp 44)) slot 45
    iterate 1 (refine wpOrd_quiet (v := ?_) rfl (fun _ _ _ => hQp _ _ _ _ _) ?_ ?_; rotate_left; (intro w' hS; have ce := hcell.out _ hS.1; (first | (go_simp; done) | (go_simp; with_reducible rfl))); simp only [Act.put, List.setIfInBounds_toArray, List.set_cons_zero, List.set_cons_succ])
    -- stops at: eff:call (Go.Op.call {'callee': (Go.Callee.value (Go.Operand.func 46)), 'args': [(Go.Operand.tmp 41)], 'argTypes': [94]}) slot 42
    refine wpOrd_effQ rfl (fun K Q' hK => ?_); go_simp
    refine (rank_ok H _ pg g h4.fits hpg).mono ?_
    rintro e wB1 ⟨rfl, hkB1⟩
    rw [hr2.out]
    have h5 := h4.callk hkB1
    refine hK _ _ (h5.sat' (GH.le_refl _) [] (by kernel_rfl)) ?_; clear hK K; try clear Q'
    -- stops at: eff:call (Go.Op.call {'callee': (Go.Callee.value (Go.Operand.func 46)), 'args': [(Go.Operand.tmp 45)], 'argTypes': [94]}) slot 46
    refine wpOrd_effQ rfl (fun K Q' hK => ?_); go_simp
    refine (rank_ok H _ pf f h5.fits hpf).mono ?_
    rintro e wB2 ⟨rfl, hkB2⟩
    rw [hr1.out]
    have h6 := h5.callk hkB2
    refine hK _ _ (h6.sat' (GH.le_refl _) [] (by kernel_rfl)) ?_; clear hK K; try clear Q'
    iterate 2 (refine wpOrd_quiet (v := ?_) rfl (fun _ _ _ => hQp _ _ _ _ _) ?_ ?_; rotate_left; (intro w' hS; (first | (go_simp; done) | (go_simp; with_reducible rfl))); simp only [Act.put, List.setIfInBounds_toArray, List.set_cons_zero, List.set_cons_succ])
    refine wpOrd_nil (hQn _ _ ?_); clear hQn hQp QR
    show Code.wp _ _ _ _ _
    -- stops at: cond
    refine wp_cond_true (rfl) ?_
    refine wp_seq ?_
    refine h6.regionT [] (.one 0 true (.one 1 true (.one 2 true (.one 4 true (.one 5 true (.one 6 true (.one 7 true (.two (.one 3 false (.one 8 false (.one 9 false (.one 10 true .nil)))) (.one 8 false (.one 3 false (.one 9 false (.one 10 true .nil)))))))))))) (by as_aux_lemma => kernel_rfl) (by as_aux_lemma => kernel_rfl) (fun w7 h7 => ?_)
    refine wpT_hide (fun _ _ d _ _ h => by cases d <;> exact h) (fun QR hQn hQp => ?_)
    dsimp only [OT.ops, List.getD_cons_zero, List.getD_cons_succ]
    iterate 2 (refine wpT_quiet (v := ?_) rfl (fun _ _ _ => hQp _ _ _ _ _) ?_ ?_; rotate_left; (intro w' hS; (first | (go_simp; done) | (go_simp; with_reducible rfl))); simp only [Act.put, List.setIfInBounds_toArray])
    -- stops at: load (Go.Op.load 94 (Go.Operand.tmp 49)) slot 50
    iterate 1 (refine wpT_quiet (v := ?_) rfl (fun _ _ _ => hQp _ _ _ _ _) ?_ ?_; rotate_left; (intro w' hS; have ce := hcelg.out _ hS.1; (first | (go_simp; done) | (go_simp; with_reducible rfl))); simp only [Act.put])
    iterate 4 (refine wpT_quiet (v := ?_) rfl (fun _ _ _ => hQp _ _ _ _ _) ?_ ?_; rotate_left; (intro w' hS; (first | (go_simp; done) | (go_simp; with_reducible rfl))); simp only [Act.put])
    refine wpT_two ?_ ?_
    -- stops at: fork 
    · skip
      as_aux_lemma =>
      refine wpT_effQ rfl (fun K Q' hK => ?_); go_simp
      refine h7.k_alloc (fun w8 h8 => ?_)
      refine hK _ _ (h8.sat' (GH.le_refl _) [] (by kernel_rfl)) ?_; clear hK K; try clear Q'
      -- stops at: eff:call (Go.Op.call {'callee': (Go.Callee.value (Go.Operand.func 56)), 'args': [(Go.Operand.tmp 52), (Go.Operand.tmp 53), (Go.Operand.tmp 55)], 'argTypes': [25, 107, 10 slot 56
      refine wpT_effQ rfl (fun K Q' hK => ?_); go_simp
      refine (ih H _ m c d _ vT h8.pre (by have := hsz.out; have h6 := Rw.size_cons f a; omega) hla hresg).mono ?_
      rintro e wM ⟨q3, H1, rfl, hpM, hM⟩
      have h9 := h8.call hpM
      refine hK _ _ (h9.sat' hpM.le [] (by kernel_rfl)) ?_; clear hK K; try clear Q'
      -- stops at: eff:Builtin.append (Go.Op.call {'callee': (Go.Callee.builtin Go.Builtin.append), 'args': [(Go.Operand.tmp 51), (Go.Operand.tmp 56)], 'argTypes': [107, 107]}) slot 57
      have hR := h9.rowOf 0 rfl 1 1 rfl (by unfold maxLen; omega)
      obtain ⟨qs, hq1, hq2⟩ := hM
      have hqn : qs.length < 1000000 := by have := hq2.1; have h5 := Rw.length_le (Rw.meld kf (f :: a) b); rw [Rw.meld_size] at h5; have := hsz.out; have h6 := Rw.size_cons f a; omega
      refine wpT_effQ rfl (fun K Q' hK => ?_)
      refine hR.op_append_rep 0 rfl rfl info1 rfl (qs.map .pointer) rfl hq1 (by simp [Value.oneCell']) (by omega) (by unfold maxLen; omega) (fun v1 wB hB => ?_)
      obtain ⟨H6, h6, rA, leA⟩ := hB.settleRow 0 rfl
      refine hK _ _ (h6.sat' (GH.le.trans hpM.le leA) [] (by kernel_rfl)) ?_; clear hK K; try clear Q'
      iterate 1 (refine wpT_quiet (v := ?_) rfl (fun _ _ _ => hQp _ _ _ _ _) ?_ ?_; rotate_left; (intro w' hS; (first | (go_simp; done) | (go_simp; with_reducible rfl))); simp only [Act.put, List.setIfInBounds_toArray])
      refine wpT_nil (hQn _ _ ?_); clear hQn hQp QR
      show Code.wp _ _ _ _ _
      -- stops at: ret
      refine wp_ret ?_
      go_ret
      refine ⟨v1, H6, rfl, ?_, ?_⟩
      · rw [Rw.meldN_gt kf a b h]
        exact h6.post
      · rw [Rw.meld_gt kf a b h]
        refine ⟨pg :: qs, ?_, RowR.cons (hpg.mono (hpM.le.trans leA)) (hq2.mono leA)⟩
        rw [Nat.add_comm] at rA
        exact rA
    · skip
      as_aux_lemma =>
      -- stops at: eff:call (Go.Op.call {'callee': (Go.Callee.value (Go.Operand.func 56)), 'args': [(Go.Operand.tmp 52), (Go.Operand.tmp 53), (Go.Operand.tmp 55)], 'argTypes': [25, 107, 10 slot 56
      refine wpT_effQ rfl (fun K Q' hK => ?_); go_simp
      refine (ih H _ m c d _ vT h7.pre (by have := hsz.out; have h6 := Rw.size_cons f a; omega) hla hresg).mono ?_
      rintro e wM ⟨q3, H1, rfl, hpM, hM⟩
      have h11 := h7.call hpM
      refine hK _ _ (h11.sat' hpM.le [] (by kernel_rfl)) ?_; clear hK K; try clear Q'
      refine wpT_effQ rfl (fun K Q' hK => ?_); go_simp
      refine h11.k_alloc (fun w12 h12 => ?_)
      refine hK _ _ (h12.sat' hpM.le [] (by kernel_rfl)) ?_; clear hK K; try clear Q'
      -- stops at: eff:Builtin.append (Go.Op.call {'callee': (Go.Callee.builtin Go.Builtin.append), 'args': [(Go.Operand.tmp 51), (Go.Operand.tmp 56)], 'argTypes': [107, 107]}) slot 57
      have hR := h12.rowOf 0 rfl 1 1 rfl (by unfold maxLen; omega)
      obtain ⟨qs, hq1, hq2⟩ := hM
      have hqn : qs.length < 1000000 := by have := hq2.1; have h5 := Rw.length_le (Rw.meld kf (f :: a) b); rw [Rw.meld_size] at h5; have := hsz.out; have h6 := Rw.size_cons f a; omega
      refine wpT_effQ rfl (fun K Q' hK => ?_)
      refine hR.op_append_rep 0 rfl rfl info1 rfl (qs.map .pointer) rfl hq1 (by simp [Value.oneCell']) (by omega) (by unfold maxLen; omega) (fun v1 wB hB => ?_)
      obtain ⟨H6, h6, rA, leA⟩ := hB.settleRow 0 rfl
      refine hK _ _ (h6.sat' (GH.le.trans hpM.le leA) [] (by kernel_rfl)) ?_; clear hK K; try clear Q'
      iterate 1 (refine wpT_quiet (v := ?_) rfl (fun _ _ _ => hQp _ _ _ _ _) ?_ ?_; rotate_left; (intro w' hS; (first | (go_simp; done) | (go_simp; with_reducible rfl))); simp only [Act.put, List.setIfInBounds_toArray])
      refine wpT_nil (hQn _ _ ?_); clear hQn hQp QR
      show Code.wp _ _ _ _ _
      -- stops at: ret
      refine wp_ret ?_
      go_ret
      refine ⟨v1, H6, rfl, ?_, ?_⟩
      · rw [Rw.meldN_gt kf a b h]
        exact h6.post
      · rw [Rw.meld_gt kf a b h]
        refine ⟨pg :: qs, ?_, RowR.cons (hpg.mono (hpM.le.trans leA)) (hq2.mono leA)⟩
        rw [Nat.add_comm] at rA
        exact rA
  · intro H w m c d va vb hpre hn hla hlb
    as_aux_lemma =>
    obtain ⟨b0, o0, cap0, nn, pf, vS, rfl, hnn, hn1, hn0, hcap0, hcell, hpf, hvS, hrest⟩ := hla.cons
    obtain ⟨b1, o1, cap1, mm, pg, vT, rfl, hmm, hm1, hm0, hcap1, hcelg, hpg, hvT, hresg⟩ := hlb.cons
    obtain ⟨r1, hr1⟩ : ∃ r, Hid (f.rank = r) := ⟨_, show _ = _ from rfl⟩
    obtain ⟨r2, hr2⟩ : ∃ r, Hid (g.rank = r) := ⟨_, show _ = _ from rfl⟩
    have hsz : Hid (f.size + Rw.size a + (g.size + Rw.size b) < 1000000) := by rw [Rw.size_cons, Rw.size_cons] at hn; exact hn
    have da : ((nn : Int) == 0) = false := beq_eq_false_iff_ne.2 (by omega)
    have db : ((mm : Int) == 0) = false := beq_eq_false_iff_ne.2 (by omega)
    simp [Addr.add] at hvS hvT
    have d1 : decide (r1 < r2) = false := decide_eq_false (by have := hr1.out; have := hr2.out; omega)
    go_enter Tryz.func56, Tryz.ntmps56
    have h0 := St.start hpre
    refine wp_seq ?_
    refine wp_region_lit ?_
    iterate 1 (refine wpList_plainQ rfl (fun K Q' hK => ?_); go_simp; refine hK _ _ ?_; clear hK K; try clear Q')
    refine wpList_nil ?_
    show Code.wp _ _ _ _ _
    refine wp_seq ?_
    refine wp_block ?_
    refine wp_seq ?_
    refine wp_region_lit ?_
    iterate 4 (refine wpList_plainQ rfl (fun K Q' hK => ?_); go_simp; refine hK _ _ ?_; clear hK K; try clear Q')
    refine wpList_nil ?_
    show Code.wp _ _ _ _ _
    -- stops at: cond
    refine wp_cond_false (rfl) ?_
    refine wp_seq ?_
    refine wp_region_lit ?_
    iterate 4 (refine wpList_plainQ rfl (fun K Q' hK => ?_); go_simp; refine hK _ _ ?_; clear hK K; try clear Q')
    refine wpList_nil ?_
    show Code.wp _ _ _ _ _
    -- stops at: cond
    refine wp_cond_false (rfl) ?_
    refine wp_seq ?_
    refine h0.region [] [(0, true), (1, true), (2, true), (4, true), (5, true), (6, true), (3, false), (7, false), (8, true), (9, true)] (by kernel_rfl) (by kernel_rfl) (fun w1 h1 => ?_)
    refine wpOrd_hide (fun _ _ d _ _ h => by cases d <;> exact h) (fun QR hQn hQp => ?_)
    simp only [ordOps, List.map_cons, List.map_nil, List.getD_cons_zero, List.getD_cons_succ]
    iterate 2 (refine wpOrd_quiet (v := ?_) rfl (fun _ _ _ => hQp _ _ _ _ _) ?_ ?_; rotate_left; (intro w' hS; (first | (go_simp; done) | (go_simp; with_reducible rfl))); simp only [Act.put, List.setIfInBounds_toArray, List.set_cons_zero, List.set_cons_succ])
    -- stops at: load (Go.Op.load 94 (Go.Operand.tmp 20)) slot 21
    iterate 1 (refine wpOrd_quiet (v := ?_) rfl (fun _ _ _ => hQp _ _ _ _ _) ?_ ?_; rotate_left; (intro w' hS; have ce := hcell.out _ hS.1; (first | (go_simp; done) | (go_simp; with_reducible rfl))); simp only [Act.put, List.setIfInBounds_toArray, List.set_cons_zero, List.set_cons_succ])
    iterate 2 (refine wpOrd_quiet (v := ?_) rfl (fun _ _ _ => hQp _ _ _ _ _) ?_ ?_; rotate_left; (intro w' hS; (first | (go_simp; done) | (go_simp; with_reducible rfl))); simp only [Act.put, List.setIfInBounds_toArray, List.set_cons_zero, List.set_cons_succ])
    -- stops at: load (Go.Op.load 94 (Go.Operand.tmp 24)) slot 25
    iterate 1 (refine wpOrd_quiet (v := ?_) rfl (fun _ _ _ => hQp _ _ _ _ _) ?_ ?_; rotate_left; (intro w' hS; have ce := hcelg.out _ hS.1; (first | (go_simp; done) | (go_simp; with_reducible rfl))); simp only [Act.put, List.setIfInBounds_toArray, List.set_cons_zero, List.set_cons_succ])
    -- stops at: eff:call (Go.Op.call {'callee': (Go.Callee.value (Go.Operand.func 46)), 'args': [(Go.Operand.tmp 21)], 'argTypes': [94]}) slot 22
    refine wpOrd_effQ rfl (fun K Q' hK => ?_); go_simp
    refine (rank_ok H _ pf f h1.fits hpf).mono ?_
    rintro e wA1 ⟨rfl, hkA1⟩
    rw [hr1.out]
    have h2 := h1.callk hkA1
    refine hK _ _ (h2.sat' (GH.le_refl _) [] (by kernel_rfl)) ?_; clear hK K; try clear Q'
    -- stops at: eff:call (Go.Op.call {'callee': (Go.Callee.value (Go.Operand.func 46)), 'args': [(Go.Operand.tmp 25)], 'argTypes': [94]}) slot 26
    refine wpOrd_effQ rfl (fun K Q' hK => ?_); go_simp
    refine (rank_ok H _ pg g h2.fits hpg).mono ?_
    rintro e wA2 ⟨rfl, hkA2⟩
    rw [hr2.out]
    have h3 := h2.callk hkA2
    refine hK _ _ (h3.sat' (GH.le_refl _) [] (by kernel_rfl)) ?_; clear hK K; try clear Q'
    iterate 2 (refine wpOrd_quiet (v := ?_) rfl (fun _ _ _ => hQp _ _ _ _ _) ?_ ?_; rotate_left; (intro w' hS; (first | (go_simp; done) | (go_simp; with_reducible rfl))); simp only [Act.put, List.setIfInBounds_toArray, List.set_cons_zero, List.set_cons_succ])
    refine wpOrd_nil (hQn _ _ ?_); clear hQn hQp QR
    show Code.wp _ _ _ _ _
    -- stops at: cond
    have d2 : decide (r2 < r1) = false := decide_eq_false (by have := hr1.out; have := hr2.out; omega)
    refine wp_cond_false (rfl) ?_
    refine wp_seq ?_
    refine h3.region [] [(0, true), (1, true), (2, true), (4, true), (5, true), (6, true), (3, false), (7, false), (8, true), (9, true)] (by kernel_rfl) (by kernel_rfl) (fun w4 h4 => ?_)
    refine wpOrd_hide (fun _ _ d _ _ h => by cases d <;> exact h) (fun QR hQn hQp => ?_)
    simp only [ordOps, List.map_cons, List.map_nil, List.getD_cons_zero, List.getD_cons_succ]
    iterate 2 (refine wpOrd_quiet (v := ?_) rfl (fun _ _ _ => hQp _ _ _ _ _) ?_ ?_; rotate_left; (intro w' hS; (first | (go_simp; done) | (go_simp; with_reducible rfl))); simp only [Act.put, List.setIfInBounds_toArray, List.set_cons_zero, List.set_cons_succ])
    -- stops at: load (Go.Op.load 94 (Go.Operand.tmp 40)) slot 41
    iterate 1 (refine wpOrd_quiet (v := ?_) rfl (fun _ _ _ => hQp _ _ _ _ _) ?_ ?_; rotate_left; (intro w' hS; have ce := hcelg.out _ hS.1; (first | (go_simp; done) | (go_simp; with_reducible rfl))); simp only [Act.put, List.setIfInBounds_toArray, List.set_cons_zero, List.set_cons_succ])
    iterate 2 (refine wpOrd_quiet (v := ?_) rfl (fun _ _ _ => hQp _ _ _ _ _) ?_ ?_; rotate_left; (intro w' hS; (first | (go_simp; done) | (go_simp; with_reducible rfl))); simp only [Act.put, List.setIfInBounds_toArray, List.set_cons_zero, List.set_cons_succ])
    -- stops at: load (Go.Op.load 94 (Go.Operand.tmp 44)) slot 45
    iterate 1 (refine wpOrd_quiet (v := ?_) rfl (fun _ _ _ => hQp _ _ _ _ _) ?_ ?_; rotate_left; (intro w' hS; have ce := hcell.out _ hS.1; (first | (go_simp; done) | (go_simp; with_reducible rfl))); simp only [Act.put, List.setIfInBounds_toArray, List.set_cons_zero, List.set_cons_succ])
    -- stops at: eff:call (Go.Op.call {'callee': (Go.Callee.value (Go.Operand.func 46)), 'args': [(Go.Operand.tmp 41)], 'argTypes': [94]}) slot 42
    refine wpOrd_effQ rfl (fun K Q' hK => ?_); go_simp
    refine (rank_ok H _ pg g h4.fits hpg).mono ?_
    rintro e wB1 ⟨rfl, hkB1⟩
    rw [hr2.out]
    have h5 := h4.callk hkB1
    refine hK _ _ (h5.sat' (GH.le_refl _) [] (by kernel_rfl)) ?_; clear hK K; try clear Q'
    -- stops at: eff:call (Go.Op.call {'callee': (Go.Callee.value (Go.Operand.func 46)), 'args': [(Go.Operand.tmp 45)], 'argTypes': [94]}) slot 46
    refine wpOrd_effQ rfl (fun K Q' hK => ?_); go_simp
    refine (rank_ok H _ pf f h5.fits hpf).mono ?_
    rintro e wB2 ⟨rfl, hkB2⟩
    rw [hr1.out]
    have h6 := h5.callk hkB2
    refine hK _ _ (h6.sat' (GH.le_refl _) [] (by kernel_rfl)) ?_; clear hK K; try clear Q'
    iterate 2 (refine wpOrd_quiet (v := ?_) rfl (fun _ _ _ => hQp _ _ _ _ _) ?_ ?_; rotate_left; (intro w' hS; (first | (go_simp; done) | (go_simp; with_reducible rfl))); simp only [Act.put, List.setIfInBounds_toArray, List.set_cons_zero, List.set_cons_succ])
    refine wpOrd_nil (hQn _ _ ?_); clear hQn hQp QR
    show Code.wp _ _ _ _ _
    -- stops at: cond
    refine wp_cond_false (rfl) ?_
    refine wp_skip ?_
    show Code.wp _ _ _ _ _
    refine wp_seq ?_
    refine h6.region [] [(0, true), (1, true), (2, true), (3, true), (4, true), (5, false), (6, true)] (by kernel_rfl) (by kernel_rfl) (fun w7 h7 => ?_)
    refine wpOrd_hide (fun _ _ d _ _ h => by cases d <;> exact h) (fun QR hQn hQp => ?_)
    simp only [ordOps, List.map_cons, List.map_nil, List.getD_cons_zero, List.getD_cons_succ]
    iterate 5 (refine wpOrd_quiet (v := ?_) rfl (fun _ _ _ => hQp _ _ _ _ _) ?_ ?_; rotate_left; (intro w' hS; (first | (go_simp; done) | (go_simp; with_reducible rfl))); simp only [Act.put, List.setIfInBounds_toArray, List.set_cons_zero, List.set_cons_succ])
    -- stops at: eff:call (Go.Op.call {'callee': (Go.Callee.value (Go.Operand.func 56)), 'args': [(Go.Operand.tmp 58), (Go.Operand.tmp 60), (Go.Operand.tmp 62)], 'argTypes': [25, 107, 10 slot 63
    refine wpOrd_effQ rfl (fun K Q' hK => ?_); go_simp
    refine (ih H _ m c d vS vT h7.pre (by have := hsz.out; omega) hrest hresg).mono ?_
    rintro e wM ⟨q3, H1, rfl, hpM, hM⟩
    have h8 := h7.call hpM
    refine hK _ _ (h8.sat' hpM.le [] (by kernel_rfl)) ?_; clear hK K; try clear Q'
    iterate 1 (refine wpOrd_quiet (v := ?_) rfl (fun _ _ _ => hQp _ _ _ _ _) ?_ ?_; rotate_left; (intro w' hS; (first | (go_simp; done) | (go_simp; with_reducible rfl))); simp only [Act.put, List.setIfInBounds_toArray, List.set_cons_zero, List.set_cons_succ])
    refine wpOrd_nil (hQn _ _ ?_); clear hQn hQp QR
    show Code.wp _ _ _ _ _
    refine wp_seq ?_
    refine h8.region [] [(0, true), (1, true), (2, true), (3, true), (4, true), (5, true), (6, true), (7, true), (9, true), (8, false), (10, false), (11, true)] (by kernel_rfl) (by kernel_rfl) (fun w9 h9 => ?_)
    refine wpOrd_hide (fun _ _ d _ _ h => by cases d <;> exact h) (fun QR hQn hQp => ?_)
    simp only [ordOps, List.map_cons, List.map_nil, List.getD_cons_zero, List.getD_cons_succ]
    iterate 4 (refine wpOrd_quiet (v := ?_) rfl (fun _ _ _ => hQp _ _ _ _ _) ?_ ?_; rotate_left; (intro w' hS; (first | (go_simp; done) | (go_simp; with_reducible rfl))); simp only [Act.put, List.setIfInBounds_toArray, List.set_cons_zero, List.set_cons_succ])
    -- stops at: load (Go.Op.load 94 (Go.Operand.tmp 67)) slot 68
    iterate 1 (refine wpOrd_quiet (v := ?_) rfl (fun _ _ _ => hQp _ _ _ _ _) ?_ ?_; rotate_left; (intro w' hS; have ce := hcell.out _ (hS.1.le hpM.le); (first | (go_simp; done) | (go_simp; with_reducible rfl))); simp only [Act.put, List.setIfInBounds_toArray, List.set_cons_zero, List.set_cons_succ])
    iterate 2 (refine wpOrd_quiet (v := ?_) rfl (fun _ _ _ => hQp _ _ _ _ _) ?_ ?_; rotate_left; (intro w' hS; (first | (go_simp; done) | (go_simp; with_reducible rfl))); simp only [Act.put, List.setIfInBounds_toArray, List.set_cons_zero, List.set_cons_succ])
    -- stops at: load (Go.Op.load 94 (Go.Operand.tmp 70)) slot 71
    iterate 1 (refine wpOrd_quiet (v := ?_) rfl (fun _ _ _ => hQp _ _ _ _ _) ?_ ?_; rotate_left; (intro w' hS; have ce := hcelg.out _ (hS.1.le hpM.le); (first | (go_simp; done) | (go_simp; with_reducible rfl))); simp only [Act.put, List.setIfInBounds_toArray, List.set_cons_zero, List.set_cons_succ])
    iterate 1 (refine wpOrd_quiet (v := ?_) rfl (fun _ _ _ => hQp _ _ _ _ _) ?_ ?_; rotate_left; (intro w' hS; (first | (go_simp; done) | (go_simp; with_reducible rfl))); simp only [Act.put, List.setIfInBounds_toArray, List.set_cons_zero, List.set_cons_succ])
    -- stops at: eff:call (Go.Op.call {'callee': (Go.Callee.value (Go.Operand.func 77)), 'args': [(Go.Operand.tmp 65), (Go.Operand.tmp 68), (Go.Operand.tmp 71)], 'argTypes': [25, 94, 94] slot 72
    refine wpOrd_effQ rfl (fun K Q' hK => ?_); go_simp
    refine (link_ok H1 _ m _ _ pf pg f g h9.pre (by have := hsz.out; omega) (hpf.mono hpM.le) (hpg.mono hpM.le)).mono ?_
    rintro e wL ⟨pl, H2, rfl, hpL, hL⟩
    have h10 := h9.call hpL
    refine hK _ _ (h10.sat' hpL.le [] (by kernel_rfl)) ?_; clear hK K; try clear Q'
    -- stops at: eff:call (Go.Op.call {'callee': (Go.Callee.value (Go.Operand.func 81)), 'args': [(Go.Operand.tmp 64), (Go.Operand.tmp 72), (Go.Operand.tmp 73)], 'argTypes': [25, 94, 107 slot 74
    refine wpOrd_effQ rfl (fun K Q' hK => ?_); go_simp
    refine (skput_ok H2 _ m _ _ pl q3 _ _ h10.pre (by have := hsz.out; rw [Tr.link_size, Rw.meld_size]; omega) hL (hM.mono hpL.le)).mono ?_
    rintro e wP ⟨q9, H9, rfl, hpP, hq9⟩
    have h11 := h10.call hpP
    refine hK _ _ (h11.sat' (GH.le.trans hpL.le hpP.le) [] (by kernel_rfl)) ?_; clear hK K; try clear Q'
    iterate 1 (refine wpOrd_quiet (v := ?_) rfl (fun _ _ _ => hQp _ _ _ _ _) ?_ ?_; rotate_left; (intro w' hS; (first | (go_simp; done) | (go_simp; with_reducible rfl))); simp only [Act.put, List.setIfInBounds_toArray, List.set_cons_zero, List.set_cons_succ])
    refine wpOrd_nil (hQn _ _ ?_); clear hQn hQp QR
    show Code.wp _ _ _ _ _
    -- stops at: ret
    refine wp_ret ?_
    go_ret
    refine ⟨q9, H9, rfl, ?_, by rw [Rw.meld_eq kf a b h]; exact hq9⟩
    rw [Rw.meldN_eq kf a b h]
    have hq := h11.post
    have ee : ∀ z : Int, z + (Rw.meldN kf a b : Nat) + 1 + (Rw.putN kf (Tr.link kf f g) (Rw.meld kf a b) : Nat) = z + ((1 + Rw.meldN kf a b + Rw.putN kf (Tr.link kf f g) (Rw.meld kf a b) : Nat) : Int) := fun z => by omega
    rw [ee, ee] at hq
    exact hq
end Go.Proofs.YteigmfkkeofcaaaGreatDoor
