/-
The document's rows of trees melded.
-/
import Derived.Test.YteigmfkkeofcaaaGreatDoorSbPut
import Derived.Test.YteigmfkkeofcaaaGreatDoorMfBits
namespace Go.Proofs.YteigmfkkeofcaaaGreatDoor
open Go Go.RowKit
set_option linter.unusedVariables false

set_option maxRecDepth 100000 in
set_option maxHeartbeats 8000000 in
theorem rtrees_ok : ∀ (a b : List (Tr El)) (H : GH) (w : World) (u v : Value), Fits w H → Rw.size a + Rw.size b < 1000000 → RsV H u a → RsV H v b →
    Calls Tryz.prog 58 #[u, v] w fun e w' => ∃ r H', e = .returned (.tuple #[r, .int .i64 (2 * Rw.meldN kf a b : Nat)]) ∧ Post w H none w' H' 0 0 ∧ RsV H' r (Rw.meld kf a b) := by
  refine Rw.meld_cases (fun b => ?_) (fun f a => ?_) (fun f a g b h ih => ?_) (fun f a g b h ih => ?_) (fun f a g b h ih => ?_)
  · intro H w u v hf hn hla hlb
    as_aux_lemma =>
    have hpre : Pre w H none 0 0 := Pre.none hf 0 0
    obtain ⟨a0, c0, rfl, _, _⟩ := hla.form
    obtain ⟨a1, c1, rfl, _, _⟩ := hlb.form
    go_enter Tryz.func58, Tryz.ntmps58
    have h0 := St.start hpre
    refine wp_seq ?_
    repeat (first | simp only [List.nil_append] at h0 | simp only [List.cons_append] at h0 | simp only [List.set_cons_zero] at h0 | simp only [List.set_cons_succ] at h0 | simp only [List.eraseIdx_zero] at h0 | simp only [List.tail_cons] at h0 | simp only [List.eraseIdx_cons_zero] at h0 | simp only [List.eraseIdx_cons_succ] at h0 | simp only [List.setIfInBounds_toArray] at h0)
    refine wp_region_lit ?_
    iterate 2 (refine wpList_plainQ rfl (fun K Q' hK => ?_); go_simp; refine hK _ _ ?_; clear hK K; try clear Q')
    refine wpList_nil ?_
    show Code.wp _ _ _ _ _
    refine wp_seq ?_
    refine wp_seq ?_
    refine wp_region_lit ?_
    iterate 3 (refine wpList_plainQ rfl (fun K Q' hK => ?_); go_simp; refine hK _ _ ?_; clear hK K; try clear Q')
    refine wpList_nil ?_
    show Code.wp _ _ _ _ _
    -- stops at: cond
    refine wp_cond_true (rfl) ?_
    refine wp_seq ?_
    refine wp_region_lit ?_
    iterate 3 (refine wpList_plainQ rfl (fun K Q' hK => ?_); go_simp; refine hK _ _ ?_; clear hK K; try clear Q')
    refine wpList_nil ?_
    show Code.wp _ _ _ _ _
    -- stops at: ret
    refine wp_ret ?_
    go_ret2
    exact ⟨_, H, rfl, h0.post, hlb⟩
  · intro H w u v hf hn hla hlb
    as_aux_lemma =>
    have hpre : Pre w H none 0 0 := Pre.none hf 0 0
    obtain ⟨b0, o0, cap0, nn, vS, rfl, hnn, hn1, hn0, hcap0, hvS, hrest⟩ := hla.cons
    obtain ⟨a1, c1, rfl, _, _⟩ := hlb.form
    have da : ((nn : Int) == 0) = false := beq_eq_false_iff_ne.2 (by omega)
    go_enter Tryz.func58, Tryz.ntmps58
    have h0 := St.start hpre
    refine wp_seq ?_
    repeat (first | simp only [List.nil_append] at h0 | simp only [List.cons_append] at h0 | simp only [List.set_cons_zero] at h0 | simp only [List.set_cons_succ] at h0 | simp only [List.eraseIdx_zero] at h0 | simp only [List.tail_cons] at h0 | simp only [List.eraseIdx_cons_zero] at h0 | simp only [List.eraseIdx_cons_succ] at h0 | simp only [List.setIfInBounds_toArray] at h0)
    refine wp_region_lit ?_
    iterate 2 (refine wpList_plainQ rfl (fun K Q' hK => ?_); go_simp; refine hK _ _ ?_; clear hK K; try clear Q')
    refine wpList_nil ?_
    show Code.wp _ _ _ _ _
    refine wp_seq ?_
    refine wp_seq ?_
    refine wp_region_lit ?_
    iterate 3 (refine wpList_plainQ rfl (fun K Q' hK => ?_); go_simp; refine hK _ _ ?_; clear hK K; try clear Q')
    refine wpList_nil ?_
    show Code.wp _ _ _ _ _
    -- stops at: cond
    refine wp_cond_false (rfl) ?_
    refine wp_skip ?_
    show Code.wp _ _ _ _ _
    refine wp_seq ?_
    refine wp_seq ?_
    refine wp_region_lit ?_
    iterate 3 (refine wpList_plainQ rfl (fun K Q' hK => ?_); go_simp; refine hK _ _ ?_; clear hK K; try clear Q')
    refine wpList_nil ?_
    show Code.wp _ _ _ _ _
    -- stops at: cond
    refine wp_cond_true (rfl) ?_
    refine wp_seq ?_
    refine wp_region_lit ?_
    iterate 3 (refine wpList_plainQ rfl (fun K Q' hK => ?_); go_simp; refine hK _ _ ?_; clear hK K; try clear Q')
    refine wpList_nil ?_
    show Code.wp _ _ _ _ _
    -- stops at: ret
    refine wp_ret ?_
    go_ret2
    exact ⟨_, H, by rw [Rw.meldN_nil']; rfl, h0.post, by rw [Rw.meld_nil']; exact hla⟩
  · intro H w u v hf hn hla hlb
    as_aux_lemma =>
    have hpre : Pre w H none 0 0 := Pre.none hf 0 0
    obtain ⟨b0, o0, cap0, nn, vS, rfl, hnn, hn1, hn0, hcap0, hvS, hrest⟩ := hla.cons
    obtain ⟨b1, o1, cap1, mm, vT, rfl, hmm, hm1, hm0, hcap1, hvT, hresg⟩ := hlb.cons
    obtain ⟨aF, cF, aG, cG, r1, z1, hc, hr1, hf1⟩ := hla.head
    obtain ⟨aM, cM, aN, cN, r2, z2, hd, hr2, hg1⟩ := hlb.head
    have hsz : Hid (f.size + Rw.size a + (g.size + Rw.size b) < 1000000) := by rw [Rw.size_cons, Rw.size_cons] at hn; exact hn
    have da : ((nn : Int) == 0) = false := beq_eq_false_iff_ne.2 (by omega)
    have db : ((mm : Int) == 0) = false := beq_eq_false_iff_ne.2 (by omega)
    simp [Addr.add] at hvS hvT
    have d1 : decide (r1 < r2) = true := decide_eq_true (by have := hr1.out; have := hr2.out; omega)
    go_enter Tryz.func58, Tryz.ntmps58
    have h0 := St.start hpre
    refine wp_seq ?_
    repeat (first | simp only [List.nil_append] at h0 | simp only [List.cons_append] at h0 | simp only [List.set_cons_zero] at h0 | simp only [List.set_cons_succ] at h0 | simp only [List.eraseIdx_zero] at h0 | simp only [List.tail_cons] at h0 | simp only [List.eraseIdx_cons_zero] at h0 | simp only [List.eraseIdx_cons_succ] at h0 | simp only [List.setIfInBounds_toArray] at h0)
    refine wp_region_lit ?_
    iterate 2 (refine wpList_plainQ rfl (fun K Q' hK => ?_); go_simp; refine hK _ _ ?_; clear hK K; try clear Q')
    refine wpList_nil ?_
    show Code.wp _ _ _ _ _
    refine wp_seq ?_
    refine wp_seq ?_
    refine wp_region_lit ?_
    iterate 3 (refine wpList_plainQ rfl (fun K Q' hK => ?_); go_simp; refine hK _ _ ?_; clear hK K; try clear Q')
    refine wpList_nil ?_
    show Code.wp _ _ _ _ _
    -- stops at: cond
    refine wp_cond_false (rfl) ?_
    refine wp_skip ?_
    show Code.wp _ _ _ _ _
    refine wp_seq ?_
    refine wp_seq ?_
    refine wp_region_lit ?_
    iterate 3 (refine wpList_plainQ rfl (fun K Q' hK => ?_); go_simp; refine hK _ _ ?_; clear hK K; try clear Q')
    refine wpList_nil ?_
    show Code.wp _ _ _ _ _
    -- stops at: cond
    refine wp_cond_false (rfl) ?_
    refine wp_skip ?_
    show Code.wp _ _ _ _ _
    refine wp_seq ?_
    refine wp_seq ?_
    refine h0.region [] [(0, true), (1, true), (2, true), (3, true), (4, true), (5, true), (6, true), (7, true), (8, true)] (by kernel_rfl) (by kernel_rfl) (fun w1 h1 => ?_)
    refine wpOrd_hide (fun _ _ d _ _ h => by cases d <;> exact h) (fun QR hQn hQp => ?_)
    simp only [ordOps, List.map_cons, List.map_nil, List.getD_cons_zero, List.getD_cons_succ]
    iterate 3 (refine wpOrd_quiet (v := ?_) rfl (fun _ _ _ => hQp _ _ _ _ _) ?_ ?_; rotate_left; (intro w' hS; (first | (go_simp; done) | (go_simp; with_reducible rfl))); simp only [Act.put, List.setIfInBounds_toArray, List.set_cons_zero, List.set_cons_succ])
    -- stops at: load (Go.Op.load 3 (Go.Operand.tmp 26)) slot 27
    iterate 1 (refine wpOrd_quiet (v := ?_) rfl (fun _ _ _ => hQp _ _ _ _ _) ?_ ?_; rotate_left; (intro w' hS; obtain ⟨q0, q1, q2, q3, q4, q5⟩ := hc.out _ hS.1; (first | (go_simp; done) | (go_simp; with_reducible rfl))); simp only [Act.put, List.setIfInBounds_toArray, List.set_cons_zero, List.set_cons_succ])
    iterate 3 (refine wpOrd_quiet (v := ?_) rfl (fun _ _ _ => hQp _ _ _ _ _) ?_ ?_; rotate_left; (intro w' hS; (first | (go_simp; done) | (go_simp; with_reducible rfl))); simp only [Act.put, List.setIfInBounds_toArray, List.set_cons_zero, List.set_cons_succ])
    -- stops at: load (Go.Op.load 3 (Go.Operand.tmp 30)) slot 31
    iterate 1 (refine wpOrd_quiet (v := ?_) rfl (fun _ _ _ => hQp _ _ _ _ _) ?_ ?_; rotate_left; (intro w' hS; obtain ⟨q0, q1, q2, q3, q4, q5⟩ := hd.out _ hS.1; (first | (go_simp; done) | (go_simp; with_reducible rfl))); simp only [Act.put, List.setIfInBounds_toArray, List.set_cons_zero, List.set_cons_succ])
    iterate 1 (refine wpOrd_quiet (v := ?_) rfl (fun _ _ _ => hQp _ _ _ _ _) ?_ ?_; rotate_left; (intro w' hS; (first | (go_simp; done) | (go_simp; with_reducible rfl))); simp only [Act.put, List.setIfInBounds_toArray, List.set_cons_zero, List.set_cons_succ])
    refine wpOrd_nil (hQn _ _ ?_); clear hQn hQp QR
    show Code.wp _ _ _ _ _
    -- stops at: cond
    refine wp_cond_true (rfl) ?_
    refine wp_seq ?_
    repeat (first | simp only [List.nil_append] at h1 | simp only [List.cons_append] at h1 | simp only [List.set_cons_zero] at h1 | simp only [List.set_cons_succ] at h1 | simp only [List.eraseIdx_zero] at h1 | simp only [List.tail_cons] at h1 | simp only [List.eraseIdx_cons_zero] at h1 | simp only [List.eraseIdx_cons_succ] at h1 | simp only [List.setIfInBounds_toArray] at h1)
    refine wp_region_lit ?_
    iterate 3 (refine wpList_plainQ rfl (fun K Q' hK => ?_); go_simp; refine hK _ _ ?_; clear hK K; try clear Q')
    -- stops at: eff:call (Go.Op.call {'callee': (Go.Callee.value (Go.Operand.func 58)), 'args': [(Go.Operand.tmp 35), (Go.Operand.tmp 36)], 'argTypes': [33, 33]}) slot 37
    refine wpList_plainQ rfl (fun K Q' hK => ?_); go_simp
    refine (ih H _ vS _ h1.fits (by have := hsz.out; have h6 := Rw.size_cons g b; omega) hrest hlb).mono ?_
    rintro e wM ⟨q3, H1, rfl, hpM, hM⟩
    obtain ⟨aQ, cQ, rfl, _, _⟩ := hM.form
    have h2 := h1.call0 hpM
    refine hK _ _ ?_; clear hK K; try clear Q'
    iterate 5 (refine wpList_plainQ rfl (fun K Q' hK => ?_); go_simp; refine hK _ _ ?_; clear hK K; try clear Q')
    refine wpList_nil ?_
    show Code.wp _ _ _ _ _
    refine wp_seq ?_
    repeat (first | simp only [List.nil_append] at h2 | simp only [List.cons_append] at h2 | simp only [List.set_cons_zero] at h2 | simp only [List.set_cons_succ] at h2 | simp only [List.eraseIdx_zero] at h2 | simp only [List.tail_cons] at h2 | simp only [List.eraseIdx_cons_zero] at h2 | simp only [List.eraseIdx_cons_succ] at h2 | simp only [List.setIfInBounds_toArray] at h2)
    refine wp_region_lit ?_
    iterate 2 (refine wpList_plainQ rfl (fun K Q' hK => ?_); go_simp; refine hK _ _ ?_; clear hK K; try clear Q')
    -- stops at: load (Go.Op.load 103 (Go.Operand.tmp 41)) slot 42
    have ce0 := hc.out _ (h2.fits.le hpM.le)
    obtain ⟨q0, q1, q2, q3, q4, q5⟩ := ce0
    iterate 1 (refine wpList_plainQ rfl (fun K Q' hK => ?_); go_simp; refine hK _ _ ?_; clear hK K; try clear Q')
    clear q0 q1 q2 q3 q4 q5
    iterate 1 (refine wpList_plainQ rfl (fun K Q' hK => ?_); go_simp; refine hK _ _ ?_; clear hK K; try clear Q')
    -- stops at: eff:call (Go.Op.call {'callee': (Go.Callee.value (Go.Operand.func 84)), 'args': [(Go.Operand.tmp 42), (Go.Operand.tmp 43)], 'argTypes': [103, 33]}) slot 44
    refine wpList_plainQ rfl (fun K Q' hK => ?_); go_simp
    refine (rahead_ok H1 _ _ _ f _ h2.fits (by rw [Rw.meld_size]; have := hsz.out; have h6 := Rw.size_cons g b; omega) (hf1.mono hpM.le) hM).mono ?_
    rintro e wA ⟨r9, H2, rfl, hpA, hA⟩
    have h3 := h2.call0 hpA
    refine hK _ _ ?_; clear hK K; try clear Q'
    iterate 3 (refine wpList_plainQ rfl (fun K Q' hK => ?_); go_simp; refine hK _ _ ?_; clear hK K; try clear Q')
    refine wpList_nil ?_
    show Code.wp _ _ _ _ _
    -- stops at: ret
    refine wp_ret ?_
    go_ret2
    exact ⟨r9, H2, by rw [Rw.meldN_lt kf a b h]; rfl, h3.post, by rw [Rw.meld_lt kf a b h]; exact hA⟩
  · intro H w u v hf hn hla hlb
    as_aux_lemma =>
    have hpre : Pre w H none 0 0 := Pre.none hf 0 0
    obtain ⟨b0, o0, cap0, nn, vS, rfl, hnn, hn1, hn0, hcap0, hvS, hrest⟩ := hla.cons
    obtain ⟨b1, o1, cap1, mm, vT, rfl, hmm, hm1, hm0, hcap1, hvT, hresg⟩ := hlb.cons
    obtain ⟨aF, cF, aG, cG, r1, z1, hc, hr1, hf1⟩ := hla.head
    obtain ⟨aM, cM, aN, cN, r2, z2, hd, hr2, hg1⟩ := hlb.head
    have hsz : Hid (f.size + Rw.size a + (g.size + Rw.size b) < 1000000) := by rw [Rw.size_cons, Rw.size_cons] at hn; exact hn
    have da : ((nn : Int) == 0) = false := beq_eq_false_iff_ne.2 (by omega)
    have db : ((mm : Int) == 0) = false := beq_eq_false_iff_ne.2 (by omega)
    simp [Addr.add] at hvS hvT
    have d1 : decide (r1 < r2) = false := decide_eq_false (by have := hr1.out; have := hr2.out; omega)
    go_enter Tryz.func58, Tryz.ntmps58
    have h0 := St.start hpre
    refine wp_seq ?_
    repeat (first | simp only [List.nil_append] at h0 | simp only [List.cons_append] at h0 | simp only [List.set_cons_zero] at h0 | simp only [List.set_cons_succ] at h0 | simp only [List.eraseIdx_zero] at h0 | simp only [List.tail_cons] at h0 | simp only [List.eraseIdx_cons_zero] at h0 | simp only [List.eraseIdx_cons_succ] at h0 | simp only [List.setIfInBounds_toArray] at h0)
    refine wp_region_lit ?_
    iterate 2 (refine wpList_plainQ rfl (fun K Q' hK => ?_); go_simp; refine hK _ _ ?_; clear hK K; try clear Q')
    refine wpList_nil ?_
    show Code.wp _ _ _ _ _
    refine wp_seq ?_
    refine wp_seq ?_
    refine wp_region_lit ?_
    iterate 3 (refine wpList_plainQ rfl (fun K Q' hK => ?_); go_simp; refine hK _ _ ?_; clear hK K; try clear Q')
    refine wpList_nil ?_
    show Code.wp _ _ _ _ _
    -- stops at: cond
    refine wp_cond_false (rfl) ?_
    refine wp_skip ?_
    show Code.wp _ _ _ _ _
    refine wp_seq ?_
    refine wp_seq ?_
    refine wp_region_lit ?_
    iterate 3 (refine wpList_plainQ rfl (fun K Q' hK => ?_); go_simp; refine hK _ _ ?_; clear hK K; try clear Q')
    refine wpList_nil ?_
    show Code.wp _ _ _ _ _
    -- stops at: cond
    refine wp_cond_false (rfl) ?_
    refine wp_skip ?_
    show Code.wp _ _ _ _ _
    refine wp_seq ?_
    refine wp_seq ?_
    refine h0.region [] [(0, true), (1, true), (2, true), (3, true), (4, true), (5, true), (6, true), (7, true), (8, true)] (by kernel_rfl) (by kernel_rfl) (fun w1 h1 => ?_)
    refine wpOrd_hide (fun _ _ d _ _ h => by cases d <;> exact h) (fun QR hQn hQp => ?_)
    simp only [ordOps, List.map_cons, List.map_nil, List.getD_cons_zero, List.getD_cons_succ]
    iterate 3 (refine wpOrd_quiet (v := ?_) rfl (fun _ _ _ => hQp _ _ _ _ _) ?_ ?_; rotate_left; (intro w' hS; (first | (go_simp; done) | (go_simp; with_reducible rfl))); simp only [Act.put, List.setIfInBounds_toArray, List.set_cons_zero, List.set_cons_succ])
    -- stops at: load (Go.Op.load 3 (Go.Operand.tmp 26)) slot 27
    iterate 1 (refine wpOrd_quiet (v := ?_) rfl (fun _ _ _ => hQp _ _ _ _ _) ?_ ?_; rotate_left; (intro w' hS; obtain ⟨q0, q1, q2, q3, q4, q5⟩ := hc.out _ hS.1; (first | (go_simp; done) | (go_simp; with_reducible rfl))); simp only [Act.put, List.setIfInBounds_toArray, List.set_cons_zero, List.set_cons_succ])
    iterate 3 (refine wpOrd_quiet (v := ?_) rfl (fun _ _ _ => hQp _ _ _ _ _) ?_ ?_; rotate_left; (intro w' hS; (first | (go_simp; done) | (go_simp; with_reducible rfl))); simp only [Act.put, List.setIfInBounds_toArray, List.set_cons_zero, List.set_cons_succ])
    -- stops at: load (Go.Op.load 3 (Go.Operand.tmp 30)) slot 31
    iterate 1 (refine wpOrd_quiet (v := ?_) rfl (fun _ _ _ => hQp _ _ _ _ _) ?_ ?_; rotate_left; (intro w' hS; obtain ⟨q0, q1, q2, q3, q4, q5⟩ := hd.out _ hS.1; (first | (go_simp; done) | (go_simp; with_reducible rfl))); simp only [Act.put, List.setIfInBounds_toArray, List.set_cons_zero, List.set_cons_succ])
    iterate 1 (refine wpOrd_quiet (v := ?_) rfl (fun _ _ _ => hQp _ _ _ _ _) ?_ ?_; rotate_left; (intro w' hS; (first | (go_simp; done) | (go_simp; with_reducible rfl))); simp only [Act.put, List.setIfInBounds_toArray, List.set_cons_zero, List.set_cons_succ])
    refine wpOrd_nil (hQn _ _ ?_); clear hQn hQp QR
    show Code.wp _ _ _ _ _
    -- stops at: cond
    have d2 : decide (r2 < r1) = true := decide_eq_true (by have := hr1.out; have := hr2.out; omega)
    refine wp_cond_false (rfl) ?_
    refine wp_skip ?_
    show Code.wp _ _ _ _ _
    refine wp_seq ?_
    refine wp_seq ?_
    repeat (first | simp only [List.nil_append] at h1 | simp only [List.cons_append] at h1 | simp only [List.set_cons_zero] at h1 | simp only [List.set_cons_succ] at h1 | simp only [List.eraseIdx_zero] at h1 | simp only [List.tail_cons] at h1 | simp only [List.eraseIdx_cons_zero] at h1 | simp only [List.eraseIdx_cons_succ] at h1 | simp only [List.setIfInBounds_toArray] at h1)
    refine h1.region [] [(0, true), (1, true), (2, true), (3, true), (4, true), (5, true), (6, true), (7, true), (8, true)] (by kernel_rfl) (by kernel_rfl) (fun w2 h2 => ?_)
    refine wpOrd_hide (fun _ _ d _ _ h => by cases d <;> exact h) (fun QR hQn hQp => ?_)
    simp only [ordOps, List.map_cons, List.map_nil, List.getD_cons_zero, List.getD_cons_succ]
    iterate 3 (refine wpOrd_quiet (v := ?_) rfl (fun _ _ _ => hQp _ _ _ _ _) ?_ ?_; rotate_left; (intro w' hS; (first | (go_simp; done) | (go_simp; with_reducible rfl))); simp only [Act.put, List.setIfInBounds_toArray, List.set_cons_zero, List.set_cons_succ])
    -- stops at: load (Go.Op.load 3 (Go.Operand.tmp 48)) slot 49
    iterate 1 (refine wpOrd_quiet (v := ?_) rfl (fun _ _ _ => hQp _ _ _ _ _) ?_ ?_; rotate_left; (intro w' hS; obtain ⟨q0, q1, q2, q3, q4, q5⟩ := hd.out _ hS.1; (first | (go_simp; done) | (go_simp; with_reducible rfl))); simp only [Act.put, List.setIfInBounds_toArray, List.set_cons_zero, List.set_cons_succ])
    iterate 3 (refine wpOrd_quiet (v := ?_) rfl (fun _ _ _ => hQp _ _ _ _ _) ?_ ?_; rotate_left; (intro w' hS; (first | (go_simp; done) | (go_simp; with_reducible rfl))); simp only [Act.put, List.setIfInBounds_toArray, List.set_cons_zero, List.set_cons_succ])
    -- stops at: load (Go.Op.load 3 (Go.Operand.tmp 52)) slot 53
    iterate 1 (refine wpOrd_quiet (v := ?_) rfl (fun _ _ _ => hQp _ _ _ _ _) ?_ ?_; rotate_left; (intro w' hS; obtain ⟨q0, q1, q2, q3, q4, q5⟩ := hc.out _ hS.1; (first | (go_simp; done) | (go_simp; with_reducible rfl))); simp only [Act.put, List.setIfInBounds_toArray, List.set_cons_zero, List.set_cons_succ])
    iterate 1 (refine wpOrd_quiet (v := ?_) rfl (fun _ _ _ => hQp _ _ _ _ _) ?_ ?_; rotate_left; (intro w' hS; (first | (go_simp; done) | (go_simp; with_reducible rfl))); simp only [Act.put, List.setIfInBounds_toArray, List.set_cons_zero, List.set_cons_succ])
    refine wpOrd_nil (hQn _ _ ?_); clear hQn hQp QR
    show Code.wp _ _ _ _ _
    -- stops at: cond
    refine wp_cond_true (rfl) ?_
    refine wp_seq ?_
    repeat (first | simp only [List.nil_append] at h2 | simp only [List.cons_append] at h2 | simp only [List.set_cons_zero] at h2 | simp only [List.set_cons_succ] at h2 | simp only [List.eraseIdx_zero] at h2 | simp only [List.tail_cons] at h2 | simp only [List.eraseIdx_cons_zero] at h2 | simp only [List.eraseIdx_cons_succ] at h2 | simp only [List.setIfInBounds_toArray] at h2)
    refine wp_region_lit ?_
    iterate 3 (refine wpList_plainQ rfl (fun K Q' hK => ?_); go_simp; refine hK _ _ ?_; clear hK K; try clear Q')
    -- stops at: eff:call (Go.Op.call {'callee': (Go.Callee.value (Go.Operand.func 58)), 'args': [(Go.Operand.tmp 56), (Go.Operand.tmp 58)], 'argTypes': [33, 33]}) slot 59
    refine wpList_plainQ rfl (fun K Q' hK => ?_); go_simp
    refine (ih H _ _ vT h2.fits (by have := hsz.out; have h6 := Rw.size_cons f a; omega) hla hresg).mono ?_
    rintro e wM ⟨q3, H1, rfl, hpM, hM⟩
    obtain ⟨aQ, cQ, rfl, _, _⟩ := hM.form
    have h3 := h2.call0 hpM
    refine hK _ _ ?_; clear hK K; try clear Q'
    iterate 5 (refine wpList_plainQ rfl (fun K Q' hK => ?_); go_simp; refine hK _ _ ?_; clear hK K; try clear Q')
    refine wpList_nil ?_
    show Code.wp _ _ _ _ _
    refine wp_seq ?_
    repeat (first | simp only [List.nil_append] at h3 | simp only [List.cons_append] at h3 | simp only [List.set_cons_zero] at h3 | simp only [List.set_cons_succ] at h3 | simp only [List.eraseIdx_zero] at h3 | simp only [List.tail_cons] at h3 | simp only [List.eraseIdx_cons_zero] at h3 | simp only [List.eraseIdx_cons_succ] at h3 | simp only [List.setIfInBounds_toArray] at h3)
    refine wp_region_lit ?_
    iterate 2 (refine wpList_plainQ rfl (fun K Q' hK => ?_); go_simp; refine hK _ _ ?_; clear hK K; try clear Q')
    -- stops at: load (Go.Op.load 103 (Go.Operand.tmp 63)) slot 64
    have ce0 := hd.out _ (h3.fits.le hpM.le)
    obtain ⟨q0, q1, q2, q3, q4, q5⟩ := ce0
    iterate 1 (refine wpList_plainQ rfl (fun K Q' hK => ?_); go_simp; refine hK _ _ ?_; clear hK K; try clear Q')
    clear q0 q1 q2 q3 q4 q5
    iterate 1 (refine wpList_plainQ rfl (fun K Q' hK => ?_); go_simp; refine hK _ _ ?_; clear hK K; try clear Q')
    -- stops at: eff:call (Go.Op.call {'callee': (Go.Callee.value (Go.Operand.func 84)), 'args': [(Go.Operand.tmp 64), (Go.Operand.tmp 65)], 'argTypes': [103, 33]}) slot 66
    refine wpList_plainQ rfl (fun K Q' hK => ?_); go_simp
    refine (rahead_ok H1 _ _ _ g _ h3.fits (by rw [Rw.meld_size]; have := hsz.out; have h6 := Rw.size_cons f a; omega) (hg1.mono hpM.le) hM).mono ?_
    rintro e wA ⟨r9, H2, rfl, hpA, hA⟩
    have h4 := h3.call0 hpA
    refine hK _ _ ?_; clear hK K; try clear Q'
    iterate 3 (refine wpList_plainQ rfl (fun K Q' hK => ?_); go_simp; refine hK _ _ ?_; clear hK K; try clear Q')
    refine wpList_nil ?_
    show Code.wp _ _ _ _ _
    -- stops at: ret
    refine wp_ret ?_
    go_ret2
    exact ⟨r9, H2, by rw [Rw.meldN_gt kf a b h]; rfl, h4.post, by rw [Rw.meld_gt kf a b h]; exact hA⟩
  · intro H w u v hf hn hla hlb
    as_aux_lemma =>
    have hpre : Pre w H none 0 0 := Pre.none hf 0 0
    obtain ⟨b0, o0, cap0, nn, vS, rfl, hnn, hn1, hn0, hcap0, hvS, hrest⟩ := hla.cons
    obtain ⟨b1, o1, cap1, mm, vT, rfl, hmm, hm1, hm0, hcap1, hvT, hresg⟩ := hlb.cons
    obtain ⟨aF, cF, aG, cG, r1, z1, hc, hr1, hf1⟩ := hla.head
    obtain ⟨aM, cM, aN, cN, r2, z2, hd, hr2, hg1⟩ := hlb.head
    have hsz : Hid (f.size + Rw.size a + (g.size + Rw.size b) < 1000000) := by rw [Rw.size_cons, Rw.size_cons] at hn; exact hn
    have da : ((nn : Int) == 0) = false := beq_eq_false_iff_ne.2 (by omega)
    have db : ((mm : Int) == 0) = false := beq_eq_false_iff_ne.2 (by omega)
    simp [Addr.add] at hvS hvT
    have d1 : decide (r1 < r2) = false := decide_eq_false (by have := hr1.out; have := hr2.out; omega)
    go_enter Tryz.func58, Tryz.ntmps58
    have h0 := St.start hpre
    refine wp_seq ?_
    repeat (first | simp only [List.nil_append] at h0 | simp only [List.cons_append] at h0 | simp only [List.set_cons_zero] at h0 | simp only [List.set_cons_succ] at h0 | simp only [List.eraseIdx_zero] at h0 | simp only [List.tail_cons] at h0 | simp only [List.eraseIdx_cons_zero] at h0 | simp only [List.eraseIdx_cons_succ] at h0 | simp only [List.setIfInBounds_toArray] at h0)
    refine wp_region_lit ?_
    iterate 2 (refine wpList_plainQ rfl (fun K Q' hK => ?_); go_simp; refine hK _ _ ?_; clear hK K; try clear Q')
    refine wpList_nil ?_
    show Code.wp _ _ _ _ _
    refine wp_seq ?_
    refine wp_seq ?_
    refine wp_region_lit ?_
    iterate 3 (refine wpList_plainQ rfl (fun K Q' hK => ?_); go_simp; refine hK _ _ ?_; clear hK K; try clear Q')
    refine wpList_nil ?_
    show Code.wp _ _ _ _ _
    -- stops at: cond
    refine wp_cond_false (rfl) ?_
    refine wp_skip ?_
    show Code.wp _ _ _ _ _
    refine wp_seq ?_
    refine wp_seq ?_
    refine wp_region_lit ?_
    iterate 3 (refine wpList_plainQ rfl (fun K Q' hK => ?_); go_simp; refine hK _ _ ?_; clear hK K; try clear Q')
    refine wpList_nil ?_
    show Code.wp _ _ _ _ _
    -- stops at: cond
    refine wp_cond_false (rfl) ?_
    refine wp_skip ?_
    show Code.wp _ _ _ _ _
    refine wp_seq ?_
    refine wp_seq ?_
    refine h0.region [] [(0, true), (1, true), (2, true), (3, true), (4, true), (5, true), (6, true), (7, true), (8, true)] (by kernel_rfl) (by kernel_rfl) (fun w1 h1 => ?_)
    refine wpOrd_hide (fun _ _ d _ _ h => by cases d <;> exact h) (fun QR hQn hQp => ?_)
    simp only [ordOps, List.map_cons, List.map_nil, List.getD_cons_zero, List.getD_cons_succ]
    iterate 3 (refine wpOrd_quiet (v := ?_) rfl (fun _ _ _ => hQp _ _ _ _ _) ?_ ?_; rotate_left; (intro w' hS; (first | (go_simp; done) | (go_simp; with_reducible rfl))); simp only [Act.put, List.setIfInBounds_toArray, List.set_cons_zero, List.set_cons_succ])
    -- stops at: load (Go.Op.load 3 (Go.Operand.tmp 26)) slot 27
    iterate 1 (refine wpOrd_quiet (v := ?_) rfl (fun _ _ _ => hQp _ _ _ _ _) ?_ ?_; rotate_left; (intro w' hS; obtain ⟨q0, q1, q2, q3, q4, q5⟩ := hc.out _ hS.1; (first | (go_simp; done) | (go_simp; with_reducible rfl))); simp only [Act.put, List.setIfInBounds_toArray, List.set_cons_zero, List.set_cons_succ])
    iterate 3 (refine wpOrd_quiet (v := ?_) rfl (fun _ _ _ => hQp _ _ _ _ _) ?_ ?_; rotate_left; (intro w' hS; (first | (go_simp; done) | (go_simp; with_reducible rfl))); simp only [Act.put, List.setIfInBounds_toArray, List.set_cons_zero, List.set_cons_succ])
    -- stops at: load (Go.Op.load 3 (Go.Operand.tmp 30)) slot 31
    iterate 1 (refine wpOrd_quiet (v := ?_) rfl (fun _ _ _ => hQp _ _ _ _ _) ?_ ?_; rotate_left; (intro w' hS; obtain ⟨q0, q1, q2, q3, q4, q5⟩ := hd.out _ hS.1; (first | (go_simp; done) | (go_simp; with_reducible rfl))); simp only [Act.put, List.setIfInBounds_toArray, List.set_cons_zero, List.set_cons_succ])
    iterate 1 (refine wpOrd_quiet (v := ?_) rfl (fun _ _ _ => hQp _ _ _ _ _) ?_ ?_; rotate_left; (intro w' hS; (first | (go_simp; done) | (go_simp; with_reducible rfl))); simp only [Act.put, List.setIfInBounds_toArray, List.set_cons_zero, List.set_cons_succ])
    refine wpOrd_nil (hQn _ _ ?_); clear hQn hQp QR
    show Code.wp _ _ _ _ _
    -- stops at: cond
    have d2 : decide (r2 < r1) = false := decide_eq_false (by have := hr1.out; have := hr2.out; omega)
    obtain ⟨mn, hmn⟩ : ∃ n, Hid (2 * Rw.meldN kf a b = n) := ⟨_, show _ = _ from rfl⟩
    obtain ⟨pn, hpn⟩ : ∃ n, Hid (2 * Rw.putN kf (Tr.link kf f g) (Rw.meld kf a b) = n) := ⟨_, show _ = _ from rfl⟩
    obtain ⟨r1n, hr1n⟩ : ∃ n, Hid (2 + mn = n) := ⟨_, show _ = _ from rfl⟩
    obtain ⟨r2n, hr2n⟩ : ∃ n, Hid (r1n + pn = n) := ⟨_, show _ = _ from rfl⟩
    have hbound : mn + pn < 9000000 := by
      have h5 := Rw.meld_length kf a b
      have h6 := Rw.put_length kf (Tr.link kf f g) (Rw.meld kf a b)
      have h7 := Rw.length_le a
      have h8 := Rw.length_le b
      have := hsz.out
      have := hmn.out
      have := hpn.out
      omega
    have e8 : IntKind.i64.wrap (2 + (mn : Int)) = (r1n : Int) := by have := hr1n.out; rw [IntWalk.i64_in _ (by omega)]; omega
    have e9 : IntKind.i64.wrap ((r1n : Int) + (pn : Int)) = (r2n : Int) := by have := hr1n.out; have := hr2n.out; rw [IntWalk.i64_in _ (by omega)]; omega
    refine wp_cond_false (rfl) ?_
    refine wp_skip ?_
    show Code.wp _ _ _ _ _
    refine wp_seq ?_
    refine wp_seq ?_
    repeat (first | simp only [List.nil_append] at h1 | simp only [List.cons_append] at h1 | simp only [List.set_cons_zero] at h1 | simp only [List.set_cons_succ] at h1 | simp only [List.eraseIdx_zero] at h1 | simp only [List.tail_cons] at h1 | simp only [List.eraseIdx_cons_zero] at h1 | simp only [List.eraseIdx_cons_succ] at h1 | simp only [List.setIfInBounds_toArray] at h1)
    refine h1.region [] [(0, true), (1, true), (2, true), (3, true), (4, true), (5, true), (6, true), (7, true), (8, true)] (by kernel_rfl) (by kernel_rfl) (fun w2 h2 => ?_)
    refine wpOrd_hide (fun _ _ d _ _ h => by cases d <;> exact h) (fun QR hQn hQp => ?_)
    simp only [ordOps, List.map_cons, List.map_nil, List.getD_cons_zero, List.getD_cons_succ]
    iterate 3 (refine wpOrd_quiet (v := ?_) rfl (fun _ _ _ => hQp _ _ _ _ _) ?_ ?_; rotate_left; (intro w' hS; (first | (go_simp; done) | (go_simp; with_reducible rfl))); simp only [Act.put, List.setIfInBounds_toArray, List.set_cons_zero, List.set_cons_succ])
    -- stops at: load (Go.Op.load 3 (Go.Operand.tmp 48)) slot 49
    iterate 1 (refine wpOrd_quiet (v := ?_) rfl (fun _ _ _ => hQp _ _ _ _ _) ?_ ?_; rotate_left; (intro w' hS; obtain ⟨q0, q1, q2, q3, q4, q5⟩ := hd.out _ hS.1; (first | (go_simp; done) | (go_simp; with_reducible rfl))); simp only [Act.put, List.setIfInBounds_toArray, List.set_cons_zero, List.set_cons_succ])
    iterate 3 (refine wpOrd_quiet (v := ?_) rfl (fun _ _ _ => hQp _ _ _ _ _) ?_ ?_; rotate_left; (intro w' hS; (first | (go_simp; done) | (go_simp; with_reducible rfl))); simp only [Act.put, List.setIfInBounds_toArray, List.set_cons_zero, List.set_cons_succ])
    -- stops at: load (Go.Op.load 3 (Go.Operand.tmp 52)) slot 53
    iterate 1 (refine wpOrd_quiet (v := ?_) rfl (fun _ _ _ => hQp _ _ _ _ _) ?_ ?_; rotate_left; (intro w' hS; obtain ⟨q0, q1, q2, q3, q4, q5⟩ := hc.out _ hS.1; (first | (go_simp; done) | (go_simp; with_reducible rfl))); simp only [Act.put, List.setIfInBounds_toArray, List.set_cons_zero, List.set_cons_succ])
    iterate 1 (refine wpOrd_quiet (v := ?_) rfl (fun _ _ _ => hQp _ _ _ _ _) ?_ ?_; rotate_left; (intro w' hS; (first | (go_simp; done) | (go_simp; with_reducible rfl))); simp only [Act.put, List.setIfInBounds_toArray, List.set_cons_zero, List.set_cons_succ])
    refine wpOrd_nil (hQn _ _ ?_); clear hQn hQp QR
    show Code.wp _ _ _ _ _
    -- stops at: cond
    refine wp_cond_false (rfl) ?_
    refine wp_skip ?_
    show Code.wp _ _ _ _ _
    refine wp_seq ?_
    repeat (first | simp only [List.nil_append] at h2 | simp only [List.cons_append] at h2 | simp only [List.set_cons_zero] at h2 | simp only [List.set_cons_succ] at h2 | simp only [List.eraseIdx_zero] at h2 | simp only [List.tail_cons] at h2 | simp only [List.eraseIdx_cons_zero] at h2 | simp only [List.eraseIdx_cons_succ] at h2 | simp only [List.setIfInBounds_toArray] at h2)
    refine h2.regionT [] (.one 0 true (.one 1 true (.one 2 true (.one 3 true (.one 4 true (.one 5 true (.two (.one 6 false (.one 7 true (.one 8 true (.one 9 true (.one 10 false (.one 11 false (.one 12 true .nil))))))) (.one 10 false (.one 6 false (.one 7 true (.one 8 true (.one 9 true (.one 11 false (.one 12 true .nil)))))))))))))) (by as_aux_lemma => kernel_rfl) (by as_aux_lemma => kernel_rfl) (fun w3 h3 => ?_)
    refine wpT_hide (fun _ _ d _ _ h => by cases d <;> exact h) (fun QR hQn hQp => ?_)
    dsimp only [OT.ops, List.getD_cons_zero, List.getD_cons_succ]
    iterate 2 (refine wpT_quiet (v := ?_) rfl (fun _ _ _ => hQp _ _ _ _ _) ?_ ?_; rotate_left; (intro w' hS; (first | (go_simp; done) | (go_simp; with_reducible rfl))); simp only [Act.put, List.setIfInBounds_toArray])
    -- stops at: load (Go.Op.load 103 (Go.Operand.tmp 70)) slot 71
    iterate 1 (refine wpT_quiet (v := ?_) rfl (fun _ _ _ => hQp _ _ _ _ _) ?_ ?_; rotate_left; (intro w' hS; obtain ⟨q0, q1, q2, q3, q4, q5⟩ := hc.out _ hS.1; (first | (go_simp; done) | (go_simp; with_reducible rfl))); simp only [Act.put])
    iterate 2 (refine wpT_quiet (v := ?_) rfl (fun _ _ _ => hQp _ _ _ _ _) ?_ ?_; rotate_left; (intro w' hS; (first | (go_simp; done) | (go_simp; with_reducible rfl))); simp only [Act.put])
    -- stops at: load (Go.Op.load 103 (Go.Operand.tmp 73)) slot 74
    iterate 1 (refine wpT_quiet (v := ?_) rfl (fun _ _ _ => hQp _ _ _ _ _) ?_ ?_; rotate_left; (intro w' hS; obtain ⟨q0, q1, q2, q3, q4, q5⟩ := hd.out _ hS.1; (first | (go_simp; done) | (go_simp; with_reducible rfl))); simp only [Act.put])
    refine wpT_two ?_ ?_
    -- stops at: fork 
    · skip
      as_aux_lemma =>
      -- stops at: eff:call (Go.Op.call {'callee': (Go.Callee.value (Go.Operand.func 80)), 'args': [(Go.Operand.tmp 71), (Go.Operand.tmp 74)], 'argTypes': [103, 103]}) slot 75
      refine wpT_effQ rfl (fun K Q' hK => ?_); go_simp
      refine (rlink_ok H _ _ _ f g h3.fits (by have := hsz.out; omega) hf1 hg1).mono ?_
      rintro e wL ⟨rL, H1, rfl, hpL, hL⟩
      have hL' := hL
      obtain ⟨aR, cR, aS, cS, r3, z3, rfl, hr3, hz3, hbL, hkL⟩ := hL.form
      have h4 := h3.call0 hpL
      refine hK _ _ (h4.sat' hpL.le [] (by kernel_rfl)) ?_; clear hK K; try clear Q'
      iterate 3 (refine wpT_quiet (v := ?_) rfl (fun _ _ _ => hQp _ _ _ _ _) ?_ ?_; rotate_left; (intro w' hS; (first | (go_simp; done) | (go_simp; with_reducible rfl))); simp only [Act.put, List.setIfInBounds_toArray])
      refine wpT_effQ rfl (fun K Q' hK => ?_); go_simp
      refine h4.k_alloc (fun w5 h5 => ?_)
      refine hK _ _ (h5.sat' hpL.le [] (by kernel_rfl)) ?_; clear hK K; try clear Q'
      have c_0 := h5.cell 0 rfl 0 rfl
      have f_0 := h5.free 0 rfl 0
      have c_1 := h5.cell 0 rfl 1 rfl
      have f_1 := h5.free 0 rfl 1
      have c_2 := h5.cell 0 rfl 2 rfl
      have f_2 := h5.free 0 rfl 2
      have c_3 := h5.cell 0 rfl 3 rfl
      have f_3 := h5.free 0 rfl 3
      have c_4 := h5.cell 0 rfl 4 rfl
      have f_4 := h5.free 0 rfl 4
      have c_5 := h5.cell 0 rfl 5 rfl
      have f_5 := h5.free 0 rfl 5
      refine wpT_effQ rfl (fun K Q' hK => ?_); go_simp
      clear c_0 f_0 c_1 f_1 c_2 f_2 c_3 f_3 c_4 f_4 c_5 f_5
      refine (((((h5.set (i := 0) rfl 0 _).set (i := 0) rfl 1 _).set (i := 0) rfl 2 _).set (i := 0) rfl 3 _).set (i := 0) rfl 4 _).k_set 0 rfl (fun w6 h6 => ?_)
      refine hK _ _ (h6.sat' hpL.le [] (by kernel_rfl)) ?_; clear hK K; try clear Q'
      iterate 1 (refine wpT_quiet (v := ?_) rfl (fun _ _ _ => hQp _ _ _ _ _) ?_ ?_; rotate_left; (intro w' hS; (first | (go_simp; done) | (go_simp; with_reducible rfl))); simp only [Act.put, List.setIfInBounds_toArray])
      refine wpT_nil (hQn _ _ ?_); clear hQn hQp QR
      show Code.wp _ _ _ _ _
      refine wp_seq ?_
      repeat (first | simp only [List.nil_append] at h6 | simp only [List.cons_append] at h6 | simp only [List.set_cons_zero] at h6 | simp only [List.set_cons_succ] at h6 | simp only [List.eraseIdx_zero] at h6 | simp only [List.tail_cons] at h6 | simp only [List.eraseIdx_cons_zero] at h6 | simp only [List.eraseIdx_cons_succ] at h6 | simp only [List.setIfInBounds_toArray] at h6)
      refine h6.region [] [(0, true), (1, true), (2, true), (3, true), (4, false), (5, true), (6, true), (7, true), (8, true), (9, true)] (by kernel_rfl) (by kernel_rfl) (fun w7 h7 => ?_)
      refine wpOrd_hide (fun _ _ d _ _ h => by cases d <;> exact h) (fun QR hQn hQp => ?_)
      simp only [ordOps, List.map_cons, List.map_nil, List.getD_cons_zero, List.getD_cons_succ]
      iterate 4 (refine wpOrd_quiet (v := ?_) rfl (fun _ _ _ => hQp _ _ _ _ _) ?_ ?_; rotate_left; (intro w' hS; (first | (go_simp; done) | (go_simp; with_reducible rfl))); simp only [Act.put, List.setIfInBounds_toArray, List.set_cons_zero, List.set_cons_succ])
      -- stops at: eff:call (Go.Op.call {'callee': (Go.Callee.value (Go.Operand.func 58)), 'args': [(Go.Operand.tmp 80), (Go.Operand.tmp 82)], 'argTypes': [33, 33]}) slot 83
      refine wpOrd_effQ rfl (fun K Q' hK => ?_); go_simp
      refine (ih H1 _ vS vT h7.fits (by have := hsz.out; omega) (hrest.mono hpL.le) (hresg.mono hpL.le)).mono ?_
      rintro e wM ⟨q3, H2, rfl, hpM, hM⟩
      rw [hmn.out]
      obtain ⟨aQ, cQ, rfl, _, _⟩ := hM.form
      have h8 := h7.call0 hpM
      refine hK _ _ (h8.sat' hpM.le [] (by kernel_rfl)) ?_; clear hK K; try clear Q'
      iterate 5 (refine wpOrd_quiet (v := ?_) rfl (fun _ _ _ => hQp _ _ _ _ _) ?_ ?_; rotate_left; (intro w' hS; (first | (go_simp; done) | (go_simp; with_reducible rfl))); simp only [Act.put, List.setIfInBounds_toArray, List.set_cons_zero, List.set_cons_succ])
      refine wpOrd_nil (hQn _ _ ?_); clear hQn hQp QR
      show Code.wp _ _ _ _ _
      refine wp_seq ?_
      repeat (first | simp only [List.nil_append] at h8 | simp only [List.cons_append] at h8 | simp only [List.set_cons_zero] at h8 | simp only [List.set_cons_succ] at h8 | simp only [List.eraseIdx_zero] at h8 | simp only [List.tail_cons] at h8 | simp only [List.eraseIdx_cons_zero] at h8 | simp only [List.eraseIdx_cons_succ] at h8 | simp only [List.setIfInBounds_toArray] at h8)
      refine wp_region_lit ?_
      have c_0_0 := h8.cell 0 rfl 0 rfl
      have c_0_1 := h8.cell 0 rfl 1 rfl
      have c_0_2 := h8.cell 0 rfl 2 rfl
      have c_0_3 := h8.cell 0 rfl 3 rfl
      have c_0_4 := h8.cell 0 rfl 4 rfl
      have c_0_5 := h8.cell 0 rfl 5 rfl
      iterate 2 (refine wpList_plainQ rfl (fun K Q' hK => ?_); go_simp; refine hK _ _ ?_; clear hK K; try clear Q')
      clear c_0_0 c_0_1 c_0_2 c_0_3 c_0_4 c_0_5
      -- stops at: eff:call (Go.Op.call {'callee': (Go.Callee.value (Go.Operand.func 83)), 'args': [(Go.Operand.tmp 87), (Go.Operand.tmp 88)], 'argTypes': [103, 33]}) slot 89
      refine wpList_plainQ rfl (fun K Q' hK => ?_); go_simp
      refine (rput_ok _ (Tr.link kf f g) H2 _ _ _ h8.fits (by rw [Tr.link_size, Rw.meld_size]; have := hsz.out; omega) (hL'.mono hpM.le) hM).mono ?_
      rintro e wP ⟨rP, H3, rfl, hpP, hP⟩
      rw [hpn.out]
      obtain ⟨aP, cP, rfl, _, _⟩ := hP.form
      have h9 := h8.call0 hpP
      refine hK _ _ ?_; clear hK K; try clear Q'
      iterate 5 (refine wpList_plainQ rfl (fun K Q' hK => ?_); go_simp; refine hK _ _ ?_; clear hK K; try clear Q')
      refine wpList_nil ?_
      show Code.wp _ _ _ _ _
      refine wp_seq ?_
      repeat (first | simp only [List.nil_append] at h9 | simp only [List.cons_append] at h9 | simp only [List.set_cons_zero] at h9 | simp only [List.set_cons_succ] at h9 | simp only [List.eraseIdx_zero] at h9 | simp only [List.tail_cons] at h9 | simp only [List.eraseIdx_cons_zero] at h9 | simp only [List.eraseIdx_cons_succ] at h9 | simp only [List.setIfInBounds_toArray] at h9)
      refine wp_region_lit ?_
      iterate 8 (refine wpList_plainQ rfl (fun K Q' hK => ?_); go_simp; refine hK _ _ ?_; clear hK K; try clear Q')
      refine wpList_nil ?_
      show Code.wp _ _ _ _ _
      -- stops at: ret
      refine wp_ret ?_
      go_ret2
      refine ⟨_, H3, ?_, h9.post, by rw [Rw.meld_eq kf a b h]; exact hP⟩
      rw [show 2 * Rw.meldN kf (f :: a) (g :: b) = r2n by rw [Rw.meldN_eq kf a b h]; have h5 := hpn.out; have h6 := hmn.out; have h7 := hr1n.out; have h8 := hr2n.out; omega]
      rfl
    · skip
      as_aux_lemma =>
      refine wpT_effQ rfl (fun K Q' hK => ?_); go_simp
      refine h3.k_alloc (fun w10 h10 => ?_)
      refine hK _ _ (h10.sat' (GH.le_refl _) [] (by kernel_rfl)) ?_; clear hK K; try clear Q'
      -- stops at: eff:call (Go.Op.call {'callee': (Go.Callee.value (Go.Operand.func 80)), 'args': [(Go.Operand.tmp 71), (Go.Operand.tmp 74)], 'argTypes': [103, 103]}) slot 75
      refine wpT_effQ rfl (fun K Q' hK => ?_); go_simp
      refine (rlink_ok H _ _ _ f g h10.fits (by have := hsz.out; omega) hf1 hg1).mono ?_
      rintro e wL ⟨rL, H1, rfl, hpL, hL⟩
      have hL' := hL
      obtain ⟨aR, cR, aS, cS, r3, z3, rfl, hr3, hz3, hbL, hkL⟩ := hL.form
      have h11 := h10.call0 hpL
      refine hK _ _ (h11.sat' hpL.le [] (by kernel_rfl)) ?_; clear hK K; try clear Q'
      iterate 3 (refine wpT_quiet (v := ?_) rfl (fun _ _ _ => hQp _ _ _ _ _) ?_ ?_; rotate_left; (intro w' hS; (first | (go_simp; done) | (go_simp; with_reducible rfl))); simp only [Act.put, List.setIfInBounds_toArray])
      have c_0 := h11.cell 0 rfl 0 rfl
      have f_0 := h11.free 0 rfl 0
      have c_1 := h11.cell 0 rfl 1 rfl
      have f_1 := h11.free 0 rfl 1
      have c_2 := h11.cell 0 rfl 2 rfl
      have f_2 := h11.free 0 rfl 2
      have c_3 := h11.cell 0 rfl 3 rfl
      have f_3 := h11.free 0 rfl 3
      have c_4 := h11.cell 0 rfl 4 rfl
      have f_4 := h11.free 0 rfl 4
      have c_5 := h11.cell 0 rfl 5 rfl
      have f_5 := h11.free 0 rfl 5
      refine wpT_effQ rfl (fun K Q' hK => ?_); go_simp
      clear c_0 f_0 c_1 f_1 c_2 f_2 c_3 f_3 c_4 f_4 c_5 f_5
      refine (((((h11.set (i := 0) rfl 0 _).set (i := 0) rfl 1 _).set (i := 0) rfl 2 _).set (i := 0) rfl 3 _).set (i := 0) rfl 4 _).k_set 0 rfl (fun w12 h12 => ?_)
      refine hK _ _ (h12.sat' hpL.le [] (by kernel_rfl)) ?_; clear hK K; try clear Q'
      iterate 1 (refine wpT_quiet (v := ?_) rfl (fun _ _ _ => hQp _ _ _ _ _) ?_ ?_; rotate_left; (intro w' hS; (first | (go_simp; done) | (go_simp; with_reducible rfl))); simp only [Act.put, List.setIfInBounds_toArray])
      refine wpT_nil (hQn _ _ ?_); clear hQn hQp QR
      show Code.wp _ _ _ _ _
      refine wp_seq ?_
      repeat (first | simp only [List.nil_append] at h12 | simp only [List.cons_append] at h12 | simp only [List.set_cons_zero] at h12 | simp only [List.set_cons_succ] at h12 | simp only [List.eraseIdx_zero] at h12 | simp only [List.tail_cons] at h12 | simp only [List.eraseIdx_cons_zero] at h12 | simp only [List.eraseIdx_cons_succ] at h12 | simp only [List.setIfInBounds_toArray] at h12)
      refine h12.region [] [(0, true), (1, true), (2, true), (3, true), (4, false), (5, true), (6, true), (7, true), (8, true), (9, true)] (by kernel_rfl) (by kernel_rfl) (fun w13 h13 => ?_)
      refine wpOrd_hide (fun _ _ d _ _ h => by cases d <;> exact h) (fun QR hQn hQp => ?_)
      simp only [ordOps, List.map_cons, List.map_nil, List.getD_cons_zero, List.getD_cons_succ]
      iterate 4 (refine wpOrd_quiet (v := ?_) rfl (fun _ _ _ => hQp _ _ _ _ _) ?_ ?_; rotate_left; (intro w' hS; (first | (go_simp; done) | (go_simp; with_reducible rfl))); simp only [Act.put, List.setIfInBounds_toArray, List.set_cons_zero, List.set_cons_succ])
      -- stops at: eff:call (Go.Op.call {'callee': (Go.Callee.value (Go.Operand.func 58)), 'args': [(Go.Operand.tmp 80), (Go.Operand.tmp 82)], 'argTypes': [33, 33]}) slot 83
      refine wpOrd_effQ rfl (fun K Q' hK => ?_); go_simp
      refine (ih H1 _ vS vT h13.fits (by have := hsz.out; omega) (hrest.mono hpL.le) (hresg.mono hpL.le)).mono ?_
      rintro e wM ⟨q3, H2, rfl, hpM, hM⟩
      rw [hmn.out]
      obtain ⟨aQ, cQ, rfl, _, _⟩ := hM.form
      have h14 := h13.call0 hpM
      refine hK _ _ (h14.sat' hpM.le [] (by kernel_rfl)) ?_; clear hK K; try clear Q'
      iterate 5 (refine wpOrd_quiet (v := ?_) rfl (fun _ _ _ => hQp _ _ _ _ _) ?_ ?_; rotate_left; (intro w' hS; (first | (go_simp; done) | (go_simp; with_reducible rfl))); simp only [Act.put, List.setIfInBounds_toArray, List.set_cons_zero, List.set_cons_succ])
      refine wpOrd_nil (hQn _ _ ?_); clear hQn hQp QR
      show Code.wp _ _ _ _ _
      refine wp_seq ?_
      repeat (first | simp only [List.nil_append] at h14 | simp only [List.cons_append] at h14 | simp only [List.set_cons_zero] at h14 | simp only [List.set_cons_succ] at h14 | simp only [List.eraseIdx_zero] at h14 | simp only [List.tail_cons] at h14 | simp only [List.eraseIdx_cons_zero] at h14 | simp only [List.eraseIdx_cons_succ] at h14 | simp only [List.setIfInBounds_toArray] at h14)
      refine wp_region_lit ?_
      have c_0_0 := h14.cell 0 rfl 0 rfl
      have c_0_1 := h14.cell 0 rfl 1 rfl
      have c_0_2 := h14.cell 0 rfl 2 rfl
      have c_0_3 := h14.cell 0 rfl 3 rfl
      have c_0_4 := h14.cell 0 rfl 4 rfl
      have c_0_5 := h14.cell 0 rfl 5 rfl
      iterate 2 (refine wpList_plainQ rfl (fun K Q' hK => ?_); go_simp; refine hK _ _ ?_; clear hK K; try clear Q')
      clear c_0_0 c_0_1 c_0_2 c_0_3 c_0_4 c_0_5
      -- stops at: eff:call (Go.Op.call {'callee': (Go.Callee.value (Go.Operand.func 83)), 'args': [(Go.Operand.tmp 87), (Go.Operand.tmp 88)], 'argTypes': [103, 33]}) slot 89
      refine wpList_plainQ rfl (fun K Q' hK => ?_); go_simp
      refine (rput_ok _ (Tr.link kf f g) H2 _ _ _ h14.fits (by rw [Tr.link_size, Rw.meld_size]; have := hsz.out; omega) (hL'.mono hpM.le) hM).mono ?_
      rintro e wP ⟨rP, H3, rfl, hpP, hP⟩
      rw [hpn.out]
      obtain ⟨aP, cP, rfl, _, _⟩ := hP.form
      have h15 := h14.call0 hpP
      refine hK _ _ ?_; clear hK K; try clear Q'
      iterate 5 (refine wpList_plainQ rfl (fun K Q' hK => ?_); go_simp; refine hK _ _ ?_; clear hK K; try clear Q')
      refine wpList_nil ?_
      show Code.wp _ _ _ _ _
      refine wp_seq ?_
      repeat (first | simp only [List.nil_append] at h15 | simp only [List.cons_append] at h15 | simp only [List.set_cons_zero] at h15 | simp only [List.set_cons_succ] at h15 | simp only [List.eraseIdx_zero] at h15 | simp only [List.tail_cons] at h15 | simp only [List.eraseIdx_cons_zero] at h15 | simp only [List.eraseIdx_cons_succ] at h15 | simp only [List.setIfInBounds_toArray] at h15)
      refine wp_region_lit ?_
      iterate 8 (refine wpList_plainQ rfl (fun K Q' hK => ?_); go_simp; refine hK _ _ ?_; clear hK K; try clear Q')
      refine wpList_nil ?_
      show Code.wp _ _ _ _ _
      -- stops at: ret
      refine wp_ret ?_
      go_ret2
      refine ⟨_, H3, ?_, h15.post, by rw [Rw.meld_eq kf a b h]; exact hP⟩
      rw [show 2 * Rw.meldN kf (f :: a) (g :: b) = r2n by rw [Rw.meldN_eq kf a b h]; have h5 := hpn.out; have h6 := hmn.out; have h7 := hr1n.out; have h8 := hr2n.out; omega]
      rfl
end Go.Proofs.YteigmfkkeofcaaaGreatDoor
