/-
The document's rows of trees of heaps: a tree put ahead, rows melded, levelled.
-/
import Derived.Test.YtkhjcmbppcimnaaGreatDoorTbTree
import Derived.Test.YtkhjcmbppcimnaaGreatDoorMdSkew
import Derived.Test.YtkhjcmbppcimnaaGreatDoorMfBits
import Derived.Test.YtkhjcmbppcimnaaGreatDoorGcOrd2
import Derived.Test.YtkhjcmbppcimnaaGreatDoorGeOrdR
namespace Go.Proofs.YtkhjcmbppcimnaaGreatDoor
open Go Go.RowKit
set_option linter.unusedVariables false

theorem RsW.cons {H : GH} {v : Value} {t : Tr Vp} {l : List (Tr Vp)} (h : RsW H v (t :: l)) : ∃ (b off cap nn : Nat) (vS : Value), v = .slice (some ⟨b, off, none⟩) nn cap ∧ Hid (nn = l.length + 1) ∧ (1 : Int) ≤ (nn : Int) ∧ 0 < nn ∧ nn ≤ cap ∧
    (Value.slice (if cap = 1 then some ⟨b, off, none⟩ else Option.map (fun x : Addr => x.add 4) (some ⟨b, off, none⟩)) (nn - 1) (cap - 1)) = vS ∧ RsW H vS l := by
  obtain ⟨cs, h1, h2⟩ := h
  obtain ⟨b, off, cap, rfl, hc, hm⟩ := h1.ne_nil (by simp)
  have hf := h1.from 1 (by simp)
  obtain ⟨rv, bv, kv, kcs, rest, r, rfl, h3, h4, h5, h6, h7, h8⟩ := h2
  simp only [List.length_cons, Nat.add_sub_cancel, Nat.one_mul] at hf
  refine ⟨b, off, cap, l.length + 1, _, rfl, rfl, by omega, by omega, hc, rfl, rest, ?_, h8⟩
  exact hf
/-- The first tree's cells. -/
theorem RsW.head {H : GH} {b off cap n : Nat} {t : Tr Vp} {l : List (Tr Vp)} (h : RsW H (.slice (some ⟨b, off, none⟩) n cap) (t :: l)) : ∃ (bR oR cR : Nat) (aB : Option Addr) (cB : Nat) (aK : Option Addr) (cK r : Nat), 1 ≤ cR ∧
    Hid (∀ W, Fits W H → W.cell? ⟨b, off, none⟩ = some (.int .i64 (r : Int)) ∧ W.cell? ⟨b, off + 1, none⟩ = some (.slice (some ⟨bR, oR, none⟩) 1 cR) ∧ W.cell? ⟨b, off + 2, none⟩ = some (.slice aB t.b.length cB) ∧ W.cell? ⟨b, off + 3, none⟩ = some (.slice aK t.k.toL.length cK)) ∧
    Hid (r = t.rank) ∧ TrW H (tW r (.slice (some ⟨bR, oR, none⟩) 1 cR) (.slice aB t.b.length cB) (.slice aK t.k.toL.length cK)) t ∧ HsV H (.slice (some ⟨bR, oR, none⟩) 1 cR) [t.x] ∧ HsV H (.slice aB t.b.length cB) t.b ∧ RsW H (.slice aK t.k.toL.length cK) t.k.toL := by
  obtain ⟨bR, oR, cR, aB, cB, aK, cK, r, hcR, h1, h2, h3, h4, h5⟩ := h.at 0 (t := t) rfl
  exact ⟨bR, oR, cR, aB, cB, aK, cK, r, hcR, fun W hF => by simpa using h1.out W hF, h2, ⟨_, _, _, r, rfl, h2, h3, h4, h5⟩, h3, h4, h5⟩
theorem Rw.put_pos (t : Tr Vp) (l : List (Tr Vp)) : 0 < (Rw.put kw t l).length := by
  induction l generalizing t with
  | nil => simp [Rw.put]
  | cons f l ih =>
    by_cases h : t.rank < f.rank
    · rw [Rw.put_lt kw l h]; simp
    · rw [Rw.put_ge kw l h]; exact ih _

/-! A tree, in a row of one, and others behind it -/
set_option maxRecDepth 100000 in
set_option maxHeartbeats 4000000 in
theorem wput_ok : ∀ (l : List (Tr Vp)) (t : Tr Vp) (H : GH) (w : World) (u v : Value), Fits w H → t.size + Rw.size l < 1000000 → TrW H u t → RsW H v l →
    Calls Tryz.prog 84 #[u, v] w fun e w' => ∃ r H', e = .returned (.tuple #[r, .int .i64 (2 * Rw.putN kw t l : Nat)]) ∧ Post w H none w' H' 0 0 ∧ RsW H' r (Rw.put kw t l) := by
  intro l
  induction l with
  | nil =>
    intro t H w u v hf hn hu hv
    as_aux_lemma =>
    have hpre : Pre w H none 0 0 := Pre.none hf 0 0
    obtain ⟨bR, oR, cR, aB, cB, aK, cK, r1, rfl, hcR, hr1, hx1, hb1, hk1⟩ := hu.form
    have hv' := hv
    obtain ⟨a0, c0, rfl, _, _⟩ := hv.form
    go_enter Tryz.func84, Tryz.ntmps84
    have h0 := St.start hpre
    refine wp_seq ?_
    repeat (first | simp only [List.nil_append] at h0 | simp only [List.cons_append] at h0 | simp only [List.set_cons_zero] at h0 | simp only [List.set_cons_succ] at h0 | simp only [List.eraseIdx_zero] at h0 | simp only [List.tail_cons] at h0 | simp only [List.eraseIdx_cons_zero] at h0 | simp only [List.eraseIdx_cons_succ] at h0 | simp only [List.setIfInBounds_toArray] at h0)
    refine wp_region_lit ?_
    refine wpList_plainQ rfl (fun K Q' hK => ?_); go_simp
    refine h0.k_alloc (fun w1 h1 => ?_)
    refine hK _ _ ?_; clear hK K; try clear Q'
    iterate 2 (refine wpList_plainQ rfl (fun K Q' hK => ?_); go_simp; refine hK _ _ ?_; clear hK K; try clear Q')
    refine wpList_nil ?_
    show Code.wp _ _ _ _ _
    refine wp_seq ?_
    refine wp_seq ?_
    repeat (first | simp only [List.nil_append] at h1 | simp only [List.cons_append] at h1 | simp only [List.set_cons_zero] at h1 | simp only [List.set_cons_succ] at h1 | simp only [List.eraseIdx_zero] at h1 | simp only [List.tail_cons] at h1 | simp only [List.eraseIdx_cons_zero] at h1 | simp only [List.eraseIdx_cons_succ] at h1 | simp only [List.setIfInBounds_toArray] at h1)
    refine h1.region [0] [(0, true), (1, true), (2, true), (3, true), (4, true), (5, true), (6, true), (7, true), (8, true), (9, true), (10, true), (11, true)] (by kernel_rfl) (by kernel_rfl) (fun w2 h2 => ?_)
    refine wpOrd_hide (fun _ _ d _ _ h => by cases d <;> exact h) (fun QR hQn hQp => ?_)
    simp only [ordOps, List.map_cons, List.map_nil, List.getD_cons_zero, List.getD_cons_succ]
    iterate 4 (refine wpOrd_quiet (v := ?_) rfl (fun _ _ _ => hQp _ _ _ _ _) ?_ ?_; rotate_left; (intro w' hS; (first | (go_simp; done) | (go_simp; with_reducible rfl))); simp only [Act.put, List.setIfInBounds_toArray, List.set_cons_zero, List.set_cons_succ])
    iterate 5 (first | (refine wpOrd_skip rfl (fun _ _ _ => hQp _ _ _ _ _) ?_; simp only [Act.put, List.setIfInBounds_toArray, List.set_cons_zero, List.set_cons_succ]) | (refine wpOrd_quiet (v := ?_) rfl (fun _ _ _ => hQp _ _ _ _ _) ?_ ?_; rotate_left; (intro w' hS; have c_0_0 := hS.cell 0 rfl 0 rfl; (first | (go_simp; done) | (go_simp; with_reducible rfl))); simp only [Act.put, List.setIfInBounds_toArray, List.set_cons_zero, List.set_cons_succ]))
    -- stops at: load (Go.Op.load 3 (Go.Operand.tmp 17)) slot 18
    refine wpOrd_skip rfl (fun _ _ _ => hQp _ _ _ _ _) ?_; simp only [Act.put, List.setIfInBounds_toArray, List.set_cons_zero, List.set_cons_succ]
    iterate 1 (first | (refine wpOrd_skip rfl (fun _ _ _ => hQp _ _ _ _ _) ?_; simp only [Act.put, List.setIfInBounds_toArray, List.set_cons_zero, List.set_cons_succ]) | (refine wpOrd_quiet (v := ?_) rfl (fun _ _ _ => hQp _ _ _ _ _) ?_ ?_; rotate_left; (intro w' hS; (first | (go_simp; done) | (go_simp; with_reducible rfl))); simp only [Act.put, List.setIfInBounds_toArray, List.set_cons_zero, List.set_cons_succ]))
    iterate 1 (refine wpOrd_quiet (v := ?_) rfl (fun _ _ _ => hQp _ _ _ _ _) ?_ ?_; rotate_left; (intro w' hS; (first | (go_simp; done) | (go_simp; with_reducible rfl))); simp only [Act.put, List.setIfInBounds_toArray, List.set_cons_zero, List.set_cons_succ])
    refine wpOrd_nil (hQn _ _ ?_); clear hQn hQp QR
    show Code.wp _ _ _ _ _
    -- stops at: cond
    refine wp_cond_true (rfl) ?_
    refine wp_seq ?_
    repeat (first | simp only [List.nil_append] at h2 | simp only [List.cons_append] at h2 | simp only [List.set_cons_zero] at h2 | simp only [List.set_cons_succ] at h2 | simp only [List.eraseIdx_zero] at h2 | simp only [List.tail_cons] at h2 | simp only [List.eraseIdx_cons_zero] at h2 | simp only [List.eraseIdx_cons_succ] at h2 | simp only [List.setIfInBounds_toArray] at h2)
    refine wp_region_lit ?_
    have c_0_0 := h2.cell 0 rfl 0 rfl
    have c_0_1 := h2.cell 0 rfl 1 rfl
    have c_0_2 := h2.cell 0 rfl 2 rfl
    have c_0_3 := h2.cell 0 rfl 3 rfl
    iterate 1 (refine wpList_plainQ rfl (fun K Q' hK => ?_); go_simp; refine hK _ _ ?_; clear hK K; try clear Q')
    clear c_0_0 c_0_1 c_0_2 c_0_3
    refine wpList_plainQ rfl (fun K Q' hK => ?_); go_simp
    refine h2.k_alloc (fun w3 h3 => ?_)
    refine hK _ _ ?_; clear hK K; try clear Q'
    iterate 1 (refine wpList_plainQ rfl (fun K Q' hK => ?_); go_simp; refine hK _ _ ?_; clear hK K; try clear Q')
    refine wpList_nil ?_
    show Code.wp _ _ _ _ _
    refine wp_seq ?_
    repeat (first | simp only [List.nil_append] at h3 | simp only [List.cons_append] at h3 | simp only [List.set_cons_zero] at h3 | simp only [List.set_cons_succ] at h3 | simp only [List.eraseIdx_zero] at h3 | simp only [List.tail_cons] at h3 | simp only [List.eraseIdx_cons_zero] at h3 | simp only [List.eraseIdx_cons_succ] at h3 | simp only [List.setIfInBounds_toArray] at h3)
    refine wp_region_lit ?_
    iterate 2 (refine wpList_plainQ rfl (fun K Q' hK => ?_); go_simp; refine hK _ _ ?_; clear hK K; try clear Q')
    -- stops at: eff:Builtin.append (Go.Op.call {'callee': (Go.Callee.builtin Go.Builtin.append), 'args': [(Go.Operand.tmp 23), (Go.Operand.tmp 24)], 'argTypes': [33, 33]}) slot 25
    have hR := h3.rowOf 1 rfl 4 1 rfl (by unfold maxLen; omega)
    refine wpList_plainQ rfl (fun K Q' hK => ?_)
    obtain ⟨cs, hv1, hv2⟩ := hv'
    refine hR.op_append_rep 0 rfl rfl infoTT rfl cs rfl hv1 (TW.one hv2) (by simp) (by unfold maxLen; simp) (fun v1 wB hB => ?_)
    refine hK _ _ ?_; clear hK K; try clear Q'
    obtain ⟨aV, cV, rfl⟩ := hB.row_form 0 rfl
    obtain ⟨H6, h6, rA, leA⟩ := hB.settleRow 0 rfl
    iterate 2 (refine wpList_plainQ rfl (fun K Q' hK => ?_); go_simp; refine hK _ _ ?_; clear hK K; try clear Q')
    refine wpList_nil ?_
    show Code.wp _ _ _ _ _
    -- stops at: ret
    refine wp_ret ?_
    go_ret2
    refine ⟨_, H6, rfl, h6.post, ?_⟩
    show RsW H6 _ (t :: [])
    refine ⟨_, ?_, TW.push hr1 (hx1.mono leA) (hb1.mono leA) (hk1.mono leA) (hv2.mono leA)⟩
    show SliceRep H6 4 _ (_ + 1) _
    rw [Nat.add_comm _ 1]
    exact rA
  | cons f l ih =>
    intro t H w u v hf hn hu hv
    as_aux_lemma =>
    have hpre : Pre w H none 0 0 := Pre.none hf 0 0
    have hu' := hu
    have hv' := hv
    obtain ⟨bR, oR, cR, aB, cB, aK, cK, r1, rfl, hcR, hr1, hx1, hb1, hk1⟩ := hu.form
    obtain ⟨b0, o0, cap0, nn, vS, rfl, hnn, hn1, hn0, hcap0, hvS, hrest⟩ := hv.cons
    obtain ⟨bF, oF, cF, aF, cF2, aG, cG, r2, hcF, hc, hr2, hf2, _, _, _⟩ := hv.head
    have hsz : Hid (t.size + f.size + Rw.size l < 1000000) := by rw [Rw.size_cons] at hn; show _ < _; omega
    have hnb : nn < 1000000 := by have := hnn.out; have := Rw.length_le (f :: l); simp at this; omega
    have d0 : ((nn : Int) == 0) = false := beq_eq_false_iff_ne.2 (by omega)
    simp [Addr.add] at hvS
    by_cases hlt : t.rank < f.rank
    · have d1 : decide (r1 < r2) = true := decide_eq_true (by have := hr1.out; have := hr2.out; omega)
      obtain ⟨fl, hfl⟩ : ∃ fl, Hid (f :: l = fl) := ⟨_, show _ = _ from rfl⟩
      rw [hfl.out] at hv'
      have hll : fl.length < 1000000 := by rw [← hfl.out]; have := hnn.out; simp; omega
      go_enter Tryz.func84, Tryz.ntmps84
      have h0 := St.start hpre
      refine wp_seq ?_
      repeat (first | simp only [List.nil_append] at h0 | simp only [List.cons_append] at h0 | simp only [List.set_cons_zero] at h0 | simp only [List.set_cons_succ] at h0 | simp only [List.eraseIdx_zero] at h0 | simp only [List.tail_cons] at h0 | simp only [List.eraseIdx_cons_zero] at h0 | simp only [List.eraseIdx_cons_succ] at h0 | simp only [List.setIfInBounds_toArray] at h0)
      refine wp_region_lit ?_
      refine wpList_plainQ rfl (fun K Q' hK => ?_); go_simp
      refine h0.k_alloc (fun w1 h1 => ?_)
      refine hK _ _ ?_; clear hK K; try clear Q'
      iterate 2 (refine wpList_plainQ rfl (fun K Q' hK => ?_); go_simp; refine hK _ _ ?_; clear hK K; try clear Q')
      refine wpList_nil ?_
      show Code.wp _ _ _ _ _
      refine wp_seq ?_
      refine wp_seq ?_
      repeat (first | simp only [List.nil_append] at h1 | simp only [List.cons_append] at h1 | simp only [List.set_cons_zero] at h1 | simp only [List.set_cons_succ] at h1 | simp only [List.eraseIdx_zero] at h1 | simp only [List.tail_cons] at h1 | simp only [List.eraseIdx_cons_zero] at h1 | simp only [List.eraseIdx_cons_succ] at h1 | simp only [List.setIfInBounds_toArray] at h1)
      refine h1.region [0] [(0, true), (1, true), (2, true), (3, true), (4, true), (5, true), (6, true), (7, true), (8, true), (9, true), (10, true), (11, true)] (by kernel_rfl) (by kernel_rfl) (fun w2 h2 => ?_)
      refine wpOrd_hide (fun _ _ d _ _ h => by cases d <;> exact h) (fun QR hQn hQp => ?_)
      simp only [ordOps, List.map_cons, List.map_nil, List.getD_cons_zero, List.getD_cons_succ]
      iterate 4 (refine wpOrd_quiet (v := ?_) rfl (fun _ _ _ => hQp _ _ _ _ _) ?_ ?_; rotate_left; (intro w' hS; (first | (go_simp; done) | (go_simp; with_reducible rfl))); simp only [Act.put, List.setIfInBounds_toArray, List.set_cons_zero, List.set_cons_succ])
      iterate 5 (refine wpOrd_quiet (v := ?_) (by kernel_rfl) (fun _ _ _ => hQp _ _ _ _ _) ?_ ?_; rotate_left; (intro w' hS; have c_0_0 := hS.cell 0 rfl 0 rfl; (first | (go_simp; done) | (go_simp; with_reducible rfl))); simp only [Act.put, List.setIfInBounds_toArray, List.set_cons_zero, List.set_cons_succ])
      -- stops at: load (Go.Op.load 3 (Go.Operand.tmp 17)) slot 18
      iterate 1 (refine wpOrd_quiet (v := ?_) (by kernel_rfl) (fun _ _ _ => hQp _ _ _ _ _) ?_ ?_; rotate_left; (intro w' hS; obtain ⟨q0, q1, q2, q3⟩ := hc.out _ hS.1; (first | (go_simp; done) | (go_simp; with_reducible rfl))); simp only [Act.put, List.setIfInBounds_toArray, List.set_cons_zero, List.set_cons_succ])
      iterate 1 (refine wpOrd_quiet (v := ?_) (by kernel_rfl) (fun _ _ _ => hQp _ _ _ _ _) ?_ ?_; rotate_left; (intro w' hS; (first | (go_simp; done) | (go_simp; with_reducible rfl))); simp only [Act.put, List.setIfInBounds_toArray, List.set_cons_zero, List.set_cons_succ])
      iterate 1 (refine wpOrd_quiet (v := ?_) rfl (fun _ _ _ => hQp _ _ _ _ _) ?_ ?_; rotate_left; (intro w' hS; (first | (go_simp; done) | (go_simp; with_reducible rfl))); simp only [Act.put, List.setIfInBounds_toArray, List.set_cons_zero, List.set_cons_succ])
      refine wpOrd_nil (hQn _ _ ?_); clear hQn hQp QR
      show Code.wp _ _ _ _ _
      -- stops at: cond
      refine wp_cond_true (rfl) ?_
      refine wp_seq ?_
      repeat (first | simp only [List.nil_append] at h2 | simp only [List.cons_append] at h2 | simp only [List.set_cons_zero] at h2 | simp only [List.set_cons_succ] at h2 | simp only [List.eraseIdx_zero] at h2 | simp only [List.tail_cons] at h2 | simp only [List.eraseIdx_cons_zero] at h2 | simp only [List.eraseIdx_cons_succ] at h2 | simp only [List.setIfInBounds_toArray] at h2)
      refine wp_region_lit ?_
      have c_0_0 := h2.cell 0 rfl 0 rfl
      have c_0_1 := h2.cell 0 rfl 1 rfl
      have c_0_2 := h2.cell 0 rfl 2 rfl
      have c_0_3 := h2.cell 0 rfl 3 rfl
      iterate 1 (refine wpList_plainQ rfl (fun K Q' hK => ?_); go_simp; refine hK _ _ ?_; clear hK K; try clear Q')
      clear c_0_0 c_0_1 c_0_2 c_0_3
      refine wpList_plainQ rfl (fun K Q' hK => ?_); go_simp
      refine h2.k_alloc (fun w3 h3 => ?_)
      refine hK _ _ ?_; clear hK K; try clear Q'
      iterate 1 (refine wpList_plainQ rfl (fun K Q' hK => ?_); go_simp; refine hK _ _ ?_; clear hK K; try clear Q')
      refine wpList_nil ?_
      show Code.wp _ _ _ _ _
      refine wp_seq ?_
      repeat (first | simp only [List.nil_append] at h3 | simp only [List.cons_append] at h3 | simp only [List.set_cons_zero] at h3 | simp only [List.set_cons_succ] at h3 | simp only [List.eraseIdx_zero] at h3 | simp only [List.tail_cons] at h3 | simp only [List.eraseIdx_cons_zero] at h3 | simp only [List.eraseIdx_cons_succ] at h3 | simp only [List.setIfInBounds_toArray] at h3)
      refine wp_region_lit ?_
      iterate 2 (refine wpList_plainQ rfl (fun K Q' hK => ?_); go_simp; refine hK _ _ ?_; clear hK K; try clear Q')
      -- stops at: eff:Builtin.append (Go.Op.call {'callee': (Go.Callee.builtin Go.Builtin.append), 'args': [(Go.Operand.tmp 23), (Go.Operand.tmp 24)], 'argTypes': [33, 33]}) slot 25
      have hR := h3.rowOf 1 rfl 4 1 rfl (by unfold maxLen; omega)
      refine wpList_plainQ rfl (fun K Q' hK => ?_)
      obtain ⟨cs, hv1, hv2⟩ := hv'
      refine hR.op_append_rep 0 rfl rfl infoTT rfl cs rfl hv1 (TW.one hv2) (by omega) (by unfold maxLen; omega) (fun v1 wB hB => ?_)
      refine hK _ _ ?_; clear hK K; try clear Q'
      obtain ⟨aV, cV, rfl⟩ := hB.row_form 0 rfl
      obtain ⟨H6, h6, rA, leA⟩ := hB.settleRow 0 rfl
      iterate 2 (refine wpList_plainQ rfl (fun K Q' hK => ?_); go_simp; refine hK _ _ ?_; clear hK K; try clear Q')
      refine wpList_nil ?_
      show Code.wp _ _ _ _ _
      -- stops at: ret
      refine wp_ret ?_
      go_ret2
      refine ⟨_, H6, by rw [Rw.putN_lt kw l hlt]; rfl, h6.post, ?_⟩
      rw [Rw.put_lt kw l hlt, hfl.out]
      refine ⟨_, ?_, TW.push hr1 (hx1.mono leA) (hb1.mono leA) (hk1.mono leA) (hv2.mono leA)⟩
      show SliceRep H6 4 _ (_ + 1) _
      rw [Nat.add_comm _ 1]
      exact rA
    · have d1 : decide (r1 < r2) = false := decide_eq_false (by have := hr1.out; have := hr2.out; omega)
      obtain ⟨pn, hpn⟩ : ∃ n, Hid (2 * Rw.putN kw (Tr.link kw t f) l = n) := ⟨_, show _ = _ from rfl⟩
      obtain ⟨rr, hrr⟩ : ∃ n, Hid (pn + 2 = n) := ⟨_, show _ = _ from rfl⟩
      have hpl : pn ≤ 2 * l.length := by have h5 := Rw.put_length kw (Tr.link kw t f) l; have h7 := hpn.out; have h6 := Rw.put_pos (Tr.link kw t f) l; omega
      have hll := Rw.length_le l
      have e8 : IntKind.i64.wrap ((pn : Int) + 2) = (rr : Int) := by have := hsz.out; have := hrr.out; rw [IntWalk.i64_in _ (by omega)]; omega
      go_enter Tryz.func84, Tryz.ntmps84
      have h0 := St.start hpre
      refine wp_seq ?_
      repeat (first | simp only [List.nil_append] at h0 | simp only [List.cons_append] at h0 | simp only [List.set_cons_zero] at h0 | simp only [List.set_cons_succ] at h0 | simp only [List.eraseIdx_zero] at h0 | simp only [List.tail_cons] at h0 | simp only [List.eraseIdx_cons_zero] at h0 | simp only [List.eraseIdx_cons_succ] at h0 | simp only [List.setIfInBounds_toArray] at h0)
      refine wp_region_lit ?_
      refine wpList_plainQ rfl (fun K Q' hK => ?_); go_simp
      refine h0.k_alloc (fun w1 h1 => ?_)
      refine hK _ _ ?_; clear hK K; try clear Q'
      iterate 2 (refine wpList_plainQ rfl (fun K Q' hK => ?_); go_simp; refine hK _ _ ?_; clear hK K; try clear Q')
      refine wpList_nil ?_
      show Code.wp _ _ _ _ _
      refine wp_seq ?_
      refine wp_seq ?_
      repeat (first | simp only [List.nil_append] at h1 | simp only [List.cons_append] at h1 | simp only [List.set_cons_zero] at h1 | simp only [List.set_cons_succ] at h1 | simp only [List.eraseIdx_zero] at h1 | simp only [List.tail_cons] at h1 | simp only [List.eraseIdx_cons_zero] at h1 | simp only [List.eraseIdx_cons_succ] at h1 | simp only [List.setIfInBounds_toArray] at h1)
      refine h1.region [0] [(0, true), (1, true), (2, true), (3, true), (4, true), (5, true), (6, true), (7, true), (8, true), (9, true), (10, true), (11, true)] (by kernel_rfl) (by kernel_rfl) (fun w2 h2 => ?_)
      refine wpOrd_hide (fun _ _ d _ _ h => by cases d <;> exact h) (fun QR hQn hQp => ?_)
      simp only [ordOps, List.map_cons, List.map_nil, List.getD_cons_zero, List.getD_cons_succ]
      iterate 4 (refine wpOrd_quiet (v := ?_) rfl (fun _ _ _ => hQp _ _ _ _ _) ?_ ?_; rotate_left; (intro w' hS; (first | (go_simp; done) | (go_simp; with_reducible rfl))); simp only [Act.put, List.setIfInBounds_toArray, List.set_cons_zero, List.set_cons_succ])
      iterate 5 (refine wpOrd_quiet (v := ?_) (by kernel_rfl) (fun _ _ _ => hQp _ _ _ _ _) ?_ ?_; rotate_left; (intro w' hS; have c_0_0 := hS.cell 0 rfl 0 rfl; (first | (go_simp; done) | (go_simp; with_reducible rfl))); simp only [Act.put, List.setIfInBounds_toArray, List.set_cons_zero, List.set_cons_succ])
      -- stops at: load (Go.Op.load 3 (Go.Operand.tmp 17)) slot 18
      iterate 1 (refine wpOrd_quiet (v := ?_) (by kernel_rfl) (fun _ _ _ => hQp _ _ _ _ _) ?_ ?_; rotate_left; (intro w' hS; obtain ⟨q0, q1, q2, q3⟩ := hc.out _ hS.1; (first | (go_simp; done) | (go_simp; with_reducible rfl))); simp only [Act.put, List.setIfInBounds_toArray, List.set_cons_zero, List.set_cons_succ])
      iterate 1 (refine wpOrd_quiet (v := ?_) (by kernel_rfl) (fun _ _ _ => hQp _ _ _ _ _) ?_ ?_; rotate_left; (intro w' hS; (first | (go_simp; done) | (go_simp; with_reducible rfl))); simp only [Act.put, List.setIfInBounds_toArray, List.set_cons_zero, List.set_cons_succ])
      iterate 1 (refine wpOrd_quiet (v := ?_) rfl (fun _ _ _ => hQp _ _ _ _ _) ?_ ?_; rotate_left; (intro w' hS; (first | (go_simp; done) | (go_simp; with_reducible rfl))); simp only [Act.put, List.setIfInBounds_toArray, List.set_cons_zero, List.set_cons_succ])
      refine wpOrd_nil (hQn _ _ ?_); clear hQn hQp QR
      show Code.wp _ _ _ _ _
      -- stops at: cond
      refine wp_cond_false (rfl) ?_
      refine wp_skip ?_
      show Code.wp _ _ _ _ _
      refine wp_seq ?_
      repeat (first | simp only [List.nil_append] at h2 | simp only [List.cons_append] at h2 | simp only [List.set_cons_zero] at h2 | simp only [List.set_cons_succ] at h2 | simp only [List.eraseIdx_zero] at h2 | simp only [List.tail_cons] at h2 | simp only [List.eraseIdx_cons_zero] at h2 | simp only [List.eraseIdx_cons_succ] at h2 | simp only [List.setIfInBounds_toArray] at h2)
      refine h2.region [0] [(0, true), (1, true), (2, true), (3, true), (5, true), (6, true), (4, false), (7, false), (8, true), (9, true), (10, true), (11, true), (12, true)] (by kernel_rfl) (by kernel_rfl) (fun w3 h3 => ?_)
      refine wpOrd_hide (fun _ _ d _ _ h => by cases d <;> exact h) (fun QR hQn hQp => ?_)
      simp only [ordOps, List.map_cons, List.map_nil, List.getD_cons_zero, List.getD_cons_succ]
      iterate 3 (refine wpOrd_quiet (v := ?_) rfl (fun _ _ _ => hQp _ _ _ _ _) ?_ ?_; rotate_left; (intro w' hS; have c_0_0 := hS.cell 0 rfl 0 rfl; have c_0_1 := hS.cell 0 rfl 1 rfl; have c_0_2 := hS.cell 0 rfl 2 rfl; have c_0_3 := hS.cell 0 rfl 3 rfl; (first | (go_simp; done) | (go_simp; with_reducible rfl))); simp only [Act.put, List.setIfInBounds_toArray, List.set_cons_zero, List.set_cons_succ])
      -- stops at: load (Go.Op.load 82 (Go.Operand.tmp 29)) slot 30
      iterate 1 (refine wpOrd_quiet (v := ?_) rfl (fun _ _ _ => hQp _ _ _ _ _) ?_ ?_; rotate_left; (intro w' hS; obtain ⟨q0, q1, q2, q3⟩ := hc.out _ hS.1; (first | (go_simp; done) | (go_simp; with_reducible rfl))); simp only [Act.put, List.setIfInBounds_toArray, List.set_cons_zero, List.set_cons_succ])
      iterate 2 (refine wpOrd_quiet (v := ?_) rfl (fun _ _ _ => hQp _ _ _ _ _) ?_ ?_; rotate_left; (intro w' hS; (first | (go_simp; done) | (go_simp; with_reducible rfl))); simp only [Act.put, List.setIfInBounds_toArray, List.set_cons_zero, List.set_cons_succ])
      -- stops at: eff:call (Go.Op.call {'callee': (Go.Callee.value (Go.Operand.func 52)), 'args': [(Go.Operand.tmp 27), (Go.Operand.tmp 30)], 'argTypes': [82, 82]}) slot 31
      refine wpOrd_effQ rfl (fun K Q' hK => ?_); go_simp
      refine (wlink_ok H _ _ _ t f h3.fits (by have := hsz.out; omega) hu' hf2).mono ?_
      rintro e wL ⟨rL, H1, rfl, hpL, hL⟩
      have hL' := hL
      obtain ⟨bM, oM, cM, aM, cM2, aN, cN, r3, rfl, hcM, hr3, hxL, hbL, hkL⟩ := hL.form
      have h4 := h3.call0 hpL
      refine hK _ _ (h4.sat' hpL.le [0] (by kernel_rfl)) ?_; clear hK K; try clear Q'
      -- stops at: eff:call (Go.Op.call {'callee': (Go.Callee.value (Go.Operand.func 84)), 'args': [(Go.Operand.tmp 31), (Go.Operand.tmp 33)], 'argTypes': [82, 33]}) slot 34
      refine wpOrd_effQ rfl (fun K Q' hK => ?_); go_simp
      refine (ih (Tr.link kw t f) H1 _ _ vS h4.fits (by rw [Tr.link_size]; have := hsz.out; omega) hL' (hrest.mono hpL.le)).mono ?_
      rintro e wP ⟨rP, H2, rfl, hpP, hP⟩
      rw [hpn.out]
      obtain ⟨aP, cP, rfl, _, _⟩ := hP.form
      have h5 := h4.call0 hpP
      refine hK _ _ (h5.sat' (GH.le.trans hpL.le hpP.le) [0] (by kernel_rfl)) ?_; clear hK K; try clear Q'
      iterate 5 (refine wpOrd_quiet (v := ?_) rfl (fun _ _ _ => hQp _ _ _ _ _) ?_ ?_; rotate_left; (intro w' hS; (first | (go_simp; done) | (go_simp; with_reducible rfl))); simp only [Act.put, List.setIfInBounds_toArray, List.set_cons_zero, List.set_cons_succ])
      refine wpOrd_nil (hQn _ _ ?_); clear hQn hQp QR
      show Code.wp _ _ _ _ _
      refine wp_seq ?_
      repeat (first | simp only [List.nil_append] at h5 | simp only [List.cons_append] at h5 | simp only [List.set_cons_zero] at h5 | simp only [List.set_cons_succ] at h5 | simp only [List.eraseIdx_zero] at h5 | simp only [List.tail_cons] at h5 | simp only [List.eraseIdx_cons_zero] at h5 | simp only [List.eraseIdx_cons_succ] at h5 | simp only [List.setIfInBounds_toArray] at h5)
      refine wp_region_lit ?_
      iterate 5 (refine wpList_plainQ rfl (fun K Q' hK => ?_); go_simp; refine hK _ _ ?_; clear hK K; try clear Q')
      refine wpList_nil ?_
      show Code.wp _ _ _ _ _
      -- stops at: ret
      refine wp_ret ?_
      go_ret2
      refine ⟨_, H2, ?_, h5.post, by rw [Rw.put_ge kw l hlt]; exact hP⟩
      rw [show 2 * Rw.putN kw t (f :: l) = rr by rw [Rw.putN_ge kw l hlt]; have h5 := hpn.out; have h6 := hrr.out; omega]
      rfl
end Go.Proofs.YtkhjcmbppcimnaaGreatDoor
