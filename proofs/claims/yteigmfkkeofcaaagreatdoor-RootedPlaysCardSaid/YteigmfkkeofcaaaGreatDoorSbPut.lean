/-
The document's rows of trees: a tree put ahead, rows melded, levelled.
-/
import Derived.Test.YteigmfkkeofcaaaGreatDoorSaTree
import Derived.Test.YteigmfkkeofcaaaGreatDoorMdSkew
import Derived.Test.YteigmfkkeofcaaaGreatDoorGcOrd2
import Derived.Test.YteigmfkkeofcaaaGreatDoorGeOrdR
namespace Go.Proofs.YteigmfkkeofcaaaGreatDoor
open Go Go.RowKit
set_option linter.unusedVariables false

theorem RsV.cons {H : GH} {v : Value} {t : Tr El} {l : List (Tr El)} (h : RsV H v (t :: l)) : ∃ (b off cap nn : Nat) (vS : Value), v = .slice (some ⟨b, off, none⟩) nn cap ∧ Hid (nn = l.length + 1) ∧ (1 : Int) ≤ (nn : Int) ∧ 0 < nn ∧ nn ≤ cap ∧
    (Value.slice (if cap = 1 then some ⟨b, off, none⟩ else Option.map (fun x : Addr => x.add 6) (some ⟨b, off, none⟩)) (nn - 1) (cap - 1)) = vS ∧ RsV H vS l := by
  obtain ⟨cs, h1, h2⟩ := h
  obtain ⟨b, off, cap, rfl, hc, hm⟩ := h1.ne_nil (by simp)
  have hf := h1.from 1 (by simp)
  obtain ⟨bv, kv, kcs, rest, r, sz, rfl, h3, h4, h5, h6, h7, h8⟩ := h2
  simp only [List.length_cons, Nat.add_sub_cancel, Nat.one_mul] at hf
  refine ⟨b, off, cap, l.length + 1, _, rfl, rfl, by omega, by omega, hc, rfl, rest, ?_, h8⟩
  exact hf
/-- The first tree's cells. -/
theorem RsV.head {H : GH} {b off cap n : Nat} {t : Tr El} {l : List (Tr El)} (h : RsV H (.slice (some ⟨b, off, none⟩) n cap) (t :: l)) : ∃ (aB : Option Addr) (cB : Nat) (aK : Option Addr) (cK r sz : Nat),
    Hid (∀ W, Fits W H → W.cell? ⟨b, off, none⟩ = some (.int .i64 (r : Int)) ∧ W.cell? ⟨b, off + 1, none⟩ = some (.int .i64 t.x.1) ∧ W.cell? ⟨b, off + 2, none⟩ = some (.int .i64 t.x.2) ∧ W.cell? ⟨b, off + 3, none⟩ = some (.slice aB t.b.length cB) ∧ W.cell? ⟨b, off + 4, none⟩ = some (.slice aK t.k.toL.length cK) ∧ W.cell? ⟨b, off + 5, none⟩ = some (.int .i64 (sz : Int))) ∧
    Hid (r = t.rank) ∧ TrV H (tV r t.x (.slice aB t.b.length cB) (.slice aK t.k.toL.length cK) sz) t := by
  obtain ⟨bv, kv, r, sz, h1, h2, h3, h4, h5⟩ := h.at 0 (t := t) rfl
  obtain ⟨aB, cB, rfl, _, _⟩ := h4.nil_or
  obtain ⟨aK, cK, rfl, _, _⟩ := h5.form
  refine ⟨aB, cB, aK, cK, r, sz, fun W hF => ?_, h2, _, _, r, sz, rfl, h2, h3, h4, h5⟩
  simpa using h1.out W hF

theorem Rw.put_pos (t : Tr El) (l : List (Tr El)) : 0 < (Rw.put kf t l).length := by
  induction l generalizing t with
  | nil => simp [Rw.put]
  | cons f l ih =>
    by_cases h : t.rank < f.rank
    · rw [Rw.put_lt kf l h]; simp
    · rw [Rw.put_ge kf l h]; exact ih _

set_option maxRecDepth 100000 in
set_option maxHeartbeats 1000000 in
theorem rahead_ok (H : GH) (w : World) (u v : Value) (t : Tr El) (l : List (Tr El)) (hf : Fits w H) (hn : t.size + Rw.size l < 1000000) (hu : TrV H u t) (hv : RsV H v l) :
    Calls Tryz.prog 84 #[u, v] w fun e w' => ∃ r H', e = .returned r ∧ Post w H none w' H' 0 0 ∧ RsV H' r (t :: l) := by
  have hpre : Pre w H none 0 0 := Pre.none hf 0 0
  obtain ⟨aB, cB, aK, cK, r1, z1, rfl, hr1, hz1, hb1, hk1⟩ := hu.form
  obtain ⟨cs, hv1, hv2⟩ := hv
  have hl := Rw.length_le l
  go_enter Tryz.func84, Tryz.ntmps84
  have h0 := St.start hpre
  refine wp_seq ?_
  repeat (first | simp only [List.nil_append] at h0 | simp only [List.cons_append] at h0 | simp only [List.set_cons_zero] at h0 | simp only [List.set_cons_succ] at h0 | simp only [List.eraseIdx_zero] at h0 | simp only [List.tail_cons] at h0 | simp only [List.eraseIdx_cons_zero] at h0 | simp only [List.eraseIdx_cons_succ] at h0 | simp only [List.setIfInBounds_toArray] at h0)
  refine wp_region_lit ?_
  refine wpList_plainQ rfl (fun K Q' hK => ?_); go_simp
  refine h0.k_alloc (fun w1 h1 => ?_)
  refine hK _ _ ?_; clear hK K; try clear Q'
  iterate 1 (refine wpList_plainQ rfl (fun K Q' hK => ?_); go_simp; refine hK _ _ ?_; clear hK K; try clear Q')
  refine wpList_nil ?_
  show Code.wp _ _ _ _ _
  refine wp_seq ?_
  repeat (first | simp only [List.nil_append] at h1 | simp only [List.cons_append] at h1 | simp only [List.set_cons_zero] at h1 | simp only [List.set_cons_succ] at h1 | simp only [List.eraseIdx_zero] at h1 | simp only [List.tail_cons] at h1 | simp only [List.eraseIdx_cons_zero] at h1 | simp only [List.eraseIdx_cons_succ] at h1 | simp only [List.setIfInBounds_toArray] at h1)
  refine wp_region_lit ?_
  have c_0_0 := h1.cell 0 rfl 0 rfl
  have c_0_1 := h1.cell 0 rfl 1 rfl
  have c_0_2 := h1.cell 0 rfl 2 rfl
  have c_0_3 := h1.cell 0 rfl 3 rfl
  have c_0_4 := h1.cell 0 rfl 4 rfl
  have c_0_5 := h1.cell 0 rfl 5 rfl
  iterate 1 (refine wpList_plainQ rfl (fun K Q' hK => ?_); go_simp; refine hK _ _ ?_; clear hK K; try clear Q')
  clear c_0_0 c_0_1 c_0_2 c_0_3 c_0_4 c_0_5
  refine wpList_plainQ rfl (fun K Q' hK => ?_); go_simp
  refine h1.k_alloc (fun w2 h2 => ?_)
  refine hK _ _ ?_; clear hK K; try clear Q'
  iterate 1 (refine wpList_plainQ rfl (fun K Q' hK => ?_); go_simp; refine hK _ _ ?_; clear hK K; try clear Q')
  refine wpList_nil ?_
  show Code.wp _ _ _ _ _
  refine wp_seq ?_
  repeat (first | simp only [List.nil_append] at h2 | simp only [List.cons_append] at h2 | simp only [List.set_cons_zero] at h2 | simp only [List.set_cons_succ] at h2 | simp only [List.eraseIdx_zero] at h2 | simp only [List.tail_cons] at h2 | simp only [List.eraseIdx_cons_zero] at h2 | simp only [List.eraseIdx_cons_succ] at h2 | simp only [List.setIfInBounds_toArray] at h2)
  refine wp_region_lit ?_
  iterate 2 (refine wpList_plainQ rfl (fun K Q' hK => ?_); go_simp; refine hK _ _ ?_; clear hK K; try clear Q')
  -- stops at: eff:Builtin.append (Go.Op.call {'callee': (Go.Callee.builtin Go.Builtin.append), 'args': [(Go.Operand.tmp 8), (Go.Operand.tmp 9)], 'argTypes': [33, 33]}) slot 10
  have hR := h2.rowOf 1 rfl 6 1 rfl (by unfold maxLen; omega)
  refine wpList_plainQ rfl (fun K Q' hK => ?_)
  refine hR.op_append_rep 0 rfl rfl infoTT rfl cs rfl hv1 (TV.one hv2) (by omega) (by unfold maxLen; omega) (fun v1 wB hB => ?_)
  refine hK _ _ ?_; clear hK K; try clear Q'
  obtain ⟨H6, h6, rA, leA⟩ := hB.settleRow 0 rfl
  iterate 1 (refine wpList_plainQ rfl (fun K Q' hK => ?_); go_simp; refine hK _ _ ?_; clear hK K; try clear Q')
  refine wpList_nil ?_
  show Code.wp _ _ _ _ _
  -- stops at: ret
  refine wp_ret ?_
  go_ret
  refine ⟨_, H6, rfl, h6.post, _, ?_, TV.push hr1 hz1 (hb1.mono leA) (hk1.mono leA) (hv2.mono leA)⟩
  show SliceRep H6 6 _ (_ + 1) _
  rw [Nat.add_comm _ 1]
  exact rA

set_option maxRecDepth 100000 in
set_option maxHeartbeats 4000000 in
theorem rput_ok : ∀ (l : List (Tr El)) (t : Tr El) (H : GH) (w : World) (u v : Value), Fits w H → t.size + Rw.size l < 1000000 → TrV H u t → RsV H v l →
    Calls Tryz.prog 83 #[u, v] w fun e w' => ∃ r H', e = .returned (.tuple #[r, .int .i64 (2 * Rw.putN kf t l : Nat)]) ∧ Post w H none w' H' 0 0 ∧ RsV H' r (Rw.put kf t l) := by
  intro l
  induction l with
  | nil =>
    intro t H w u v hf hn hu hv
    as_aux_lemma =>
    have hpre : Pre w H none 0 0 := Pre.none hf 0 0
    have hu' := hu
    obtain ⟨aB, cB, aK, cK, r1, z1, rfl, hr1, hz1, hb1, hk1⟩ := hu.form
    obtain ⟨a0, c0, rfl, _, _⟩ := hv.form
    go_enter Tryz.func83, Tryz.ntmps83
    have h0 := St.start hpre
    refine wp_seq ?_
    repeat (first | simp only [List.nil_append] at h0 | simp only [List.cons_append] at h0 | simp only [List.set_cons_zero] at h0 | simp only [List.set_cons_succ] at h0 | simp only [List.eraseIdx_zero] at h0 | simp only [List.tail_cons] at h0 | simp only [List.eraseIdx_cons_zero] at h0 | simp only [List.eraseIdx_cons_succ] at h0 | simp only [List.setIfInBounds_toArray] at h0)
    refine wp_region_lit ?_
    refine wpList_plainQ rfl (fun K Q' hK => ?_); go_simp
    refine h0.k_alloc (fun w1 h1 => ?_)
    refine hK _ _ ?_; clear hK K; try clear Q'
    iterate 2 (refine wpList_plainQ rfl (fun K Q' hK => ?_); go_simp; refine hK _ _ ?_; clear hK K; try clear Q')
    refine wpList_nil ?_
    show Code.wp _ _ _ _ _
    refine wp_seq ?_
    refine wp_seq ?_
    repeat (first | simp only [List.nil_append] at h1 | simp only [List.cons_append] at h1 | simp only [List.set_cons_zero] at h1 | simp only [List.set_cons_succ] at h1 | simp only [List.eraseIdx_zero] at h1 | simp only [List.tail_cons] at h1 | simp only [List.eraseIdx_cons_zero] at h1 | simp only [List.eraseIdx_cons_succ] at h1 | simp only [List.setIfInBounds_toArray] at h1)
    refine h1.region [0] [(0, true), (1, true), (2, true), (3, true), (4, true), (5, true), (6, true), (7, true), (8, true), (9, true), (10, true), (11, true)] (by kernel_rfl) (by kernel_rfl) (fun w2 h2 => ?_)
    refine wpOrd_hide (fun _ _ d _ _ h => by cases d <;> exact h) (fun QR hQn hQp => ?_)
    simp only [ordOps, List.map_cons, List.map_nil, List.getD_cons_zero, List.getD_cons_succ]
    iterate 4 (refine wpOrd_quiet (v := ?_) rfl (fun _ _ _ => hQp _ _ _ _ _) ?_ ?_; rotate_left; (intro w' hS; (first | (go_simp; done) | (go_simp; with_reducible rfl))); simp only [Act.put, List.setIfInBounds_toArray, List.set_cons_zero, List.set_cons_succ])
    iterate 5 (first | (refine wpOrd_skip rfl (fun _ _ _ => hQp _ _ _ _ _) ?_; simp only [Act.put, List.setIfInBounds_toArray, List.set_cons_zero, List.set_cons_succ]) | (refine wpOrd_quiet (v := ?_) rfl (fun _ _ _ => hQp _ _ _ _ _) ?_ ?_; rotate_left; (intro w' hS; have c_0_0 := hS.cell 0 rfl 0 rfl; (first | (go_simp; done) | (go_simp; with_reducible rfl))); simp only [Act.put, List.setIfInBounds_toArray, List.set_cons_zero, List.set_cons_succ]))
    -- stops at: load (Go.Op.load 3 (Go.Operand.tmp 18)) slot 19
    refine wpOrd_skip rfl (fun _ _ _ => hQp _ _ _ _ _) ?_; simp only [Act.put, List.setIfInBounds_toArray, List.set_cons_zero, List.set_cons_succ]
    iterate 1 (first | (refine wpOrd_skip rfl (fun _ _ _ => hQp _ _ _ _ _) ?_; simp only [Act.put, List.setIfInBounds_toArray, List.set_cons_zero, List.set_cons_succ]) | (refine wpOrd_quiet (v := ?_) rfl (fun _ _ _ => hQp _ _ _ _ _) ?_ ?_; rotate_left; (intro w' hS; (first | (go_simp; done) | (go_simp; with_reducible rfl))); simp only [Act.put, List.setIfInBounds_toArray, List.set_cons_zero, List.set_cons_succ]))
    iterate 1 (refine wpOrd_quiet (v := ?_) rfl (fun _ _ _ => hQp _ _ _ _ _) ?_ ?_; rotate_left; (intro w' hS; (first | (go_simp; done) | (go_simp; with_reducible rfl))); simp only [Act.put, List.setIfInBounds_toArray, List.set_cons_zero, List.set_cons_succ])
    refine wpOrd_nil (hQn _ _ ?_); clear hQn hQp QR
    show Code.wp _ _ _ _ _
    -- stops at: cond
    refine wp_cond_true (rfl) ?_
    refine wp_seq ?_
    repeat (first | simp only [List.nil_append] at h2 | simp only [List.cons_append] at h2 | simp only [List.set_cons_zero] at h2 | simp only [List.set_cons_succ] at h2 | simp only [List.eraseIdx_zero] at h2 | simp only [List.tail_cons] at h2 | simp only [List.eraseIdx_cons_zero] at h2 | simp only [List.eraseIdx_cons_succ] at h2 | simp only [List.setIfInBounds_toArray] at h2)
    refine wp_region_lit ?_
    have c_0_0 := h2.cell 0 rfl 0 rfl
    have c_0_1 := h2.cell 0 rfl 1 rfl
    have c_0_2 := h2.cell 0 rfl 2 rfl
    have c_0_3 := h2.cell 0 rfl 3 rfl
    have c_0_4 := h2.cell 0 rfl 4 rfl
    have c_0_5 := h2.cell 0 rfl 5 rfl
    iterate 2 (refine wpList_plainQ rfl (fun K Q' hK => ?_); go_simp; refine hK _ _ ?_; clear hK K; try clear Q')
    clear c_0_0 c_0_1 c_0_2 c_0_3 c_0_4 c_0_5
    -- stops at: eff:call (Go.Op.call {'callee': (Go.Callee.value (Go.Operand.func 84)), 'args': [(Go.Operand.tmp 22), (Go.Operand.tmp 23)], 'argTypes': [103, 33]}) slot 24
    refine wpList_plainQ rfl (fun K Q' hK => ?_); go_simp
    refine (rahead_ok H _ _ _ t [] h2.fits hn hu' hv).mono ?_
    rintro e wA ⟨r, H1, rfl, hpA, hA⟩
    have h3 := h2.call0 hpA
    refine hK _ _ ?_; clear hK K; try clear Q'
    iterate 2 (refine wpList_plainQ rfl (fun K Q' hK => ?_); go_simp; refine hK _ _ ?_; clear hK K; try clear Q')
    refine wpList_nil ?_
    show Code.wp _ _ _ _ _
    -- stops at: ret
    refine wp_ret ?_
    go_ret2
    exact ⟨r, H1, rfl, h3.post, hA⟩
  | cons f l ih =>
    intro t H w u v hf hn hu hv
    as_aux_lemma =>
    have hpre : Pre w H none 0 0 := Pre.none hf 0 0
    have hu' := hu
    obtain ⟨aB, cB, aK, cK, r1, z1, rfl, hr1, hz1, hb1, hk1⟩ := hu.form
    obtain ⟨b0, o0, cap0, nn, vS, rfl, hnn, hn1, hn0, hcap0, hvS, hrest⟩ := hv.cons
    obtain ⟨aF, cF, aG, cG, r2, z2, hc, hr2, hf2⟩ := hv.head
    have hsz : Hid (t.size + f.size + Rw.size l < 1000000) := by rw [Rw.size_cons] at hn; show _ < _; omega
    have d0 : ((nn : Int) == 0) = false := beq_eq_false_iff_ne.2 (by omega)
    simp [Addr.add] at hvS
    by_cases hlt : t.rank < f.rank
    · have d1 : decide (r1 < r2) = true := decide_eq_true (by have := hr1.out; have := hr2.out; omega)
      go_enter Tryz.func83, Tryz.ntmps83
      have h0 := St.start hpre
      refine wp_seq ?_
      repeat (first | simp only [List.nil_append] at h0 | simp only [List.cons_append] at h0 | simp only [List.set_cons_zero] at h0 | simp only [List.set_cons_succ] at h0 | simp only [List.eraseIdx_zero] at h0 | simp only [List.tail_cons] at h0 | simp only [List.eraseIdx_cons_zero] at h0 | simp only [List.eraseIdx_cons_succ] at h0 | simp only [List.setIfInBounds_toArray] at h0)
      refine wp_region_lit ?_
      refine wpList_plainQ rfl (fun K Q' hK => ?_); go_simp
      refine h0.k_alloc (fun w1 h1 => ?_)
      refine hK _ _ ?_; clear hK K; try clear Q'
      iterate 2 (refine wpList_plainQ rfl (fun K Q' hK => ?_); go_simp; refine hK _ _ ?_; clear hK K; try clear Q')
      refine wpList_nil ?_
      show Code.wp _ _ _ _ _
      refine wp_seq ?_
      refine wp_seq ?_
      repeat (first | simp only [List.nil_append] at h1 | simp only [List.cons_append] at h1 | simp only [List.set_cons_zero] at h1 | simp only [List.set_cons_succ] at h1 | simp only [List.eraseIdx_zero] at h1 | simp only [List.tail_cons] at h1 | simp only [List.eraseIdx_cons_zero] at h1 | simp only [List.eraseIdx_cons_succ] at h1 | simp only [List.setIfInBounds_toArray] at h1)
      refine h1.region [0] [(0, true), (1, true), (2, true), (3, true), (4, true), (5, true), (6, true), (7, true), (8, true), (9, true), (10, true), (11, true)] (by kernel_rfl) (by kernel_rfl) (fun w2 h2 => ?_)
      refine wpOrd_hide (fun _ _ d _ _ h => by cases d <;> exact h) (fun QR hQn hQp => ?_)
      simp only [ordOps, List.map_cons, List.map_nil, List.getD_cons_zero, List.getD_cons_succ]
      iterate 4 (refine wpOrd_quiet (v := ?_) rfl (fun _ _ _ => hQp _ _ _ _ _) ?_ ?_; rotate_left; (intro w' hS; (first | (go_simp; done) | (go_simp; with_reducible rfl))); simp only [Act.put, List.setIfInBounds_toArray, List.set_cons_zero, List.set_cons_succ])
      iterate 5 (refine wpOrd_quiet (v := ?_) (by kernel_rfl) (fun _ _ _ => hQp _ _ _ _ _) ?_ ?_; rotate_left; (intro w' hS; have c_0_0 := hS.cell 0 rfl 0 rfl; (first | (go_simp; done) | (go_simp; with_reducible rfl))); simp only [Act.put, List.setIfInBounds_toArray, List.set_cons_zero, List.set_cons_succ])
      -- stops at: load (Go.Op.load 3 (Go.Operand.tmp 18)) slot 19
      iterate 1 (refine wpOrd_quiet (v := ?_) (by kernel_rfl) (fun _ _ _ => hQp _ _ _ _ _) ?_ ?_; rotate_left; (intro w' hS; obtain ⟨q0, q1, q2, q3, q4, q5⟩ := hc.out _ hS.1; (first | (go_simp; done) | (go_simp; with_reducible rfl))); simp only [Act.put, List.setIfInBounds_toArray, List.set_cons_zero, List.set_cons_succ])
      iterate 1 (refine wpOrd_quiet (v := ?_) (by kernel_rfl) (fun _ _ _ => hQp _ _ _ _ _) ?_ ?_; rotate_left; (intro w' hS; (first | (go_simp; done) | (go_simp; with_reducible rfl))); simp only [Act.put, List.setIfInBounds_toArray, List.set_cons_zero, List.set_cons_succ])
      iterate 1 (refine wpOrd_quiet (v := ?_) rfl (fun _ _ _ => hQp _ _ _ _ _) ?_ ?_; rotate_left; (intro w' hS; (first | (go_simp; done) | (go_simp; with_reducible rfl))); simp only [Act.put, List.setIfInBounds_toArray, List.set_cons_zero, List.set_cons_succ])
      refine wpOrd_nil (hQn _ _ ?_); clear hQn hQp QR
      show Code.wp _ _ _ _ _
      -- stops at: cond
      refine wp_cond_true (rfl) ?_
      refine wp_seq ?_
      repeat (first | simp only [List.nil_append] at h2 | simp only [List.cons_append] at h2 | simp only [List.set_cons_zero] at h2 | simp only [List.set_cons_succ] at h2 | simp only [List.eraseIdx_zero] at h2 | simp only [List.tail_cons] at h2 | simp only [List.eraseIdx_cons_zero] at h2 | simp only [List.eraseIdx_cons_succ] at h2 | simp only [List.setIfInBounds_toArray] at h2)
      refine wp_region_lit ?_
      have c_0_0 := h2.cell 0 rfl 0 rfl
      have c_0_1 := h2.cell 0 rfl 1 rfl
      have c_0_2 := h2.cell 0 rfl 2 rfl
      have c_0_3 := h2.cell 0 rfl 3 rfl
      have c_0_4 := h2.cell 0 rfl 4 rfl
      have c_0_5 := h2.cell 0 rfl 5 rfl
      iterate 2 (refine wpList_plainQ rfl (fun K Q' hK => ?_); go_simp; refine hK _ _ ?_; clear hK K; try clear Q')
      clear c_0_0 c_0_1 c_0_2 c_0_3 c_0_4 c_0_5
      -- stops at: eff:call (Go.Op.call {'callee': (Go.Callee.value (Go.Operand.func 84)), 'args': [(Go.Operand.tmp 22), (Go.Operand.tmp 23)], 'argTypes': [103, 33]}) slot 24
      refine wpList_plainQ rfl (fun K Q' hK => ?_); go_simp
      refine (rahead_ok H _ _ _ t (f :: l) h2.fits hn hu' hv).mono ?_
      rintro e wA ⟨r, H1, rfl, hpA, hA⟩
      have h3 := h2.call0 hpA
      refine hK _ _ ?_; clear hK K; try clear Q'
      iterate 2 (refine wpList_plainQ rfl (fun K Q' hK => ?_); go_simp; refine hK _ _ ?_; clear hK K; try clear Q')
      refine wpList_nil ?_
      show Code.wp _ _ _ _ _
      -- stops at: ret
      refine wp_ret ?_
      go_ret2
      refine ⟨r, H1, by rw [Rw.putN_lt kf l hlt]; rfl, h3.post, by rw [Rw.put_lt kf l hlt]; exact hA⟩
    · have d1 : decide (r1 < r2) = false := decide_eq_false (by have := hr1.out; have := hr2.out; omega)
      obtain ⟨pn, hpn⟩ : ∃ n, Hid (2 * Rw.putN kf (Tr.link kf t f) l = n) := ⟨_, show _ = _ from rfl⟩
      obtain ⟨rr, hrr⟩ : ∃ n, Hid (2 + pn = n) := ⟨_, show _ = _ from rfl⟩
      have hpl : pn ≤ 2 * l.length := by have h5 := Rw.put_length kf (Tr.link kf t f) l; have h7 := hpn.out; have h6 := Rw.put_pos (Tr.link kf t f) l; omega
      have hll := Rw.length_le l
      have e8 : IntKind.i64.wrap (2 + (pn : Int)) = (rr : Int) := by have := hsz.out; have := hrr.out; rw [IntWalk.i64_in _ (by omega)]; omega
      go_enter Tryz.func83, Tryz.ntmps83
      have h0 := St.start hpre
      refine wp_seq ?_
      repeat (first | simp only [List.nil_append] at h0 | simp only [List.cons_append] at h0 | simp only [List.set_cons_zero] at h0 | simp only [List.set_cons_succ] at h0 | simp only [List.eraseIdx_zero] at h0 | simp only [List.tail_cons] at h0 | simp only [List.eraseIdx_cons_zero] at h0 | simp only [List.eraseIdx_cons_succ] at h0 | simp only [List.setIfInBounds_toArray] at h0)
      refine wp_region_lit ?_
      refine wpList_plainQ rfl (fun K Q' hK => ?_); go_simp
      refine h0.k_alloc (fun w1 h1 => ?_)
      refine hK _ _ ?_; clear hK K; try clear Q'
      iterate 2 (refine wpList_plainQ rfl (fun K Q' hK => ?_); go_simp; refine hK _ _ ?_; clear hK K; try clear Q')
      refine wpList_nil ?_
      show Code.wp _ _ _ _ _
      refine wp_seq ?_
      refine wp_seq ?_
      repeat (first | simp only [List.nil_append] at h1 | simp only [List.cons_append] at h1 | simp only [List.set_cons_zero] at h1 | simp only [List.set_cons_succ] at h1 | simp only [List.eraseIdx_zero] at h1 | simp only [List.tail_cons] at h1 | simp only [List.eraseIdx_cons_zero] at h1 | simp only [List.eraseIdx_cons_succ] at h1 | simp only [List.setIfInBounds_toArray] at h1)
      refine h1.region [0] [(0, true), (1, true), (2, true), (3, true), (4, true), (5, true), (6, true), (7, true), (8, true), (9, true), (10, true), (11, true)] (by kernel_rfl) (by kernel_rfl) (fun w2 h2 => ?_)
      refine wpOrd_hide (fun _ _ d _ _ h => by cases d <;> exact h) (fun QR hQn hQp => ?_)
      simp only [ordOps, List.map_cons, List.map_nil, List.getD_cons_zero, List.getD_cons_succ]
      iterate 4 (refine wpOrd_quiet (v := ?_) rfl (fun _ _ _ => hQp _ _ _ _ _) ?_ ?_; rotate_left; (intro w' hS; (first | (go_simp; done) | (go_simp; with_reducible rfl))); simp only [Act.put, List.setIfInBounds_toArray, List.set_cons_zero, List.set_cons_succ])
      iterate 5 (refine wpOrd_quiet (v := ?_) (by kernel_rfl) (fun _ _ _ => hQp _ _ _ _ _) ?_ ?_; rotate_left; (intro w' hS; have c_0_0 := hS.cell 0 rfl 0 rfl; (first | (go_simp; done) | (go_simp; with_reducible rfl))); simp only [Act.put, List.setIfInBounds_toArray, List.set_cons_zero, List.set_cons_succ])
      -- stops at: load (Go.Op.load 3 (Go.Operand.tmp 18)) slot 19
      iterate 1 (refine wpOrd_quiet (v := ?_) (by kernel_rfl) (fun _ _ _ => hQp _ _ _ _ _) ?_ ?_; rotate_left; (intro w' hS; obtain ⟨q0, q1, q2, q3, q4, q5⟩ := hc.out _ hS.1; (first | (go_simp; done) | (go_simp; with_reducible rfl))); simp only [Act.put, List.setIfInBounds_toArray, List.set_cons_zero, List.set_cons_succ])
      iterate 1 (refine wpOrd_quiet (v := ?_) (by kernel_rfl) (fun _ _ _ => hQp _ _ _ _ _) ?_ ?_; rotate_left; (intro w' hS; (first | (go_simp; done) | (go_simp; with_reducible rfl))); simp only [Act.put, List.setIfInBounds_toArray, List.set_cons_zero, List.set_cons_succ])
      iterate 1 (refine wpOrd_quiet (v := ?_) rfl (fun _ _ _ => hQp _ _ _ _ _) ?_ ?_; rotate_left; (intro w' hS; (first | (go_simp; done) | (go_simp; with_reducible rfl))); simp only [Act.put, List.setIfInBounds_toArray, List.set_cons_zero, List.set_cons_succ])
      refine wpOrd_nil (hQn _ _ ?_); clear hQn hQp QR
      show Code.wp _ _ _ _ _
      -- stops at: cond
      refine wp_cond_false (rfl) ?_
      refine wp_skip ?_
      show Code.wp _ _ _ _ _
      refine wp_seq ?_
      repeat (first | simp only [List.nil_append] at h2 | simp only [List.cons_append] at h2 | simp only [List.set_cons_zero] at h2 | simp only [List.set_cons_succ] at h2 | simp only [List.eraseIdx_zero] at h2 | simp only [List.tail_cons] at h2 | simp only [List.eraseIdx_cons_zero] at h2 | simp only [List.eraseIdx_cons_succ] at h2 | simp only [List.setIfInBounds_toArray] at h2)
      refine h2.regionT [0] (.one 0 true (.one 1 true (.one 2 true (.one 3 true (.two (.one 4 false (.one 5 true (.one 6 true (.one 7 true (.one 8 false (.one 9 false (.one 10 true .nil))))))) (.one 8 false (.one 4 false (.one 5 true (.one 6 true (.one 7 true (.one 9 false (.one 10 true .nil)))))))))))) (by as_aux_lemma => kernel_rfl) (by as_aux_lemma => kernel_rfl) (fun w3 h3 => ?_)
      refine wpT_hide (fun _ _ d _ _ h => by cases d <;> exact h) (fun QR hQn hQp => ?_)
      dsimp only [OT.ops, List.getD_cons_zero, List.getD_cons_succ]
      iterate 3 (refine wpT_quiet (v := ?_) rfl (fun _ _ _ => hQp _ _ _ _ _) ?_ ?_; rotate_left; (intro w' hS; have c_0_0 := hS.cell 0 rfl 0 rfl; have c_0_1 := hS.cell 0 rfl 1 rfl; have c_0_2 := hS.cell 0 rfl 2 rfl; have c_0_3 := hS.cell 0 rfl 3 rfl; have c_0_4 := hS.cell 0 rfl 4 rfl; have c_0_5 := hS.cell 0 rfl 5 rfl; (first | (go_simp; done) | (go_simp; with_reducible rfl))); simp only [Act.put, List.setIfInBounds_toArray])
      -- stops at: load (Go.Op.load 103 (Go.Operand.tmp 28)) slot 29
      iterate 1 (refine wpT_quiet (v := ?_) rfl (fun _ _ _ => hQp _ _ _ _ _) ?_ ?_; rotate_left; (intro w' hS; obtain ⟨q0, q1, q2, q3, q4, q5⟩ := hc.out _ hS.1; (first | (go_simp; done) | (go_simp; with_reducible rfl))); simp only [Act.put])
      refine wpT_two ?_ ?_
      -- stops at: fork 
      · skip
        as_aux_lemma =>
        -- stops at: eff:call (Go.Op.call {'callee': (Go.Callee.value (Go.Operand.func 80)), 'args': [(Go.Operand.tmp 26), (Go.Operand.tmp 29)], 'argTypes': [103, 103]}) slot 30
        refine wpT_effQ rfl (fun K Q' hK => ?_); go_simp
        refine (rlink_ok H _ _ _ t f h3.fits (by have := hsz.out; omega) hu' hf2).mono ?_
        rintro e wL ⟨rL, H1, rfl, hpL, hL⟩
        have hL' := hL
        obtain ⟨aM, cM, aN, cN, r3, z3, rfl, hr3, hz3, hbL, hkL⟩ := hL.form
        have h4 := h3.call0 hpL
        refine hK _ _ (h4.sat' hpL.le [0] (by kernel_rfl)) ?_; clear hK K; try clear Q'
        iterate 3 (refine wpT_quiet (v := ?_) rfl (fun _ _ _ => hQp _ _ _ _ _) ?_ ?_; rotate_left; (intro w' hS; (first | (go_simp; done) | (go_simp; with_reducible rfl))); simp only [Act.put, List.setIfInBounds_toArray])
        refine wpT_effQ rfl (fun K Q' hK => ?_); go_simp
        refine h4.k_alloc (fun w5 h5 => ?_)
        refine hK _ _ (h5.sat' hpL.le [0] (by kernel_rfl)) ?_; clear hK K; try clear Q'
        have c_0 := h5.cell 1 rfl 0 rfl
        have f_0 := h5.free 1 rfl 0
        have c_1 := h5.cell 1 rfl 1 rfl
        have f_1 := h5.free 1 rfl 1
        have c_2 := h5.cell 1 rfl 2 rfl
        have f_2 := h5.free 1 rfl 2
        have c_3 := h5.cell 1 rfl 3 rfl
        have f_3 := h5.free 1 rfl 3
        have c_4 := h5.cell 1 rfl 4 rfl
        have f_4 := h5.free 1 rfl 4
        have c_5 := h5.cell 1 rfl 5 rfl
        have f_5 := h5.free 1 rfl 5
        refine wpT_effQ rfl (fun K Q' hK => ?_); go_simp
        clear c_0 f_0 c_1 f_1 c_2 f_2 c_3 f_3 c_4 f_4 c_5 f_5
        refine (((((h5.set (i := 1) rfl 0 _).set (i := 1) rfl 1 _).set (i := 1) rfl 2 _).set (i := 1) rfl 3 _).set (i := 1) rfl 4 _).k_set 1 rfl (fun w6 h6 => ?_)
        refine hK _ _ (h6.sat' hpL.le [0] (by kernel_rfl)) ?_; clear hK K; try clear Q'
        iterate 1 (refine wpT_quiet (v := ?_) rfl (fun _ _ _ => hQp _ _ _ _ _) ?_ ?_; rotate_left; (intro w' hS; (first | (go_simp; done) | (go_simp; with_reducible rfl))); simp only [Act.put, List.setIfInBounds_toArray])
        refine wpT_nil (hQn _ _ ?_); clear hQn hQp QR
        show Code.wp _ _ _ _ _
        refine wp_seq ?_
        repeat (first | simp only [List.nil_append] at h6 | simp only [List.cons_append] at h6 | simp only [List.set_cons_zero] at h6 | simp only [List.set_cons_succ] at h6 | simp only [List.eraseIdx_zero] at h6 | simp only [List.tail_cons] at h6 | simp only [List.eraseIdx_cons_zero] at h6 | simp only [List.eraseIdx_cons_succ] at h6 | simp only [List.setIfInBounds_toArray] at h6)
        refine h6.region [1] [(0, true), (1, true), (2, true), (3, false), (4, true), (5, true), (6, true), (7, true), (8, true)] (by kernel_rfl) (by kernel_rfl) (fun w7 h7 => ?_)
        refine wpOrd_hide (fun _ _ d _ _ h => by cases d <;> exact h) (fun QR hQn hQp => ?_)
        simp only [ordOps, List.map_cons, List.map_nil, List.getD_cons_zero, List.getD_cons_succ]
        iterate 3 (refine wpOrd_quiet (v := ?_) rfl (fun _ _ _ => hQp _ _ _ _ _) ?_ ?_; rotate_left; (intro w' hS; have c_1_0 := hS.cell 0 rfl 0 rfl; have c_1_1 := hS.cell 0 rfl 1 rfl; have c_1_2 := hS.cell 0 rfl 2 rfl; have c_1_3 := hS.cell 0 rfl 3 rfl; have c_1_4 := hS.cell 0 rfl 4 rfl; have c_1_5 := hS.cell 0 rfl 5 rfl; (first | (go_simp; done) | (go_simp; with_reducible rfl))); simp only [Act.put, List.setIfInBounds_toArray, List.set_cons_zero, List.set_cons_succ])
        -- stops at: eff:call (Go.Op.call {'callee': (Go.Callee.value (Go.Operand.func 83)), 'args': [(Go.Operand.tmp 34), (Go.Operand.tmp 36)], 'argTypes': [103, 33]}) slot 37
        refine wpOrd_effQ rfl (fun K Q' hK => ?_); go_simp
        refine (ih (Tr.link kf t f) H1 _ _ vS h7.fits (by rw [Tr.link_size]; have := hsz.out; omega) hL' (hrest.mono hpL.le)).mono ?_
        rintro e wP ⟨rP, H2, rfl, hpP, hP⟩
        rw [hpn.out]
        obtain ⟨aP, cP, rfl, _, _⟩ := hP.form
        have h8 := h7.call0 hpP
        refine hK _ _ (h8.sat' hpP.le [1] (by kernel_rfl)) ?_; clear hK K; try clear Q'
        iterate 5 (refine wpOrd_quiet (v := ?_) rfl (fun _ _ _ => hQp _ _ _ _ _) ?_ ?_; rotate_left; (intro w' hS; (first | (go_simp; done) | (go_simp; with_reducible rfl))); simp only [Act.put, List.setIfInBounds_toArray, List.set_cons_zero, List.set_cons_succ])
        refine wpOrd_nil (hQn _ _ ?_); clear hQn hQp QR
        show Code.wp _ _ _ _ _
        refine wp_seq ?_
        repeat (first | simp only [List.nil_append] at h8 | simp only [List.cons_append] at h8 | simp only [List.set_cons_zero] at h8 | simp only [List.set_cons_succ] at h8 | simp only [List.eraseIdx_zero] at h8 | simp only [List.tail_cons] at h8 | simp only [List.eraseIdx_cons_zero] at h8 | simp only [List.eraseIdx_cons_succ] at h8 | simp only [List.setIfInBounds_toArray] at h8)
        refine wp_region_lit ?_
        iterate 6 (refine wpList_plainQ rfl (fun K Q' hK => ?_); go_simp; refine hK _ _ ?_; clear hK K; try clear Q')
        refine wpList_nil ?_
        show Code.wp _ _ _ _ _
        -- stops at: ret
        refine wp_ret ?_
        go_ret2
        refine ⟨_, H2, ?_, h8.post, by rw [Rw.put_ge kf l hlt]; exact hP⟩
        rw [show 2 * Rw.putN kf t (f :: l) = rr by rw [Rw.putN_ge kf l hlt]; have h5 := hpn.out; have h6 := hrr.out; omega]
        rfl
      · skip
        as_aux_lemma =>
        refine wpT_effQ rfl (fun K Q' hK => ?_); go_simp
        refine h3.k_alloc (fun w9 h9 => ?_)
        refine hK _ _ (h9.sat' (GH.le_refl _) [0] (by kernel_rfl)) ?_; clear hK K; try clear Q'
        -- stops at: eff:call (Go.Op.call {'callee': (Go.Callee.value (Go.Operand.func 80)), 'args': [(Go.Operand.tmp 26), (Go.Operand.tmp 29)], 'argTypes': [103, 103]}) slot 30
        refine wpT_effQ rfl (fun K Q' hK => ?_); go_simp
        refine (rlink_ok H _ _ _ t f h9.fits (by have := hsz.out; omega) hu' hf2).mono ?_
        rintro e wL ⟨rL, H1, rfl, hpL, hL⟩
        have hL' := hL
        obtain ⟨aM, cM, aN, cN, r3, z3, rfl, hr3, hz3, hbL, hkL⟩ := hL.form
        have h10 := h9.call0 hpL
        refine hK _ _ (h10.sat' hpL.le [0] (by kernel_rfl)) ?_; clear hK K; try clear Q'
        iterate 3 (refine wpT_quiet (v := ?_) rfl (fun _ _ _ => hQp _ _ _ _ _) ?_ ?_; rotate_left; (intro w' hS; (first | (go_simp; done) | (go_simp; with_reducible rfl))); simp only [Act.put, List.setIfInBounds_toArray])
        have c_0 := h10.cell 1 rfl 0 rfl
        have f_0 := h10.free 1 rfl 0
        have c_1 := h10.cell 1 rfl 1 rfl
        have f_1 := h10.free 1 rfl 1
        have c_2 := h10.cell 1 rfl 2 rfl
        have f_2 := h10.free 1 rfl 2
        have c_3 := h10.cell 1 rfl 3 rfl
        have f_3 := h10.free 1 rfl 3
        have c_4 := h10.cell 1 rfl 4 rfl
        have f_4 := h10.free 1 rfl 4
        have c_5 := h10.cell 1 rfl 5 rfl
        have f_5 := h10.free 1 rfl 5
        refine wpT_effQ rfl (fun K Q' hK => ?_); go_simp
        clear c_0 f_0 c_1 f_1 c_2 f_2 c_3 f_3 c_4 f_4 c_5 f_5
        refine (((((h10.set (i := 1) rfl 0 _).set (i := 1) rfl 1 _).set (i := 1) rfl 2 _).set (i := 1) rfl 3 _).set (i := 1) rfl 4 _).k_set 1 rfl (fun w11 h11 => ?_)
        refine hK _ _ (h11.sat' hpL.le [0] (by kernel_rfl)) ?_; clear hK K; try clear Q'
        iterate 1 (refine wpT_quiet (v := ?_) rfl (fun _ _ _ => hQp _ _ _ _ _) ?_ ?_; rotate_left; (intro w' hS; (first | (go_simp; done) | (go_simp; with_reducible rfl))); simp only [Act.put, List.setIfInBounds_toArray])
        refine wpT_nil (hQn _ _ ?_); clear hQn hQp QR
        show Code.wp _ _ _ _ _
        refine wp_seq ?_
        repeat (first | simp only [List.nil_append] at h11 | simp only [List.cons_append] at h11 | simp only [List.set_cons_zero] at h11 | simp only [List.set_cons_succ] at h11 | simp only [List.eraseIdx_zero] at h11 | simp only [List.tail_cons] at h11 | simp only [List.eraseIdx_cons_zero] at h11 | simp only [List.eraseIdx_cons_succ] at h11 | simp only [List.setIfInBounds_toArray] at h11)
        refine h11.region [1] [(0, true), (1, true), (2, true), (3, false), (4, true), (5, true), (6, true), (7, true), (8, true)] (by kernel_rfl) (by kernel_rfl) (fun w12 h12 => ?_)
        refine wpOrd_hide (fun _ _ d _ _ h => by cases d <;> exact h) (fun QR hQn hQp => ?_)
        simp only [ordOps, List.map_cons, List.map_nil, List.getD_cons_zero, List.getD_cons_succ]
        iterate 3 (refine wpOrd_quiet (v := ?_) rfl (fun _ _ _ => hQp _ _ _ _ _) ?_ ?_; rotate_left; (intro w' hS; have c_1_0 := hS.cell 0 rfl 0 rfl; have c_1_1 := hS.cell 0 rfl 1 rfl; have c_1_2 := hS.cell 0 rfl 2 rfl; have c_1_3 := hS.cell 0 rfl 3 rfl; have c_1_4 := hS.cell 0 rfl 4 rfl; have c_1_5 := hS.cell 0 rfl 5 rfl; (first | (go_simp; done) | (go_simp; with_reducible rfl))); simp only [Act.put, List.setIfInBounds_toArray, List.set_cons_zero, List.set_cons_succ])
        -- stops at: eff:call (Go.Op.call {'callee': (Go.Callee.value (Go.Operand.func 83)), 'args': [(Go.Operand.tmp 34), (Go.Operand.tmp 36)], 'argTypes': [103, 33]}) slot 37
        refine wpOrd_effQ rfl (fun K Q' hK => ?_); go_simp
        refine (ih (Tr.link kf t f) H1 _ _ vS h12.fits (by rw [Tr.link_size]; have := hsz.out; omega) hL' (hrest.mono hpL.le)).mono ?_
        rintro e wP ⟨rP, H2, rfl, hpP, hP⟩
        rw [hpn.out]
        obtain ⟨aP, cP, rfl, _, _⟩ := hP.form
        have h13 := h12.call0 hpP
        refine hK _ _ (h13.sat' hpP.le [1] (by kernel_rfl)) ?_; clear hK K; try clear Q'
        iterate 5 (refine wpOrd_quiet (v := ?_) rfl (fun _ _ _ => hQp _ _ _ _ _) ?_ ?_; rotate_left; (intro w' hS; (first | (go_simp; done) | (go_simp; with_reducible rfl))); simp only [Act.put, List.setIfInBounds_toArray, List.set_cons_zero, List.set_cons_succ])
        refine wpOrd_nil (hQn _ _ ?_); clear hQn hQp QR
        show Code.wp _ _ _ _ _
        refine wp_seq ?_
        repeat (first | simp only [List.nil_append] at h13 | simp only [List.cons_append] at h13 | simp only [List.set_cons_zero] at h13 | simp only [List.set_cons_succ] at h13 | simp only [List.eraseIdx_zero] at h13 | simp only [List.tail_cons] at h13 | simp only [List.eraseIdx_cons_zero] at h13 | simp only [List.eraseIdx_cons_succ] at h13 | simp only [List.setIfInBounds_toArray] at h13)
        refine wp_region_lit ?_
        iterate 6 (refine wpList_plainQ rfl (fun K Q' hK => ?_); go_simp; refine hK _ _ ?_; clear hK K; try clear Q')
        refine wpList_nil ?_
        show Code.wp _ _ _ _ _
        -- stops at: ret
        refine wp_ret ?_
        go_ret2
        refine ⟨_, H2, ?_, h13.post, by rw [Rw.put_ge kf l hlt]; exact hP⟩
        rw [show 2 * Rw.putN kf t (f :: l) = rr by rw [Rw.putN_ge kf l hlt]; have h5 := hpn.out; have h6 := hrr.out; omega]
        rfl
end Go.Proofs.YteigmfkkeofcaaaGreatDoor
