/-
The document's heaps of rows of trees: putting in, melding.
-/
import Derived.Test.YteigmfkkeofcaaaGreatDoorSgRef
import Derived.Test.YteigmfkkeofcaaaGreatDoorMdSkew
namespace Go.Proofs.YteigmfkkeofcaaaGreatDoor
open Go Go.RowKit
set_option linter.unusedVariables false

/-- The cells of a block of the call's own, as what is appended. -/
theorem St.newsAt {w0 w : World} {H0 H : GH} {m : Option Nat} {c d : Int} {L : List (Nat × Obj)} {R : List Row} (h : St w0 H0 m c d w H L R) (i : Nat) {b : Nat} {cs : Array Value} {T : TypeId} {f : Nat × Nat} (hi : L[i]? = some (b, .cells cs T f)) :
    ∀ j u, cs.toList[j]? = some u → w.cell? ((⟨b, 0, none⟩ : Addr).add j) = some u := fun j u hj => by
  have hj' : cs[j]? = some u := by simpa using hj
  have e := h.cell i hi j hj'
  unfold Addr.add
  split
  · rename_i h0; subst h0; exact e
  · simpa using e

set_option maxRecDepth 100000 in
set_option maxHeartbeats 4000000 in
theorem r9ins_nil (H : GH) (w : World) (x : El) (v : Value) (hf : Fits w H) (hn : Rw.size ([] : List (Tr El)) < 900000) (hv : RsV H v ([] : List (Tr El))) :
    Calls Tryz.prog 27 #[elV x, .agg #[v]] w fun e w' => ∃ q' H', e = .returned (.tuple #[.agg #[q'], .int .i64 (Sk.insC ([] : List (Tr El)) + Sk.insD ([] : List (Tr El)) : Nat)]) ∧ Post w H none w' H' 0 0 ∧ RsV H' q' (Sk.insert kf x ([] : List (Tr El))) := by
  have hpre : Pre w H none 0 0 := Pre.none hf 0 0
  have hv' := hv
  obtain ⟨a0, c0, rfl, _, _⟩ := hv.form
  have hlb' : ([] : List (Tr El)).length < 1000000 := by simp
  go_enter Tryz.func27, Tryz.ntmps27
  have h0 := St.start hpre
  refine wp_seq ?_
  repeat (first | simp only [List.nil_append] at h0 | simp only [List.cons_append] at h0 | simp only [List.set_cons_zero] at h0 | simp only [List.set_cons_succ] at h0 | simp only [List.eraseIdx_zero] at h0 | simp only [List.tail_cons] at h0 | simp only [List.eraseIdx_cons_zero] at h0 | simp only [List.eraseIdx_cons_succ] at h0 | simp only [List.setIfInBounds_toArray] at h0)
  refine wp_region_lit ?_
  refine wpList_plainQ rfl (fun K Q' hK => ?_); go_simp
  refine h0.k_alloc (fun w1 h1 => ?_)
  refine hK _ _ ?_; clear hK K; try clear Q'
  refine wpList_plainQ rfl (fun K Q' hK => ?_); go_simp
  refine h1.k_alloc (fun w2 h2 => ?_)
  refine hK _ _ ?_; clear hK K; try clear Q'
  refine wpList_plainQ rfl (fun K Q' hK => ?_); go_simp
  refine h2.k_alloc (fun w3 h3 => ?_)
  refine hK _ _ ?_; clear hK K; try clear Q'
  iterate 1 (refine wpList_plainQ rfl (fun K Q' hK => ?_); go_simp; refine hK _ _ ?_; clear hK K; try clear Q')
  refine wpList_nil ?_
  show Code.wp _ _ _ _ _
  refine wp_seq ?_
  refine wp_seq ?_
  repeat (first | simp only [List.nil_append] at h3 | simp only [List.cons_append] at h3 | simp only [List.set_cons_zero] at h3 | simp only [List.set_cons_succ] at h3 | simp only [List.eraseIdx_zero] at h3 | simp only [List.tail_cons] at h3 | simp only [List.eraseIdx_cons_zero] at h3 | simp only [List.eraseIdx_cons_succ] at h3 | simp only [List.setIfInBounds_toArray] at h3)
  refine h3.region [1] [(0, true), (1, true), (2, true), (3, true), (4, true), (5, true), (6, true), (7, true), (8, true), (9, true), (10, true), (11, true), (12, true), (13, true), (14, true), (15, true), (16, true)] (by kernel_rfl) (by kernel_rfl) (fun w4 h4 => ?_)
  refine wpOrd_hide (fun _ _ d _ _ h => by cases d <;> exact h) (fun QR hQn hQp => ?_)
  simp only [ordOps, List.map_cons, List.map_nil, List.getD_cons_zero, List.getD_cons_succ]
  iterate 5 (refine wpOrd_quiet (v := ?_) rfl (fun _ _ _ => hQp _ _ _ _ _) ?_ ?_; rotate_left; (intro w' hS; have c_1_0 := hS.cell 0 rfl 0 rfl; (first | (go_simp; done) | (go_simp; with_reducible rfl))); simp only [Act.put, List.setIfInBounds_toArray, List.set_cons_zero, List.set_cons_succ])
  iterate 4 (first | (refine wpOrd_skip rfl (fun _ _ _ => hQp _ _ _ _ _) ?_; simp only [Act.put, List.setIfInBounds_toArray, List.set_cons_zero, List.set_cons_succ]) | (refine wpOrd_quiet (v := ?_) rfl (fun _ _ _ => hQp _ _ _ _ _) ?_ ?_; rotate_left; (intro w' hS; have c_1_0 := hS.cell 0 rfl 0 rfl; (first | (go_simp; done) | (go_simp; with_reducible rfl))); simp only [Act.put, List.setIfInBounds_toArray, List.set_cons_zero, List.set_cons_succ]))
  -- stops at: load (Go.Op.load 3 (Go.Operand.tmp 18)) slot 19
  refine wpOrd_skip rfl (fun _ _ _ => hQp _ _ _ _ _) ?_; simp only [Act.put, List.setIfInBounds_toArray, List.set_cons_zero, List.set_cons_succ]
  iterate 4 (first | (refine wpOrd_skip rfl (fun _ _ _ => hQp _ _ _ _ _) ?_; simp only [Act.put, List.setIfInBounds_toArray, List.set_cons_zero, List.set_cons_succ]) | (refine wpOrd_quiet (v := ?_) rfl (fun _ _ _ => hQp _ _ _ _ _) ?_ ?_; rotate_left; (intro w' hS; have c_1_0 := hS.cell 0 rfl 0 rfl; (first | (go_simp; done) | (go_simp; with_reducible rfl))); simp only [Act.put, List.setIfInBounds_toArray, List.set_cons_zero, List.set_cons_succ]))
  -- stops at: load (Go.Op.load 3 (Go.Operand.tmp 23)) slot 24
  refine wpOrd_skip rfl (fun _ _ _ => hQp _ _ _ _ _) ?_; simp only [Act.put, List.setIfInBounds_toArray, List.set_cons_zero, List.set_cons_succ]
  iterate 1 (first | (refine wpOrd_skip rfl (fun _ _ _ => hQp _ _ _ _ _) ?_; simp only [Act.put, List.setIfInBounds_toArray, List.set_cons_zero, List.set_cons_succ]) | (refine wpOrd_quiet (v := ?_) rfl (fun _ _ _ => hQp _ _ _ _ _) ?_ ?_; rotate_left; (intro w' hS; (first | (go_simp; done) | (go_simp; with_reducible rfl))); simp only [Act.put, List.setIfInBounds_toArray, List.set_cons_zero, List.set_cons_succ]))
  iterate 1 (refine wpOrd_quiet (v := ?_) rfl (fun _ _ _ => hQp _ _ _ _ _) ?_ ?_; rotate_left; (intro w' hS; (first | (go_simp; done) | (go_simp; with_reducible rfl))); simp only [Act.put, List.setIfInBounds_toArray, List.set_cons_zero, List.set_cons_succ])
  refine wpOrd_nil (hQn _ _ ?_); clear hQn hQp QR
  show Code.wp _ _ _ _ _
  -- stops at: cond
  refine wp_cond_false (rfl) ?_
  refine wp_skip ?_
  show Code.wp _ _ _ _ _
  refine wp_seq ?_
  repeat (first | simp only [List.nil_append] at h4 | simp only [List.cons_append] at h4 | simp only [List.set_cons_zero] at h4 | simp only [List.set_cons_succ] at h4 | simp only [List.eraseIdx_zero] at h4 | simp only [List.tail_cons] at h4 | simp only [List.eraseIdx_cons_zero] at h4 | simp only [List.eraseIdx_cons_succ] at h4 | simp only [List.setIfInBounds_toArray] at h4)
  refine wp_region_lit ?_
  have c_0_0 := h4.cell 0 rfl 0 rfl
  have c_0_1 := h4.cell 0 rfl 1 rfl
  iterate 1 (refine wpList_plainQ rfl (fun K Q' hK => ?_); go_simp; refine hK _ _ ?_; clear hK K; try clear Q')
  clear c_0_0 c_0_1
  -- stops at: eff:call (Go.Op.call {'callee': (Go.Callee.value (Go.Operand.func 52)), 'args': [(Go.Operand.tmp 50)], 'argTypes': [32]}) slot 51
  refine wpList_plainQ rfl (fun K Q' hK => ?_); go_simp
  refine (rleaf_ok H _ x h4.fits).mono ?_
  rintro e wA ⟨u, rfl, hkA, hu⟩
  obtain ⟨aB, cB, aK, cK, r1, z1, rfl, hr1, hz1, hb1, hk1⟩ := hu.form
  have h5 := h4.callk hkA
  refine hK _ _ ?_; clear hK K; try clear Q'
  refine wpList_plainQ rfl (fun K Q' hK => ?_); go_simp
  refine h5.k_alloc (fun w6 h6 => ?_)
  refine hK _ _ ?_; clear hK K; try clear Q'
  iterate 1 (refine wpList_plainQ rfl (fun K Q' hK => ?_); go_simp; refine hK _ _ ?_; clear hK K; try clear Q')
  refine wpList_nil ?_
  show Code.wp _ _ _ _ _
  refine wp_seq ?_
  repeat (first | simp only [List.nil_append] at h6 | simp only [List.cons_append] at h6 | simp only [List.set_cons_zero] at h6 | simp only [List.set_cons_succ] at h6 | simp only [List.eraseIdx_zero] at h6 | simp only [List.tail_cons] at h6 | simp only [List.eraseIdx_cons_zero] at h6 | simp only [List.eraseIdx_cons_succ] at h6 | simp only [List.setIfInBounds_toArray] at h6)
  refine wp_region_lit ?_
  have c_1_0 := h6.cell 1 rfl 0 rfl
  iterate 3 (refine wpList_plainQ rfl (fun K Q' hK => ?_); go_simp; refine hK _ _ ?_; clear hK K; try clear Q')
  clear c_1_0
  -- stops at: eff:Builtin.append (Go.Op.call {'callee': (Go.Callee.builtin Go.Builtin.append), 'args': [(Go.Operand.tmp 53), (Go.Operand.tmp 55)], 'argTypes': [33, 33]}) slot 56
  have hR := h6.rowOf 3 rfl 6 1 rfl (by unfold maxLen; omega)
  refine wpList_plainQ rfl (fun K Q' hK => ?_)
  obtain ⟨cs, hv1, hv2⟩ := hv'
  refine hR.op_append_rep 0 rfl rfl infoTT rfl cs rfl hv1 (TV.one hv2) (by omega) (by unfold maxLen; omega) (fun v1 wB hB => ?_)
  refine hK _ _ ?_; clear hK K; try clear Q'
  obtain ⟨aV, cV, rfl⟩ := hB.row_form 0 rfl
  obtain ⟨H6, h6, rA, leA⟩ := hB.settleRow 0 rfl
  iterate 1 (refine wpList_plainQ rfl (fun K Q' hK => ?_); go_simp; refine hK _ _ ?_; clear hK K; try clear Q')
  refine wpList_nil ?_
  show Code.wp _ _ _ _ _
  refine wp_seq ?_
  refine wp_region_lit ?_
  iterate 2 (refine wpList_plainQ rfl (fun K Q' hK => ?_); go_simp; refine hK _ _ ?_; clear hK K; try clear Q')
  have c_0 := h6.cell 2 rfl 0 rfl
  have f_0 := h6.free 2 rfl 0
  refine wpList_plainQ rfl (fun K Q' hK => ?_); go_simp
  clear c_0 f_0
  refine h6.k_set 2 rfl (fun w7 h7 => ?_)
  refine hK _ _ ?_; clear hK K; try clear Q'
  iterate 1 (refine wpList_plainQ rfl (fun K Q' hK => ?_); go_simp; refine hK _ _ ?_; clear hK K; try clear Q')
  refine wpList_nil ?_
  show Code.wp _ _ _ _ _
  -- stops at: ret
  refine wp_ret ?_
  have r_2_0 := h7.cell 2 rfl 0 rfl
  first | show bodyPost _ _ _ _ _ _ | (simp only [Exit.then]; show bodyPost _ _ _ _ _ _) | (simp only [Exit.inBlock]; show bodyPost _ _ _ _ _ _) | (simp only [Exit.inBlock, Exit.then]; show bodyPost _ _ _ _ _ _) | (simp only [Exit.noGoto, Exit.inBlock, Exit.then]; show bodyPost _ _ _ _ _ _)
  refine bodyPost_ret (v := ?_) ?_ rfl ?_
  rotate_left
  · simp only [results, Tryz.results27]; go_simp; with_reducible rfl
  clear r_2_0
  refine ⟨_, H6, rfl, h7.post, ?_⟩
  rw [show Sk.insert kf x [] = [Tr.leaf x] from rfl]
  refine ⟨_, ?_, TV.push hr1 hz1 (hb1.mono leA) (hk1.mono leA) (hv2.mono leA)⟩
  show SliceRep H6 6 _ (([] : List (Tr El)).length + 1) _
  rw [Nat.add_comm ([] : List (Tr El)).length 1]
  exact rA
set_option maxRecDepth 100000 in
set_option maxHeartbeats 4000000 in
theorem r9ins_one (H : GH) (w : World) (x : El) (v : Value) (a : Tr El) (hf : Fits w H) (hn : Rw.size ([a]) < 900000) (hv : RsV H v ([a])) :
    Calls Tryz.prog 27 #[elV x, .agg #[v]] w fun e w' => ∃ q' H', e = .returned (.tuple #[.agg #[q'], .int .i64 (Sk.insC ([a]) + Sk.insD ([a]) : Nat)]) ∧ Post w H none w' H' 0 0 ∧ RsV H' q' (Sk.insert kf x ([a])) := by
  have hpre : Pre w H none 0 0 := Pre.none hf 0 0
  have hv' := hv
  obtain ⟨b0, o0, cap0, nn, vS, rfl, hnn, hn1, hn0, hcap0, hvS, hrest⟩ := hv.cons
  have hnn1 : nn = 1 := hnn.out
  subst hnn1
  have hlb' : [a].length < 1000000 := by simp
  go_enter Tryz.func27, Tryz.ntmps27
  have h0 := St.start hpre
  refine wp_seq ?_
  repeat (first | simp only [List.nil_append] at h0 | simp only [List.cons_append] at h0 | simp only [List.set_cons_zero] at h0 | simp only [List.set_cons_succ] at h0 | simp only [List.eraseIdx_zero] at h0 | simp only [List.tail_cons] at h0 | simp only [List.eraseIdx_cons_zero] at h0 | simp only [List.eraseIdx_cons_succ] at h0 | simp only [List.setIfInBounds_toArray] at h0)
  refine wp_region_lit ?_
  refine wpList_plainQ rfl (fun K Q' hK => ?_); go_simp
  refine h0.k_alloc (fun w1 h1 => ?_)
  refine hK _ _ ?_; clear hK K; try clear Q'
  refine wpList_plainQ rfl (fun K Q' hK => ?_); go_simp
  refine h1.k_alloc (fun w2 h2 => ?_)
  refine hK _ _ ?_; clear hK K; try clear Q'
  refine wpList_plainQ rfl (fun K Q' hK => ?_); go_simp
  refine h2.k_alloc (fun w3 h3 => ?_)
  refine hK _ _ ?_; clear hK K; try clear Q'
  iterate 1 (refine wpList_plainQ rfl (fun K Q' hK => ?_); go_simp; refine hK _ _ ?_; clear hK K; try clear Q')
  refine wpList_nil ?_
  show Code.wp _ _ _ _ _
  refine wp_seq ?_
  refine wp_seq ?_
  repeat (first | simp only [List.nil_append] at h3 | simp only [List.cons_append] at h3 | simp only [List.set_cons_zero] at h3 | simp only [List.set_cons_succ] at h3 | simp only [List.eraseIdx_zero] at h3 | simp only [List.tail_cons] at h3 | simp only [List.eraseIdx_cons_zero] at h3 | simp only [List.eraseIdx_cons_succ] at h3 | simp only [List.setIfInBounds_toArray] at h3)
  refine h3.region [1] [(0, true), (1, true), (2, true), (3, true), (4, true), (5, true), (6, true), (7, true), (8, true), (9, true), (10, true), (11, true), (12, true), (13, true), (14, true), (15, true), (16, true)] (by kernel_rfl) (by kernel_rfl) (fun w4 h4 => ?_)
  refine wpOrd_hide (fun _ _ d _ _ h => by cases d <;> exact h) (fun QR hQn hQp => ?_)
  simp only [ordOps, List.map_cons, List.map_nil, List.getD_cons_zero, List.getD_cons_succ]
  iterate 5 (refine wpOrd_quiet (v := ?_) rfl (fun _ _ _ => hQp _ _ _ _ _) ?_ ?_; rotate_left; (intro w' hS; have c_1_0 := hS.cell 0 rfl 0 rfl; (first | (go_simp; done) | (go_simp; with_reducible rfl))); simp only [Act.put, List.setIfInBounds_toArray, List.set_cons_zero, List.set_cons_succ])
  iterate 4 (first | (refine wpOrd_skip rfl (fun _ _ _ => hQp _ _ _ _ _) ?_; simp only [Act.put, List.setIfInBounds_toArray, List.set_cons_zero, List.set_cons_succ]) | (refine wpOrd_quiet (v := ?_) rfl (fun _ _ _ => hQp _ _ _ _ _) ?_ ?_; rotate_left; (intro w' hS; have c_1_0 := hS.cell 0 rfl 0 rfl; (first | (go_simp; done) | (go_simp; with_reducible rfl))); simp only [Act.put, List.setIfInBounds_toArray, List.set_cons_zero, List.set_cons_succ]))
  -- stops at: load (Go.Op.load 3 (Go.Operand.tmp 18)) slot 19
  refine wpOrd_skip rfl (fun _ _ _ => hQp _ _ _ _ _) ?_; simp only [Act.put, List.setIfInBounds_toArray, List.set_cons_zero, List.set_cons_succ]
  iterate 4 (first | (refine wpOrd_skip rfl (fun _ _ _ => hQp _ _ _ _ _) ?_; simp only [Act.put, List.setIfInBounds_toArray, List.set_cons_zero, List.set_cons_succ]) | (refine wpOrd_quiet (v := ?_) rfl (fun _ _ _ => hQp _ _ _ _ _) ?_ ?_; rotate_left; (intro w' hS; have c_1_0 := hS.cell 0 rfl 0 rfl; (first | (go_simp; done) | (go_simp; with_reducible rfl))); simp only [Act.put, List.setIfInBounds_toArray, List.set_cons_zero, List.set_cons_succ]))
  -- stops at: load (Go.Op.load 3 (Go.Operand.tmp 23)) slot 24
  refine wpOrd_skip rfl (fun _ _ _ => hQp _ _ _ _ _) ?_; simp only [Act.put, List.setIfInBounds_toArray, List.set_cons_zero, List.set_cons_succ]
  iterate 1 (first | (refine wpOrd_skip rfl (fun _ _ _ => hQp _ _ _ _ _) ?_; simp only [Act.put, List.setIfInBounds_toArray, List.set_cons_zero, List.set_cons_succ]) | (refine wpOrd_quiet (v := ?_) rfl (fun _ _ _ => hQp _ _ _ _ _) ?_ ?_; rotate_left; (intro w' hS; (first | (go_simp; done) | (go_simp; with_reducible rfl))); simp only [Act.put, List.setIfInBounds_toArray, List.set_cons_zero, List.set_cons_succ]))
  iterate 1 (refine wpOrd_quiet (v := ?_) rfl (fun _ _ _ => hQp _ _ _ _ _) ?_ ?_; rotate_left; (intro w' hS; (first | (go_simp; done) | (go_simp; with_reducible rfl))); simp only [Act.put, List.setIfInBounds_toArray, List.set_cons_zero, List.set_cons_succ])
  refine wpOrd_nil (hQn _ _ ?_); clear hQn hQp QR
  show Code.wp _ _ _ _ _
  -- stops at: cond
  refine wp_cond_false (rfl) ?_
  refine wp_skip ?_
  show Code.wp _ _ _ _ _
  refine wp_seq ?_
  repeat (first | simp only [List.nil_append] at h4 | simp only [List.cons_append] at h4 | simp only [List.set_cons_zero] at h4 | simp only [List.set_cons_succ] at h4 | simp only [List.eraseIdx_zero] at h4 | simp only [List.tail_cons] at h4 | simp only [List.eraseIdx_cons_zero] at h4 | simp only [List.eraseIdx_cons_succ] at h4 | simp only [List.setIfInBounds_toArray] at h4)
  refine wp_region_lit ?_
  have c_0_0 := h4.cell 0 rfl 0 rfl
  have c_0_1 := h4.cell 0 rfl 1 rfl
  iterate 1 (refine wpList_plainQ rfl (fun K Q' hK => ?_); go_simp; refine hK _ _ ?_; clear hK K; try clear Q')
  clear c_0_0 c_0_1
  -- stops at: eff:call (Go.Op.call {'callee': (Go.Callee.value (Go.Operand.func 52)), 'args': [(Go.Operand.tmp 50)], 'argTypes': [32]}) slot 51
  refine wpList_plainQ rfl (fun K Q' hK => ?_); go_simp
  refine (rleaf_ok H _ x h4.fits).mono ?_
  rintro e wA ⟨u, rfl, hkA, hu⟩
  obtain ⟨aB, cB, aK, cK, r1, z1, rfl, hr1, hz1, hb1, hk1⟩ := hu.form
  have h5 := h4.callk hkA
  refine hK _ _ ?_; clear hK K; try clear Q'
  refine wpList_plainQ rfl (fun K Q' hK => ?_); go_simp
  refine h5.k_alloc (fun w6 h6 => ?_)
  refine hK _ _ ?_; clear hK K; try clear Q'
  iterate 1 (refine wpList_plainQ rfl (fun K Q' hK => ?_); go_simp; refine hK _ _ ?_; clear hK K; try clear Q')
  refine wpList_nil ?_
  show Code.wp _ _ _ _ _
  refine wp_seq ?_
  repeat (first | simp only [List.nil_append] at h6 | simp only [List.cons_append] at h6 | simp only [List.set_cons_zero] at h6 | simp only [List.set_cons_succ] at h6 | simp only [List.eraseIdx_zero] at h6 | simp only [List.tail_cons] at h6 | simp only [List.eraseIdx_cons_zero] at h6 | simp only [List.eraseIdx_cons_succ] at h6 | simp only [List.setIfInBounds_toArray] at h6)
  refine wp_region_lit ?_
  have c_1_0 := h6.cell 1 rfl 0 rfl
  iterate 3 (refine wpList_plainQ rfl (fun K Q' hK => ?_); go_simp; refine hK _ _ ?_; clear hK K; try clear Q')
  clear c_1_0
  -- stops at: eff:Builtin.append (Go.Op.call {'callee': (Go.Callee.builtin Go.Builtin.append), 'args': [(Go.Operand.tmp 53), (Go.Operand.tmp 55)], 'argTypes': [33, 33]}) slot 56
  have hR := h6.rowOf 3 rfl 6 1 rfl (by unfold maxLen; omega)
  refine wpList_plainQ rfl (fun K Q' hK => ?_)
  obtain ⟨cs, hv1, hv2⟩ := hv'
  refine hR.op_append_rep 0 rfl rfl infoTT rfl cs rfl hv1 (TV.one hv2) (by omega) (by unfold maxLen; omega) (fun v1 wB hB => ?_)
  refine hK _ _ ?_; clear hK K; try clear Q'
  obtain ⟨aV, cV, rfl⟩ := hB.row_form 0 rfl
  obtain ⟨H6, h6, rA, leA⟩ := hB.settleRow 0 rfl
  iterate 1 (refine wpList_plainQ rfl (fun K Q' hK => ?_); go_simp; refine hK _ _ ?_; clear hK K; try clear Q')
  refine wpList_nil ?_
  show Code.wp _ _ _ _ _
  refine wp_seq ?_
  refine wp_region_lit ?_
  iterate 2 (refine wpList_plainQ rfl (fun K Q' hK => ?_); go_simp; refine hK _ _ ?_; clear hK K; try clear Q')
  have c_0 := h6.cell 2 rfl 0 rfl
  have f_0 := h6.free 2 rfl 0
  refine wpList_plainQ rfl (fun K Q' hK => ?_); go_simp
  clear c_0 f_0
  refine h6.k_set 2 rfl (fun w7 h7 => ?_)
  refine hK _ _ ?_; clear hK K; try clear Q'
  iterate 1 (refine wpList_plainQ rfl (fun K Q' hK => ?_); go_simp; refine hK _ _ ?_; clear hK K; try clear Q')
  refine wpList_nil ?_
  show Code.wp _ _ _ _ _
  -- stops at: ret
  refine wp_ret ?_
  have r_2_0 := h7.cell 2 rfl 0 rfl
  first | show bodyPost _ _ _ _ _ _ | (simp only [Exit.then]; show bodyPost _ _ _ _ _ _) | (simp only [Exit.inBlock]; show bodyPost _ _ _ _ _ _) | (simp only [Exit.inBlock, Exit.then]; show bodyPost _ _ _ _ _ _) | (simp only [Exit.noGoto, Exit.inBlock, Exit.then]; show bodyPost _ _ _ _ _ _)
  refine bodyPost_ret (v := ?_) ?_ rfl ?_
  rotate_left
  · simp only [results, Tryz.results27]; go_simp; with_reducible rfl
  clear r_2_0
  refine ⟨_, H6, rfl, h7.post, ?_⟩
  rw [show Sk.insert kf x [a] = [Tr.leaf x, a] from rfl]
  refine ⟨_, ?_, TV.push hr1 hz1 (hb1.mono leA) (hk1.mono leA) (hv2.mono leA)⟩
  show SliceRep H6 6 _ (([a]).length + 1) _
  rw [Nat.add_comm ([a]).length 1]
  exact rA
set_option maxRecDepth 100000 in
set_option maxHeartbeats 4000000 in
theorem r9ins_eq (H : GH) (w : World) (x : El) (v : Value) (a b : Tr El) (r : List (Tr El)) (hf : Fits w H) (hn : Rw.size (a :: b :: r) < 900000) (hv : RsV H v (a :: b :: r)) (hrk : a.rank = b.rank) :
    Calls Tryz.prog 27 #[elV x, .agg #[v]] w fun e w' => ∃ q' H', e = .returned (.tuple #[.agg #[q'], .int .i64 (Sk.insC (a :: b :: r) + Sk.insD (a :: b :: r) : Nat)]) ∧ Post w H none w' H' 0 0 ∧ RsV H' q' (Sk.insert kf x (a :: b :: r)) := by
  have hpre : Pre w H none 0 0 := Pre.none hf 0 0
  have hv' := hv
  obtain ⟨b0, o0, cap0, nn, vS, rfl, hnn, hn1, hn0, hcap0, hvS, hrest⟩ := hv.cons
  obtain ⟨aF, cF, aG, cG, r1, z1, hcA, hr1, hfA⟩ := hv.head
  obtain ⟨bvB, kvB, r2, z2, hcB0, hr2, hz2, hbB, hkB⟩ := hv.at 1 (t := b) rfl
  have hfB : TrV H (tV r2 b.x bvB kvB z2) b := ⟨bvB, kvB, r2, z2, rfl, hr2, hz2, hbB, hkB⟩
  obtain ⟨aM, cM, rfl, _, _⟩ := hbB.nil_or
  obtain ⟨aN, cN, rfl, _, _⟩ := hkB.form
  have hcB : Hid (∀ W, Fits W H → W.cell? ⟨b0, o0 + 6, none⟩ = some (.int .i64 (r2 : Int)) ∧ W.cell? ⟨b0, o0 + 7, none⟩ = some (.int .i64 b.x.1) ∧ W.cell? ⟨b0, o0 + 8, none⟩ = some (.int .i64 b.x.2) ∧ W.cell? ⟨b0, o0 + 9, none⟩ = some (.slice aM b.b.length cM) ∧ W.cell? ⟨b0, o0 + 10, none⟩ = some (.slice aN b.k.toL.length cN) ∧ W.cell? ⟨b0, o0 + 11, none⟩ = some (.int .i64 (z2 : Int))) := fun W hF => by
    have := hcB0.out W hF
    simpa [Nat.add_assoc] using this
  have hsz : Hid (a.size + (b.size + Rw.size r) < 900000) := by rw [Rw.size_cons, Rw.size_cons] at hn; exact hn
  have hnr : Hid (nn = r.length + 2) := by have := hnn.out; show _ = _; simp at this; omega
  have hn2 : (1 : Int) < (nn : Int) := by have := hnr.out; omega
  have hlb : nn < 1000000 := by have := hnr.out; have := Rw.length_le r; have := hsz.out; omega
  have dn : decide (1 < nn) = true := decide_eq_true (by omega)
  have d1 : ((r1 : Int) == (r2 : Int)) = true := beq_iff_eq.2 (by have := hr1.out; have := hr2.out; omega)
  have heq := Sk.insert_eq kf (x := x) r hrk
  have hst : Sk.insC (a :: b :: r) + Sk.insD (a :: b :: r) = 4 := by simp only [Sk.insC, Sk.insD, if_pos hrk]
  obtain ⟨aS, haS⟩ : ∃ a, (if cap0 = 2 then (some ⟨b0, o0, none⟩ : Option Addr) else some ⟨b0, o0 + 12, none⟩) = a := ⟨_, rfl⟩
  obtain ⟨nS, hnS⟩ : ∃ a, nn - 2 = a := ⟨_, rfl⟩
  obtain ⟨cS, hcS⟩ : ∃ a, cap0 - 2 = a := ⟨_, rfl⟩
  have hre : RsV H (.slice aS nS cS) r := by
    have h1 := hv'.from hnn.out 2 (by omega)
    have hadd : (⟨b0, o0, none⟩ : Addr).add (2 * 6) = ⟨b0, o0 + 12, none⟩ := by unfold Addr.add; simp
    simp only [Option.map_some, hadd, List.drop_succ_cons, List.drop_zero] at h1
    rw [haS, hnS, hcS] at h1
    exact h1
  have hsl2 : (2 : Int) ≤ (nn : Int) := by omega
  go_enter Tryz.func27, Tryz.ntmps27
  have h0 := St.start hpre
  refine wp_seq ?_
  repeat (first | simp only [List.nil_append] at h0 | simp only [List.cons_append] at h0 | simp only [List.set_cons_zero] at h0 | simp only [List.set_cons_succ] at h0 | simp only [List.eraseIdx_zero] at h0 | simp only [List.tail_cons] at h0 | simp only [List.eraseIdx_cons_zero] at h0 | simp only [List.eraseIdx_cons_succ] at h0 | simp only [List.setIfInBounds_toArray] at h0)
  refine wp_region_lit ?_
  refine wpList_plainQ rfl (fun K Q' hK => ?_); go_simp
  refine h0.k_alloc (fun w1 h1 => ?_)
  refine hK _ _ ?_; clear hK K; try clear Q'
  refine wpList_plainQ rfl (fun K Q' hK => ?_); go_simp
  refine h1.k_alloc (fun w2 h2 => ?_)
  refine hK _ _ ?_; clear hK K; try clear Q'
  refine wpList_plainQ rfl (fun K Q' hK => ?_); go_simp
  refine h2.k_alloc (fun w3 h3 => ?_)
  refine hK _ _ ?_; clear hK K; try clear Q'
  iterate 1 (refine wpList_plainQ rfl (fun K Q' hK => ?_); go_simp; refine hK _ _ ?_; clear hK K; try clear Q')
  refine wpList_nil ?_
  show Code.wp _ _ _ _ _
  refine wp_seq ?_
  refine wp_seq ?_
  repeat (first | simp only [List.nil_append] at h3 | simp only [List.cons_append] at h3 | simp only [List.set_cons_zero] at h3 | simp only [List.set_cons_succ] at h3 | simp only [List.eraseIdx_zero] at h3 | simp only [List.tail_cons] at h3 | simp only [List.eraseIdx_cons_zero] at h3 | simp only [List.eraseIdx_cons_succ] at h3 | simp only [List.setIfInBounds_toArray] at h3)
  refine h3.region [1] [(0, true), (1, true), (2, true), (3, true), (4, true), (5, true), (6, true), (7, true), (8, true), (9, true), (10, true), (11, true), (12, true), (13, true), (14, true), (15, true), (16, true)] (by kernel_rfl) (by kernel_rfl) (fun w4 h4 => ?_)
  refine wpOrd_hide (fun _ _ d _ _ h => by cases d <;> exact h) (fun QR hQn hQp => ?_)
  simp only [ordOps, List.map_cons, List.map_nil, List.getD_cons_zero, List.getD_cons_succ]
  iterate 5 (refine wpOrd_quiet (v := ?_) rfl (fun _ _ _ => hQp _ _ _ _ _) ?_ ?_; rotate_left; (intro w' hS; have c_1_0 := hS.cell 0 rfl 0 rfl; (first | (go_simp; done) | (go_simp; with_reducible rfl))); simp only [Act.put, List.setIfInBounds_toArray, List.set_cons_zero, List.set_cons_succ])
  iterate 4 (refine wpOrd_quiet (v := ?_) (by kernel_rfl) (fun _ _ _ => hQp _ _ _ _ _) ?_ ?_; rotate_left; (intro w' hS; have c_1_0 := hS.cell 0 rfl 0 rfl; (first | (go_simp; done) | (go_simp; with_reducible rfl))); simp only [Act.put, List.setIfInBounds_toArray, List.set_cons_zero, List.set_cons_succ])
  -- stops at: load (Go.Op.load 3 (Go.Operand.tmp 18)) slot 19
  iterate 1 (refine wpOrd_quiet (v := ?_) (by kernel_rfl) (fun _ _ _ => hQp _ _ _ _ _) ?_ ?_; rotate_left; (intro w' hS; obtain ⟨q0, q1, q2, q3, q4, q5⟩ := hcA.out _ hS.1; (first | (go_simp; done) | (go_simp; with_reducible rfl))); simp only [Act.put, List.setIfInBounds_toArray, List.set_cons_zero, List.set_cons_succ])
  iterate 4 (refine wpOrd_quiet (v := ?_) (by kernel_rfl) (fun _ _ _ => hQp _ _ _ _ _) ?_ ?_; rotate_left; (intro w' hS; have c_1_0 := hS.cell 0 rfl 0 rfl; (first | (go_simp; done) | (go_simp; with_reducible rfl))); simp only [Act.put, List.setIfInBounds_toArray, List.set_cons_zero, List.set_cons_succ])
  -- stops at: load (Go.Op.load 3 (Go.Operand.tmp 23)) slot 24
  iterate 1 (refine wpOrd_quiet (v := ?_) (by kernel_rfl) (fun _ _ _ => hQp _ _ _ _ _) ?_ ?_; rotate_left; (intro w' hS; obtain ⟨q0, q1, q2, q3, q4, q5⟩ := hcB.out _ hS.1; (first | (go_simp; done) | (go_simp; with_reducible rfl))); simp only [Act.put, List.setIfInBounds_toArray, List.set_cons_zero, List.set_cons_succ])
  iterate 1 (refine wpOrd_quiet (v := ?_) (by kernel_rfl) (fun _ _ _ => hQp _ _ _ _ _) ?_ ?_; rotate_left; (intro w' hS; (first | (go_simp; done) | (go_simp; with_reducible rfl))); simp only [Act.put, List.setIfInBounds_toArray, List.set_cons_zero, List.set_cons_succ])
  iterate 1 (refine wpOrd_quiet (v := ?_) rfl (fun _ _ _ => hQp _ _ _ _ _) ?_ ?_; rotate_left; (intro w' hS; (first | (go_simp; done) | (go_simp; with_reducible rfl))); simp only [Act.put, List.setIfInBounds_toArray, List.set_cons_zero, List.set_cons_succ])
  refine wpOrd_nil (hQn _ _ ?_); clear hQn hQp QR
  show Code.wp _ _ _ _ _
  -- stops at: cond
  refine wp_cond_true (rfl) ?_
  refine wp_seq ?_
  repeat (first | simp only [List.nil_append] at h4 | simp only [List.cons_append] at h4 | simp only [List.set_cons_zero] at h4 | simp only [List.set_cons_succ] at h4 | simp only [List.eraseIdx_zero] at h4 | simp only [List.tail_cons] at h4 | simp only [List.eraseIdx_cons_zero] at h4 | simp only [List.eraseIdx_cons_succ] at h4 | simp only [List.setIfInBounds_toArray] at h4)
  refine h4.regionT [0, 1] (.one 0 true (.one 1 true (.one 2 true (.one 3 true (.one 4 true (.one 5 true (.one 6 true (.one 7 true (.one 8 true (.two (.one 9 false (.one 10 true (.one 11 true (.one 12 true (.one 13 false (.one 14 false (.one 15 true .nil))))))) (.one 13 false (.one 9 false (.one 10 true (.one 11 true (.one 12 true (.one 14 false (.one 15 true .nil))))))))))))))))) (by as_aux_lemma => kernel_rfl) (by as_aux_lemma => kernel_rfl) (fun w5 h5 => ?_)
  refine wpT_hide (fun _ _ d _ _ h => by cases d <;> exact h) (fun QR hQn hQp => ?_)
  dsimp only [OT.ops, List.getD_cons_zero, List.getD_cons_succ]
  iterate 4 (refine wpT_quiet (v := ?_) rfl (fun _ _ _ => hQp _ _ _ _ _) ?_ ?_; rotate_left; (intro w' hS; have c_0_0 := hS.cell 0 rfl 0 rfl; have c_0_1 := hS.cell 0 rfl 1 rfl; have c_1_0 := hS.cell 1 rfl 0 rfl; (first | (go_simp; done) | (go_simp; with_reducible rfl))); simp only [Act.put, List.setIfInBounds_toArray])
  -- stops at: load (Go.Op.load 103 (Go.Operand.tmp 31)) slot 32
  iterate 1 (refine wpT_quiet (v := ?_) rfl (fun _ _ _ => hQp _ _ _ _ _) ?_ ?_; rotate_left; (intro w' hS; obtain ⟨q0, q1, q2, q3, q4, q5⟩ := hcA.out _ hS.1; (first | (go_simp; done) | (go_simp; with_reducible rfl))); simp only [Act.put])
  iterate 3 (refine wpT_quiet (v := ?_) rfl (fun _ _ _ => hQp _ _ _ _ _) ?_ ?_; rotate_left; (intro w' hS; have c_1_0 := hS.cell 1 rfl 0 rfl; (first | (go_simp; done) | (go_simp; with_reducible rfl))); simp only [Act.put])
  -- stops at: load (Go.Op.load 103 (Go.Operand.tmp 35)) slot 36
  iterate 1 (refine wpT_quiet (v := ?_) rfl (fun _ _ _ => hQp _ _ _ _ _) ?_ ?_; rotate_left; (intro w' hS; obtain ⟨q0, q1, q2, q3, q4, q5⟩ := hcB.out _ hS.1; (first | (go_simp; done) | (go_simp; with_reducible rfl))); simp only [Act.put])
  refine wpT_two ?_ ?_
  -- stops at: fork 
  · skip
    -- stops at: eff:call (Go.Op.call {'callee': (Go.Callee.value (Go.Operand.func 51)), 'args': [(Go.Operand.tmp 28), (Go.Operand.tmp 32), (Go.Operand.tmp 36)], 'argTypes': [32, 103, 10 slot 37
    refine wpT_effQ rfl (fun K Q' hK => ?_); go_simp
    refine (rskew_ok H _ x _ _ a b h5.fits (by have := hsz.out; omega) hfA hfB).mono ?_
    rintro e wS ⟨u, H2, rfl, hpS, hu⟩
    obtain ⟨aU, cU, aW, cW, r3, z3, rfl, hr3, hz3, hb3, hk3⟩ := hu.form
    have h6 := h5.call0 hpS
    refine hK _ _ (h6.sat' hpS.le [0, 1] (by kernel_rfl)) ?_; clear hK K; try clear Q'
    iterate 3 (refine wpT_quiet (v := ?_) rfl (fun _ _ _ => hQp _ _ _ _ _) ?_ ?_; rotate_left; (intro w' hS; (first | (go_simp; done) | (go_simp; with_reducible rfl))); simp only [Act.put, List.setIfInBounds_toArray])
    refine wpT_effQ rfl (fun K Q' hK => ?_); go_simp
    refine h6.k_alloc (fun w7 h7 => ?_)
    refine hK _ _ (h7.sat' hpS.le [0, 1] (by kernel_rfl)) ?_; clear hK K; try clear Q'
    have c_0 := h7.cell 3 rfl 0 rfl
    have f_0 := h7.free 3 rfl 0
    have c_1 := h7.cell 3 rfl 1 rfl
    have f_1 := h7.free 3 rfl 1
    have c_2 := h7.cell 3 rfl 2 rfl
    have f_2 := h7.free 3 rfl 2
    have c_3 := h7.cell 3 rfl 3 rfl
    have f_3 := h7.free 3 rfl 3
    have c_4 := h7.cell 3 rfl 4 rfl
    have f_4 := h7.free 3 rfl 4
    have c_5 := h7.cell 3 rfl 5 rfl
    have f_5 := h7.free 3 rfl 5
    refine wpT_effQ rfl (fun K Q' hK => ?_); go_simp
    clear c_0 f_0 c_1 f_1 c_2 f_2 c_3 f_3 c_4 f_4 c_5 f_5
    refine (((((h7.set (i := 3) rfl 0 _).set (i := 3) rfl 1 _).set (i := 3) rfl 2 _).set (i := 3) rfl 3 _).set (i := 3) rfl 4 _).k_set 3 rfl (fun w8 h8 => ?_)
    refine hK _ _ (h8.sat' hpS.le [0, 1] (by kernel_rfl)) ?_; clear hK K; try clear Q'
    iterate 1 (refine wpT_quiet (v := ?_) rfl (fun _ _ _ => hQp _ _ _ _ _) ?_ ?_; rotate_left; (intro w' hS; (first | (go_simp; done) | (go_simp; with_reducible rfl))); simp only [Act.put, List.setIfInBounds_toArray])
    refine wpT_nil (hQn _ _ ?_); clear hQn hQp QR
    show Code.wp _ _ _ _ _
    refine wp_seq ?_
    repeat (first | simp only [List.nil_append] at h8 | simp only [List.cons_append] at h8 | simp only [List.set_cons_zero] at h8 | simp only [List.set_cons_succ] at h8 | simp only [List.eraseIdx_zero] at h8 | simp only [List.tail_cons] at h8 | simp only [List.eraseIdx_cons_zero] at h8 | simp only [List.eraseIdx_cons_succ] at h8 | simp only [List.setIfInBounds_toArray] at h8)
    refine wp_region_lit ?_
    have c_3_0 := h8.cell 3 rfl 0 rfl
    have c_3_1 := h8.cell 3 rfl 1 rfl
    have c_3_2 := h8.cell 3 rfl 2 rfl
    have c_3_3 := h8.cell 3 rfl 3 rfl
    have c_3_4 := h8.cell 3 rfl 4 rfl
    have c_3_5 := h8.cell 3 rfl 5 rfl
    iterate 1 (refine wpList_plainQ rfl (fun K Q' hK => ?_); go_simp; refine hK _ _ ?_; clear hK K; try clear Q')
    clear c_3_0 c_3_1 c_3_2 c_3_3 c_3_4 c_3_5
    refine wpList_plainQ rfl (fun K Q' hK => ?_); go_simp
    refine h8.k_alloc (fun w9 h9 => ?_)
    refine hK _ _ ?_; clear hK K; try clear Q'
    iterate 1 (refine wpList_plainQ rfl (fun K Q' hK => ?_); go_simp; refine hK _ _ ?_; clear hK K; try clear Q')
    refine wpList_nil ?_
    show Code.wp _ _ _ _ _
    refine wp_seq ?_
    repeat (first | simp only [List.nil_append] at h9 | simp only [List.cons_append] at h9 | simp only [List.set_cons_zero] at h9 | simp only [List.set_cons_succ] at h9 | simp only [List.eraseIdx_zero] at h9 | simp only [List.tail_cons] at h9 | simp only [List.eraseIdx_cons_zero] at h9 | simp only [List.eraseIdx_cons_succ] at h9 | simp only [List.setIfInBounds_toArray] at h9)
    refine wp_region_lit ?_
    have c_1_0 := h9.cell 1 rfl 0 rfl
    iterate 4 (refine wpList_plainQ rfl (fun K Q' hK => ?_); go_simp; refine hK _ _ ?_; clear hK K; try clear Q')
    clear c_1_0
    -- stops at: eff:Builtin.append (Go.Op.call {'callee': (Go.Callee.builtin Go.Builtin.append), 'args': [(Go.Operand.tmp 42), (Go.Operand.tmp 45)], 'argTypes': [33, 33]}) slot 46
    have hR := h9.rowOf 4 rfl 6 1 rfl (by unfold maxLen; omega)
    refine wpList_plainQ rfl (fun K Q' hK => ?_)
    obtain ⟨cs, hv1, hv2⟩ := hre.mono hpS.le
    refine hR.op_append_rep 0 rfl rfl infoTT rfl cs rfl hv1 (TV.one hv2) (by have := hnr.out; omega) (by have := hnr.out; unfold maxLen; omega) (fun v1 wB hB => ?_)
    refine hK _ _ ?_; clear hK K; try clear Q'
    obtain ⟨aV, cV, rfl⟩ := hB.row_form 0 rfl
    obtain ⟨H6, h6, rA, leA⟩ := hB.settleRow 0 rfl
    iterate 1 (refine wpList_plainQ rfl (fun K Q' hK => ?_); go_simp; refine hK _ _ ?_; clear hK K; try clear Q')
    refine wpList_nil ?_
    show Code.wp _ _ _ _ _
    refine wp_seq ?_
    repeat (first | simp only [List.nil_append] at h6 | simp only [List.cons_append] at h6 | simp only [List.set_cons_zero] at h6 | simp only [List.set_cons_succ] at h6 | simp only [List.eraseIdx_zero] at h6 | simp only [List.tail_cons] at h6 | simp only [List.eraseIdx_cons_zero] at h6 | simp only [List.eraseIdx_cons_succ] at h6 | simp only [List.setIfInBounds_toArray] at h6)
    refine wp_region_lit ?_
    iterate 3 (refine wpList_plainQ rfl (fun K Q' hK => ?_); go_simp; refine hK _ _ ?_; clear hK K; try clear Q')
    have c_0 := h6.cell 2 rfl 0 rfl
    have f_0 := h6.free 2 rfl 0
    refine wpList_plainQ rfl (fun K Q' hK => ?_); go_simp
    clear c_0 f_0
    refine h6.k_set 2 rfl (fun w10 h10 => ?_)
    refine hK _ _ ?_; clear hK K; try clear Q'
    iterate 1 (refine wpList_plainQ rfl (fun K Q' hK => ?_); go_simp; refine hK _ _ ?_; clear hK K; try clear Q')
    refine wpList_nil ?_
    show Code.wp _ _ _ _ _
    -- stops at: ret
    refine wp_ret ?_
    have r_2_0 := h10.cell 2 rfl 0 rfl
    first | show bodyPost _ _ _ _ _ _ | (simp only [Exit.then]; show bodyPost _ _ _ _ _ _) | (simp only [Exit.inBlock]; show bodyPost _ _ _ _ _ _) | (simp only [Exit.inBlock, Exit.then]; show bodyPost _ _ _ _ _ _) | (simp only [Exit.noGoto, Exit.inBlock, Exit.then]; show bodyPost _ _ _ _ _ _)
    refine bodyPost_ret (v := ?_) ?_ rfl ?_
    rotate_left
    · simp only [results, Tryz.results27]; go_simp; with_reducible rfl
    clear r_2_0
    refine ⟨_, H6, by rw [hst]; rfl, h10.post, ?_⟩
    rw [heq]
    refine ⟨_, ?_, TV.push hr3 hz3 (hb3.mono leA) (hk3.mono leA) (hv2.mono leA)⟩
    show SliceRep H6 6 _ (_ + 1) _
    rw [Nat.add_comm _ 1]
    exact rA
  · skip
    refine wpT_effQ rfl (fun K Q' hK => ?_); go_simp
    refine h5.k_alloc (fun w11 h11 => ?_)
    refine hK _ _ (h11.sat' (GH.le_refl _) [0, 1] (by kernel_rfl)) ?_; clear hK K; try clear Q'
    -- stops at: eff:call (Go.Op.call {'callee': (Go.Callee.value (Go.Operand.func 51)), 'args': [(Go.Operand.tmp 28), (Go.Operand.tmp 32), (Go.Operand.tmp 36)], 'argTypes': [32, 103, 10 slot 37
    refine wpT_effQ rfl (fun K Q' hK => ?_); go_simp
    refine (rskew_ok H _ x _ _ a b h11.fits (by have := hsz.out; omega) hfA hfB).mono ?_
    rintro e wS ⟨u, H2, rfl, hpS, hu⟩
    obtain ⟨aU, cU, aW, cW, r3, z3, rfl, hr3, hz3, hb3, hk3⟩ := hu.form
    have h12 := h11.call0 hpS
    refine hK _ _ (h12.sat' hpS.le [0, 1] (by kernel_rfl)) ?_; clear hK K; try clear Q'
    iterate 3 (refine wpT_quiet (v := ?_) rfl (fun _ _ _ => hQp _ _ _ _ _) ?_ ?_; rotate_left; (intro w' hS; (first | (go_simp; done) | (go_simp; with_reducible rfl))); simp only [Act.put, List.setIfInBounds_toArray])
    have c_0 := h12.cell 3 rfl 0 rfl
    have f_0 := h12.free 3 rfl 0
    have c_1 := h12.cell 3 rfl 1 rfl
    have f_1 := h12.free 3 rfl 1
    have c_2 := h12.cell 3 rfl 2 rfl
    have f_2 := h12.free 3 rfl 2
    have c_3 := h12.cell 3 rfl 3 rfl
    have f_3 := h12.free 3 rfl 3
    have c_4 := h12.cell 3 rfl 4 rfl
    have f_4 := h12.free 3 rfl 4
    have c_5 := h12.cell 3 rfl 5 rfl
    have f_5 := h12.free 3 rfl 5
    refine wpT_effQ rfl (fun K Q' hK => ?_); go_simp
    clear c_0 f_0 c_1 f_1 c_2 f_2 c_3 f_3 c_4 f_4 c_5 f_5
    refine (((((h12.set (i := 3) rfl 0 _).set (i := 3) rfl 1 _).set (i := 3) rfl 2 _).set (i := 3) rfl 3 _).set (i := 3) rfl 4 _).k_set 3 rfl (fun w13 h13 => ?_)
    refine hK _ _ (h13.sat' hpS.le [0, 1] (by kernel_rfl)) ?_; clear hK K; try clear Q'
    iterate 1 (refine wpT_quiet (v := ?_) rfl (fun _ _ _ => hQp _ _ _ _ _) ?_ ?_; rotate_left; (intro w' hS; (first | (go_simp; done) | (go_simp; with_reducible rfl))); simp only [Act.put, List.setIfInBounds_toArray])
    refine wpT_nil (hQn _ _ ?_); clear hQn hQp QR
    show Code.wp _ _ _ _ _
    refine wp_seq ?_
    repeat (first | simp only [List.nil_append] at h13 | simp only [List.cons_append] at h13 | simp only [List.set_cons_zero] at h13 | simp only [List.set_cons_succ] at h13 | simp only [List.eraseIdx_zero] at h13 | simp only [List.tail_cons] at h13 | simp only [List.eraseIdx_cons_zero] at h13 | simp only [List.eraseIdx_cons_succ] at h13 | simp only [List.setIfInBounds_toArray] at h13)
    refine wp_region_lit ?_
    have c_3_0 := h13.cell 3 rfl 0 rfl
    have c_3_1 := h13.cell 3 rfl 1 rfl
    have c_3_2 := h13.cell 3 rfl 2 rfl
    have c_3_3 := h13.cell 3 rfl 3 rfl
    have c_3_4 := h13.cell 3 rfl 4 rfl
    have c_3_5 := h13.cell 3 rfl 5 rfl
    iterate 1 (refine wpList_plainQ rfl (fun K Q' hK => ?_); go_simp; refine hK _ _ ?_; clear hK K; try clear Q')
    clear c_3_0 c_3_1 c_3_2 c_3_3 c_3_4 c_3_5
    refine wpList_plainQ rfl (fun K Q' hK => ?_); go_simp
    refine h13.k_alloc (fun w14 h14 => ?_)
    refine hK _ _ ?_; clear hK K; try clear Q'
    iterate 1 (refine wpList_plainQ rfl (fun K Q' hK => ?_); go_simp; refine hK _ _ ?_; clear hK K; try clear Q')
    refine wpList_nil ?_
    show Code.wp _ _ _ _ _
    refine wp_seq ?_
    repeat (first | simp only [List.nil_append] at h14 | simp only [List.cons_append] at h14 | simp only [List.set_cons_zero] at h14 | simp only [List.set_cons_succ] at h14 | simp only [List.eraseIdx_zero] at h14 | simp only [List.tail_cons] at h14 | simp only [List.eraseIdx_cons_zero] at h14 | simp only [List.eraseIdx_cons_succ] at h14 | simp only [List.setIfInBounds_toArray] at h14)
    refine wp_region_lit ?_
    have c_1_0 := h14.cell 1 rfl 0 rfl
    iterate 4 (refine wpList_plainQ rfl (fun K Q' hK => ?_); go_simp; refine hK _ _ ?_; clear hK K; try clear Q')
    clear c_1_0
    -- stops at: eff:Builtin.append (Go.Op.call {'callee': (Go.Callee.builtin Go.Builtin.append), 'args': [(Go.Operand.tmp 42), (Go.Operand.tmp 45)], 'argTypes': [33, 33]}) slot 46
    have hR := h14.rowOf 4 rfl 6 1 rfl (by unfold maxLen; omega)
    refine wpList_plainQ rfl (fun K Q' hK => ?_)
    obtain ⟨cs, hv1, hv2⟩ := hre.mono hpS.le
    refine hR.op_append_rep 0 rfl rfl infoTT rfl cs rfl hv1 (TV.one hv2) (by have := hnr.out; omega) (by have := hnr.out; unfold maxLen; omega) (fun v1 wB hB => ?_)
    refine hK _ _ ?_; clear hK K; try clear Q'
    obtain ⟨aV, cV, rfl⟩ := hB.row_form 0 rfl
    obtain ⟨H6, h6, rA, leA⟩ := hB.settleRow 0 rfl
    iterate 1 (refine wpList_plainQ rfl (fun K Q' hK => ?_); go_simp; refine hK _ _ ?_; clear hK K; try clear Q')
    refine wpList_nil ?_
    show Code.wp _ _ _ _ _
    refine wp_seq ?_
    repeat (first | simp only [List.nil_append] at h6 | simp only [List.cons_append] at h6 | simp only [List.set_cons_zero] at h6 | simp only [List.set_cons_succ] at h6 | simp only [List.eraseIdx_zero] at h6 | simp only [List.tail_cons] at h6 | simp only [List.eraseIdx_cons_zero] at h6 | simp only [List.eraseIdx_cons_succ] at h6 | simp only [List.setIfInBounds_toArray] at h6)
    refine wp_region_lit ?_
    iterate 3 (refine wpList_plainQ rfl (fun K Q' hK => ?_); go_simp; refine hK _ _ ?_; clear hK K; try clear Q')
    have c_0 := h6.cell 2 rfl 0 rfl
    have f_0 := h6.free 2 rfl 0
    refine wpList_plainQ rfl (fun K Q' hK => ?_); go_simp
    clear c_0 f_0
    refine h6.k_set 2 rfl (fun w15 h15 => ?_)
    refine hK _ _ ?_; clear hK K; try clear Q'
    iterate 1 (refine wpList_plainQ rfl (fun K Q' hK => ?_); go_simp; refine hK _ _ ?_; clear hK K; try clear Q')
    refine wpList_nil ?_
    show Code.wp _ _ _ _ _
    -- stops at: ret
    refine wp_ret ?_
    have r_2_0 := h15.cell 2 rfl 0 rfl
    first | show bodyPost _ _ _ _ _ _ | (simp only [Exit.then]; show bodyPost _ _ _ _ _ _) | (simp only [Exit.inBlock]; show bodyPost _ _ _ _ _ _) | (simp only [Exit.inBlock, Exit.then]; show bodyPost _ _ _ _ _ _) | (simp only [Exit.noGoto, Exit.inBlock, Exit.then]; show bodyPost _ _ _ _ _ _)
    refine bodyPost_ret (v := ?_) ?_ rfl ?_
    rotate_left
    · simp only [results, Tryz.results27]; go_simp; with_reducible rfl
    clear r_2_0
    refine ⟨_, H6, by rw [hst]; rfl, h15.post, ?_⟩
    rw [heq]
    refine ⟨_, ?_, TV.push hr3 hz3 (hb3.mono leA) (hk3.mono leA) (hv2.mono leA)⟩
    show SliceRep H6 6 _ (_ + 1) _
    rw [Nat.add_comm _ 1]
    exact rA
set_option maxRecDepth 100000 in
set_option maxHeartbeats 4000000 in
theorem r9ins_ne (H : GH) (w : World) (x : El) (v : Value) (a b : Tr El) (r : List (Tr El)) (hf : Fits w H) (hn : Rw.size (a :: b :: r) < 900000) (hv : RsV H v (a :: b :: r)) (hrk : ¬ a.rank = b.rank) :
    Calls Tryz.prog 27 #[elV x, .agg #[v]] w fun e w' => ∃ q' H', e = .returned (.tuple #[.agg #[q'], .int .i64 (Sk.insC (a :: b :: r) + Sk.insD (a :: b :: r) : Nat)]) ∧ Post w H none w' H' 0 0 ∧ RsV H' q' (Sk.insert kf x (a :: b :: r)) := by
  have hpre : Pre w H none 0 0 := Pre.none hf 0 0
  have hv' := hv
  obtain ⟨b0, o0, cap0, nn, vS, rfl, hnn, hn1, hn0, hcap0, hvS, hrest⟩ := hv.cons
  obtain ⟨aF, cF, aG, cG, r1, z1, hcA, hr1, hfA⟩ := hv.head
  obtain ⟨bvB, kvB, r2, z2, hcB0, hr2, hz2, hbB, hkB⟩ := hv.at 1 (t := b) rfl
  have hfB : TrV H (tV r2 b.x bvB kvB z2) b := ⟨bvB, kvB, r2, z2, rfl, hr2, hz2, hbB, hkB⟩
  obtain ⟨aM, cM, rfl, _, _⟩ := hbB.nil_or
  obtain ⟨aN, cN, rfl, _, _⟩ := hkB.form
  have hcB : Hid (∀ W, Fits W H → W.cell? ⟨b0, o0 + 6, none⟩ = some (.int .i64 (r2 : Int)) ∧ W.cell? ⟨b0, o0 + 7, none⟩ = some (.int .i64 b.x.1) ∧ W.cell? ⟨b0, o0 + 8, none⟩ = some (.int .i64 b.x.2) ∧ W.cell? ⟨b0, o0 + 9, none⟩ = some (.slice aM b.b.length cM) ∧ W.cell? ⟨b0, o0 + 10, none⟩ = some (.slice aN b.k.toL.length cN) ∧ W.cell? ⟨b0, o0 + 11, none⟩ = some (.int .i64 (z2 : Int))) := fun W hF => by
    have := hcB0.out W hF
    simpa [Nat.add_assoc] using this
  have hsz : Hid (a.size + (b.size + Rw.size r) < 900000) := by rw [Rw.size_cons, Rw.size_cons] at hn; exact hn
  have hnr : Hid (nn = r.length + 2) := by have := hnn.out; show _ = _; simp at this; omega
  have hn2 : (1 : Int) < (nn : Int) := by have := hnr.out; omega
  have hlb : nn < 1000000 := by have := hnr.out; have := Rw.length_le r; have := hsz.out; omega
  have dn : decide (1 < nn) = true := decide_eq_true (by omega)
  have d1 : ((r1 : Int) == (r2 : Int)) = false := beq_eq_false_iff_ne.2 (by have := hr1.out; have := hr2.out; omega)
  have heq := Sk.insert_ne kf (x := x) r hrk
  have hst : Sk.insC (a :: b :: r) + Sk.insD (a :: b :: r) = 1 := by simp only [Sk.insC, Sk.insD, if_neg hrk]
  have hlb' : (a :: b :: r).length < 1000000 := by have := hnr.out; simp; omega
  go_enter Tryz.func27, Tryz.ntmps27
  have h0 := St.start hpre
  refine wp_seq ?_
  repeat (first | simp only [List.nil_append] at h0 | simp only [List.cons_append] at h0 | simp only [List.set_cons_zero] at h0 | simp only [List.set_cons_succ] at h0 | simp only [List.eraseIdx_zero] at h0 | simp only [List.tail_cons] at h0 | simp only [List.eraseIdx_cons_zero] at h0 | simp only [List.eraseIdx_cons_succ] at h0 | simp only [List.setIfInBounds_toArray] at h0)
  refine wp_region_lit ?_
  refine wpList_plainQ rfl (fun K Q' hK => ?_); go_simp
  refine h0.k_alloc (fun w1 h1 => ?_)
  refine hK _ _ ?_; clear hK K; try clear Q'
  refine wpList_plainQ rfl (fun K Q' hK => ?_); go_simp
  refine h1.k_alloc (fun w2 h2 => ?_)
  refine hK _ _ ?_; clear hK K; try clear Q'
  refine wpList_plainQ rfl (fun K Q' hK => ?_); go_simp
  refine h2.k_alloc (fun w3 h3 => ?_)
  refine hK _ _ ?_; clear hK K; try clear Q'
  iterate 1 (refine wpList_plainQ rfl (fun K Q' hK => ?_); go_simp; refine hK _ _ ?_; clear hK K; try clear Q')
  refine wpList_nil ?_
  show Code.wp _ _ _ _ _
  refine wp_seq ?_
  refine wp_seq ?_
  repeat (first | simp only [List.nil_append] at h3 | simp only [List.cons_append] at h3 | simp only [List.set_cons_zero] at h3 | simp only [List.set_cons_succ] at h3 | simp only [List.eraseIdx_zero] at h3 | simp only [List.tail_cons] at h3 | simp only [List.eraseIdx_cons_zero] at h3 | simp only [List.eraseIdx_cons_succ] at h3 | simp only [List.setIfInBounds_toArray] at h3)
  refine h3.region [1] [(0, true), (1, true), (2, true), (3, true), (4, true), (5, true), (6, true), (7, true), (8, true), (9, true), (10, true), (11, true), (12, true), (13, true), (14, true), (15, true), (16, true)] (by kernel_rfl) (by kernel_rfl) (fun w4 h4 => ?_)
  refine wpOrd_hide (fun _ _ d _ _ h => by cases d <;> exact h) (fun QR hQn hQp => ?_)
  simp only [ordOps, List.map_cons, List.map_nil, List.getD_cons_zero, List.getD_cons_succ]
  iterate 5 (refine wpOrd_quiet (v := ?_) rfl (fun _ _ _ => hQp _ _ _ _ _) ?_ ?_; rotate_left; (intro w' hS; have c_1_0 := hS.cell 0 rfl 0 rfl; (first | (go_simp; done) | (go_simp; with_reducible rfl))); simp only [Act.put, List.setIfInBounds_toArray, List.set_cons_zero, List.set_cons_succ])
  iterate 4 (refine wpOrd_quiet (v := ?_) (by kernel_rfl) (fun _ _ _ => hQp _ _ _ _ _) ?_ ?_; rotate_left; (intro w' hS; have c_1_0 := hS.cell 0 rfl 0 rfl; (first | (go_simp; done) | (go_simp; with_reducible rfl))); simp only [Act.put, List.setIfInBounds_toArray, List.set_cons_zero, List.set_cons_succ])
  -- stops at: load (Go.Op.load 3 (Go.Operand.tmp 18)) slot 19
  iterate 1 (refine wpOrd_quiet (v := ?_) (by kernel_rfl) (fun _ _ _ => hQp _ _ _ _ _) ?_ ?_; rotate_left; (intro w' hS; obtain ⟨q0, q1, q2, q3, q4, q5⟩ := hcA.out _ hS.1; (first | (go_simp; done) | (go_simp; with_reducible rfl))); simp only [Act.put, List.setIfInBounds_toArray, List.set_cons_zero, List.set_cons_succ])
  iterate 4 (refine wpOrd_quiet (v := ?_) (by kernel_rfl) (fun _ _ _ => hQp _ _ _ _ _) ?_ ?_; rotate_left; (intro w' hS; have c_1_0 := hS.cell 0 rfl 0 rfl; (first | (go_simp; done) | (go_simp; with_reducible rfl))); simp only [Act.put, List.setIfInBounds_toArray, List.set_cons_zero, List.set_cons_succ])
  -- stops at: load (Go.Op.load 3 (Go.Operand.tmp 23)) slot 24
  iterate 1 (refine wpOrd_quiet (v := ?_) (by kernel_rfl) (fun _ _ _ => hQp _ _ _ _ _) ?_ ?_; rotate_left; (intro w' hS; obtain ⟨q0, q1, q2, q3, q4, q5⟩ := hcB.out _ hS.1; (first | (go_simp; done) | (go_simp; with_reducible rfl))); simp only [Act.put, List.setIfInBounds_toArray, List.set_cons_zero, List.set_cons_succ])
  iterate 1 (refine wpOrd_quiet (v := ?_) (by kernel_rfl) (fun _ _ _ => hQp _ _ _ _ _) ?_ ?_; rotate_left; (intro w' hS; (first | (go_simp; done) | (go_simp; with_reducible rfl))); simp only [Act.put, List.setIfInBounds_toArray, List.set_cons_zero, List.set_cons_succ])
  iterate 1 (refine wpOrd_quiet (v := ?_) rfl (fun _ _ _ => hQp _ _ _ _ _) ?_ ?_; rotate_left; (intro w' hS; (first | (go_simp; done) | (go_simp; with_reducible rfl))); simp only [Act.put, List.setIfInBounds_toArray, List.set_cons_zero, List.set_cons_succ])
  refine wpOrd_nil (hQn _ _ ?_); clear hQn hQp QR
  show Code.wp _ _ _ _ _
  -- stops at: cond
  refine wp_cond_false (rfl) ?_
  refine wp_skip ?_
  show Code.wp _ _ _ _ _
  refine wp_seq ?_
  repeat (first | simp only [List.nil_append] at h4 | simp only [List.cons_append] at h4 | simp only [List.set_cons_zero] at h4 | simp only [List.set_cons_succ] at h4 | simp only [List.eraseIdx_zero] at h4 | simp only [List.tail_cons] at h4 | simp only [List.eraseIdx_cons_zero] at h4 | simp only [List.eraseIdx_cons_succ] at h4 | simp only [List.setIfInBounds_toArray] at h4)
  refine wp_region_lit ?_
  have c_0_0 := h4.cell 0 rfl 0 rfl
  have c_0_1 := h4.cell 0 rfl 1 rfl
  iterate 1 (refine wpList_plainQ rfl (fun K Q' hK => ?_); go_simp; refine hK _ _ ?_; clear hK K; try clear Q')
  clear c_0_0 c_0_1
  -- stops at: eff:call (Go.Op.call {'callee': (Go.Callee.value (Go.Operand.func 52)), 'args': [(Go.Operand.tmp 50)], 'argTypes': [32]}) slot 51
  refine wpList_plainQ rfl (fun K Q' hK => ?_); go_simp
  refine (rleaf_ok H _ x h4.fits).mono ?_
  rintro e wA ⟨u, rfl, hkA, hu⟩
  obtain ⟨aB, cB, aK, cK, r1, z1, rfl, hr1, hz1, hb1, hk1⟩ := hu.form
  have h5 := h4.callk hkA
  refine hK _ _ ?_; clear hK K; try clear Q'
  refine wpList_plainQ rfl (fun K Q' hK => ?_); go_simp
  refine h5.k_alloc (fun w6 h6 => ?_)
  refine hK _ _ ?_; clear hK K; try clear Q'
  iterate 1 (refine wpList_plainQ rfl (fun K Q' hK => ?_); go_simp; refine hK _ _ ?_; clear hK K; try clear Q')
  refine wpList_nil ?_
  show Code.wp _ _ _ _ _
  refine wp_seq ?_
  repeat (first | simp only [List.nil_append] at h6 | simp only [List.cons_append] at h6 | simp only [List.set_cons_zero] at h6 | simp only [List.set_cons_succ] at h6 | simp only [List.eraseIdx_zero] at h6 | simp only [List.tail_cons] at h6 | simp only [List.eraseIdx_cons_zero] at h6 | simp only [List.eraseIdx_cons_succ] at h6 | simp only [List.setIfInBounds_toArray] at h6)
  refine wp_region_lit ?_
  have c_1_0 := h6.cell 1 rfl 0 rfl
  iterate 3 (refine wpList_plainQ rfl (fun K Q' hK => ?_); go_simp; refine hK _ _ ?_; clear hK K; try clear Q')
  clear c_1_0
  -- stops at: eff:Builtin.append (Go.Op.call {'callee': (Go.Callee.builtin Go.Builtin.append), 'args': [(Go.Operand.tmp 53), (Go.Operand.tmp 55)], 'argTypes': [33, 33]}) slot 56
  have hR := h6.rowOf 3 rfl 6 1 rfl (by unfold maxLen; omega)
  refine wpList_plainQ rfl (fun K Q' hK => ?_)
  obtain ⟨cs, hv1, hv2⟩ := hv'
  refine hR.op_append_rep 0 rfl rfl infoTT rfl cs rfl hv1 (TV.one hv2) (by omega) (by unfold maxLen; omega) (fun v1 wB hB => ?_)
  refine hK _ _ ?_; clear hK K; try clear Q'
  obtain ⟨aV, cV, rfl⟩ := hB.row_form 0 rfl
  obtain ⟨H6, h6, rA, leA⟩ := hB.settleRow 0 rfl
  iterate 1 (refine wpList_plainQ rfl (fun K Q' hK => ?_); go_simp; refine hK _ _ ?_; clear hK K; try clear Q')
  refine wpList_nil ?_
  show Code.wp _ _ _ _ _
  refine wp_seq ?_
  refine wp_region_lit ?_
  iterate 2 (refine wpList_plainQ rfl (fun K Q' hK => ?_); go_simp; refine hK _ _ ?_; clear hK K; try clear Q')
  have c_0 := h6.cell 2 rfl 0 rfl
  have f_0 := h6.free 2 rfl 0
  refine wpList_plainQ rfl (fun K Q' hK => ?_); go_simp
  clear c_0 f_0
  refine h6.k_set 2 rfl (fun w7 h7 => ?_)
  refine hK _ _ ?_; clear hK K; try clear Q'
  iterate 1 (refine wpList_plainQ rfl (fun K Q' hK => ?_); go_simp; refine hK _ _ ?_; clear hK K; try clear Q')
  refine wpList_nil ?_
  show Code.wp _ _ _ _ _
  -- stops at: ret
  refine wp_ret ?_
  have r_2_0 := h7.cell 2 rfl 0 rfl
  first | show bodyPost _ _ _ _ _ _ | (simp only [Exit.then]; show bodyPost _ _ _ _ _ _) | (simp only [Exit.inBlock]; show bodyPost _ _ _ _ _ _) | (simp only [Exit.inBlock, Exit.then]; show bodyPost _ _ _ _ _ _) | (simp only [Exit.noGoto, Exit.inBlock, Exit.then]; show bodyPost _ _ _ _ _ _)
  refine bodyPost_ret (v := ?_) ?_ rfl ?_
  rotate_left
  · simp only [results, Tryz.results27]; go_simp; with_reducible rfl
  clear r_2_0
  refine ⟨_, H6, (by rw [hst]; rfl), h7.post, ?_⟩
  rw [heq]
  refine ⟨_, ?_, TV.push hr1 hz1 (hb1.mono leA) (hk1.mono leA) (hv2.mono leA)⟩
  show SliceRep H6 6 _ ((a :: b :: r).length + 1) _
  rw [Nat.add_comm (a :: b :: r).length 1]
  exact rA
theorem r9insert_ok (H : GH) (w : World) (x : El) (v : Value) (l : List (Tr El)) (hf : Fits w H) (hn : Rw.size l < 900000) (hv : RsV H v l) :
    Calls Tryz.prog 27 #[elV x, .agg #[v]] w fun e w' => ∃ q' H', e = .returned (.tuple #[.agg #[q'], .int .i64 (Sk.insC l + Sk.insD l : Nat)]) ∧ Post w H none w' H' 0 0 ∧ RsV H' q' (Sk.insert kf x l) := by
  match l, hn, hv with
  | [], hn, hv => exact r9ins_nil H w x v hf hn hv
  | [a], hn, hv => exact r9ins_one H w x v a hf hn hv
  | a :: b :: r, hn, hv =>
    by_cases hrk : a.rank = b.rank
    · exact r9ins_eq H w x v a b r hf hn hv hrk
    · exact r9ins_ne H w x v a b r hf hn hv hrk
end Go.Proofs.YteigmfkkeofcaaaGreatDoor
