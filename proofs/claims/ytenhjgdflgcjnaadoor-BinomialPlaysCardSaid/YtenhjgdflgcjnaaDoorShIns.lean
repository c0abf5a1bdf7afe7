/-
The document's heaps of rows of trees: putting in, melding.
-/
import Derived.Test.YtenhjgdflgcjnaaDoorSgRef
import Derived.Test.YtenhjgdflgcjnaaDoorMdSkew
namespace Go.Proofs.YtenhjgdflgcjnaaDoor
open Go Go.RowKit
set_option linter.unusedVariables false

/-- The cells of a block of the call's own, as what is appended. -/
theorem St.newsAt {w0 w : World} {H0 H : GH} {m : Option Nat} {c d : Int} {L : List (Nat × Obj)} {R : List Row} (h : St w0 H0 m c d w H L R) (i : Nat) {b : Nat} {cs : Array Value} {T : TypeId} {f : Nat × Nat} (hi : L[i]? = some (b, .cells cs T f)) :
    ∀ j u, cs.toList[j]? = some u → w.cell? ((⟨b, 0, none⟩ : Addr).add j) = some u := fun j u hj => by
  have hj' : cs[j]? = some u := by simpa using hj
  have e := h.cell i hi j hj'
  unfold Addr.add
  split
  · rename_i h0; subst h0; exact e
  · simpa using e

set_option maxRecDepth 100000 in
set_option maxHeartbeats 2000000 in
theorem r7insert_ok (H : GH) (w : World) (x : El) (v : Value) (l : List (Tr El)) (hf : Fits w H) (hn : Rw.size l < 900000) (hv : RsV H v l) :
    Calls Tryd.prog 16 #[elV x, .agg #[v]] w fun e w' => ∃ r H', e = .returned (.tuple #[.agg #[r], .int .i64 (2 * Rw.putN kf (Tr.leaf x) l + 1 : Nat)]) ∧ Post w H none w' H' 0 0 ∧ RsV H' r (Rw.put kf (Tr.leaf x) l) := by
  have hpre : Pre w H none 0 0 := Pre.none hf 0 0
  have hv' := hv
  obtain ⟨a0, c0, rfl, _, _⟩ := hv.form
  have hsz : (Tr.leaf x).size = 1 := by simp [Tr.leaf, Tr.size, Tr.els, RT.els]
  obtain ⟨pn, hpn⟩ : ∃ n, Hid (2 * Rw.putN kf (Tr.leaf x) l = n) := ⟨_, show _ = _ from rfl⟩
  obtain ⟨rr, hrr⟩ : ∃ n, Hid (pn + 1 = n) := ⟨_, show _ = _ from rfl⟩
  have hpl : pn ≤ 2 * l.length := by have h5 := Rw.put_length kf (Tr.leaf x) l; have h7 := hpn.out; have h6 := Rw.put_pos (Tr.leaf x) l; omega
  have hll := Rw.length_le l
  have e8 : IntKind.i64.wrap ((pn : Int) + 1) = (rr : Int) := by have := hrr.out; rw [IntWalk.i64_in _ (by omega)]; omega
  go_enter Tryd.func16, Tryd.ntmps16
  have h0 := St.start hpre
  refine wp_seq ?_
  repeat (first | simp only [List.nil_append] at h0 | simp only [List.cons_append] at h0 | simp only [List.set_cons_zero] at h0 | simp only [List.set_cons_succ] at h0 | simp only [List.eraseIdx_zero] at h0 | simp only [List.tail_cons] at h0 | simp only [List.eraseIdx_cons_zero] at h0 | simp only [List.eraseIdx_cons_succ] at h0 | simp only [List.setIfInBounds_toArray] at h0)
  refine wp_region_lit ?_
  refine wpList_plainQ rfl (fun K Q' hK => ?_); go_simp
  refine h0.k_alloc (fun w1 h1 => ?_)
  refine hK _ _ ?_; clear hK K; try clear Q'
  refine wpList_plainQ rfl (fun K Q' hK => ?_); go_simp
  refine h1.k_alloc (fun w2 h2 => ?_)
  refine hK _ _ ?_; clear hK K; try clear Q'
  refine wpList_plainQ rfl (fun K Q' hK => ?_); go_simp
  refine h2.k_alloc (fun w3 h3 => ?_)
  refine hK _ _ ?_; clear hK K; try clear Q'
  iterate 1 (refine wpList_plainQ rfl (fun K Q' hK => ?_); go_simp; refine hK _ _ ?_; clear hK K; try clear Q')
  refine wpList_nil ?_
  show Code.wp _ _ _ _ _
  refine wp_seq ?_
  repeat (first | simp only [List.nil_append] at h3 | simp only [List.cons_append] at h3 | simp only [List.set_cons_zero] at h3 | simp only [List.set_cons_succ] at h3 | simp only [List.eraseIdx_zero] at h3 | simp only [List.tail_cons] at h3 | simp only [List.eraseIdx_cons_zero] at h3 | simp only [List.eraseIdx_cons_succ] at h3 | simp only [List.setIfInBounds_toArray] at h3)
  refine h3.region [0, 1] [(0, true), (2, true), (3, true), (1, false), (4, false), (5, true), (6, true), (7, true), (8, true), (9, true)] (by kernel_rfl) (by kernel_rfl) (fun w4 h4 => ?_)
  refine wpOrd_hide (fun _ _ d _ _ h => by cases d <;> exact h) (fun QR hQn hQp => ?_)
  simp only [ordOps, List.map_cons, List.map_nil, List.getD_cons_zero, List.getD_cons_succ]
  iterate 3 (refine wpOrd_quiet (v := ?_) rfl (fun _ _ _ => hQp _ _ _ _ _) ?_ ?_; rotate_left; (intro w' hS; have c_0_0 := hS.cell 0 rfl 0 rfl; have c_0_1 := hS.cell 0 rfl 1 rfl; have c_1_0 := hS.cell 1 rfl 0 rfl; (first | (go_simp; done) | (go_simp; with_reducible rfl))); simp only [Act.put, List.setIfInBounds_toArray, List.set_cons_zero, List.set_cons_succ])
  -- stops at: eff:call (Go.Op.call {'callee': (Go.Callee.value (Go.Operand.func 36)), 'args': [(Go.Operand.tmp 9)], 'argTypes': [35]}) slot 10
  refine wpOrd_effQ rfl (fun K Q' hK => ?_); go_simp
  refine (rleaf_ok H _ x h4.fits).mono ?_
  rintro e wA ⟨u, rfl, hkA, hu⟩
  have hu' := hu
  obtain ⟨aB, cB, aK, cK, r1, z1, rfl, hr1, hz1, hb1, hk1⟩ := hu.form
  have h5 := h4.callk hkA
  refine hK _ _ (h5.sat' (GH.le_refl _) [0, 1] (by kernel_rfl)) ?_; clear hK K; try clear Q'
  -- stops at: eff:call (Go.Op.call {'callee': (Go.Callee.value (Go.Operand.func 35)), 'args': [(Go.Operand.tmp 10), (Go.Operand.tmp 12)], 'argTypes': [80, 44]}) slot 13
  refine wpOrd_effQ rfl (fun K Q' hK => ?_); go_simp
  refine (rput_ok l (Tr.leaf x) H _ _ _ h5.fits (by omega) hu' hv').mono ?_
  rintro e wP ⟨rP, H2, rfl, hpP, hP⟩
  rw [hpn.out]
  obtain ⟨aP, cP, rfl, _, _⟩ := hP.form
  have h6 := h5.call0 hpP
  refine hK _ _ (h6.sat' hpP.le [0, 1] (by kernel_rfl)) ?_; clear hK K; try clear Q'
  iterate 5 (refine wpOrd_quiet (v := ?_) rfl (fun _ _ _ => hQp _ _ _ _ _) ?_ ?_; rotate_left; (intro w' hS; (first | (go_simp; done) | (go_simp; with_reducible rfl))); simp only [Act.put, List.setIfInBounds_toArray, List.set_cons_zero, List.set_cons_succ])
  refine wpOrd_nil (hQn _ _ ?_); clear hQn hQp QR
  show Code.wp _ _ _ _ _
  refine wp_seq ?_
  repeat (first | simp only [List.nil_append] at h6 | simp only [List.cons_append] at h6 | simp only [List.set_cons_zero] at h6 | simp only [List.set_cons_succ] at h6 | simp only [List.eraseIdx_zero] at h6 | simp only [List.tail_cons] at h6 | simp only [List.eraseIdx_cons_zero] at h6 | simp only [List.eraseIdx_cons_succ] at h6 | simp only [List.setIfInBounds_toArray] at h6)
  refine wp_region_lit ?_
  iterate 4 (refine wpList_plainQ rfl (fun K Q' hK => ?_); go_simp; refine hK _ _ ?_; clear hK K; try clear Q')
  have c_0 := h6.cell 2 rfl 0 rfl
  have f_0 := h6.free 2 rfl 0
  refine wpList_plainQ rfl (fun K Q' hK => ?_); go_simp
  clear c_0 f_0
  refine h6.k_set 2 rfl (fun w7 h7 => ?_)
  refine hK _ _ ?_; clear hK K; try clear Q'
  iterate 1 (refine wpList_plainQ rfl (fun K Q' hK => ?_); go_simp; refine hK _ _ ?_; clear hK K; try clear Q')
  refine wpList_nil ?_
  show Code.wp _ _ _ _ _
  -- stops at: ret
  refine wp_ret ?_
  have r_2_0 := h7.cell 2 rfl 0 rfl
  first | show bodyPost _ _ _ _ _ _ | (simp only [Exit.then]; show bodyPost _ _ _ _ _ _) | (simp only [Exit.inBlock]; show bodyPost _ _ _ _ _ _) | (simp only [Exit.inBlock, Exit.then]; show bodyPost _ _ _ _ _ _) | (simp only [Exit.noGoto, Exit.inBlock, Exit.then]; show bodyPost _ _ _ _ _ _)
  refine bodyPost_ret (v := ?_) ?_ rfl ?_
  rotate_left
  · simp only [results, Tryd.results16]; go_simp; with_reducible rfl
  clear r_2_0
  refine ⟨_, H2, ?_, h7.post, hP⟩
  rw [show 2 * Rw.putN kf (Tr.leaf x) l + 1 = rr by have h5 := hpn.out; have h6 := hrr.out; omega]
set_option maxRecDepth 100000 in
set_option maxHeartbeats 2000000 in
theorem r7meld_ok (H : GH) (w : World) (u v : Value) (a b : List (Tr El)) (hf : Fits w H) (hn : Rw.size a + Rw.size b < 900000) (ha : RsV H u a) (hb : RsV H v b) :
    Calls Tryd.prog 18 #[.agg #[u], .agg #[v]] w fun e w' => ∃ r H', e = .returned (.tuple #[.agg #[r], .int .i64 (2 * Rw.meldN kf a b : Nat)]) ∧ Post w H none w' H' 0 0 ∧ RsV H' r (Rw.meld kf a b) := by
  have hpre : Pre w H none 0 0 := Pre.none hf 0 0
  have ha' := ha
  have hb' := hb
  obtain ⟨a0, c0, rfl, _, _⟩ := ha.form
  obtain ⟨a1, c1, rfl, _, _⟩ := hb.form
  obtain ⟨mn, hmn⟩ : ∃ n, Hid (2 * Rw.meldN kf a b = n) := ⟨_, show _ = _ from rfl⟩
  go_enter Tryd.func18, Tryd.ntmps18
  have h0 := St.start hpre
  refine wp_seq ?_
  repeat (first | simp only [List.nil_append] at h0 | simp only [List.cons_append] at h0 | simp only [List.set_cons_zero] at h0 | simp only [List.set_cons_succ] at h0 | simp only [List.eraseIdx_zero] at h0 | simp only [List.tail_cons] at h0 | simp only [List.eraseIdx_cons_zero] at h0 | simp only [List.eraseIdx_cons_succ] at h0 | simp only [List.setIfInBounds_toArray] at h0)
  refine wp_region_lit ?_
  refine wpList_plainQ rfl (fun K Q' hK => ?_); go_simp
  refine h0.k_alloc (fun w1 h1 => ?_)
  refine hK _ _ ?_; clear hK K; try clear Q'
  refine wpList_plainQ rfl (fun K Q' hK => ?_); go_simp
  refine h1.k_alloc (fun w2 h2 => ?_)
  refine hK _ _ ?_; clear hK K; try clear Q'
  refine wpList_plainQ rfl (fun K Q' hK => ?_); go_simp
  refine h2.k_alloc (fun w3 h3 => ?_)
  refine hK _ _ ?_; clear hK K; try clear Q'
  iterate 1 (refine wpList_plainQ rfl (fun K Q' hK => ?_); go_simp; refine hK _ _ ?_; clear hK K; try clear Q')
  refine wpList_nil ?_
  show Code.wp _ _ _ _ _
  refine wp_seq ?_
  repeat (first | simp only [List.nil_append] at h3 | simp only [List.cons_append] at h3 | simp only [List.set_cons_zero] at h3 | simp only [List.set_cons_succ] at h3 | simp only [List.eraseIdx_zero] at h3 | simp only [List.tail_cons] at h3 | simp only [List.eraseIdx_cons_zero] at h3 | simp only [List.eraseIdx_cons_succ] at h3 | simp only [List.setIfInBounds_toArray] at h3)
  refine wp_region_lit ?_
  have c_0_0 := h3.cell 0 rfl 0 rfl
  have c_1_0 := h3.cell 1 rfl 0 rfl
  iterate 4 (refine wpList_plainQ rfl (fun K Q' hK => ?_); go_simp; refine hK _ _ ?_; clear hK K; try clear Q')
  clear c_0_0 c_1_0
  -- stops at: eff:call (Go.Op.call {'callee': (Go.Callee.value (Go.Operand.func 37)), 'args': [(Go.Operand.tmp 10), (Go.Operand.tmp 12)], 'argTypes': [44, 44]}) slot 13
  refine wpList_plainQ rfl (fun K Q' hK => ?_); go_simp
  refine (rtrees_ok a b H _ _ _ h3.fits (by omega) ha' hb').mono ?_
  rintro e wP ⟨rP, H2, rfl, hpP, hP⟩
  rw [hmn.out]
  obtain ⟨aP, cP, rfl, _, _⟩ := hP.form
  have h4 := h3.call0 hpP
  refine hK _ _ ?_; clear hK K; try clear Q'
  iterate 5 (refine wpList_plainQ rfl (fun K Q' hK => ?_); go_simp; refine hK _ _ ?_; clear hK K; try clear Q')
  refine wpList_nil ?_
  show Code.wp _ _ _ _ _
  refine wp_seq ?_
  repeat (first | simp only [List.nil_append] at h4 | simp only [List.cons_append] at h4 | simp only [List.set_cons_zero] at h4 | simp only [List.set_cons_succ] at h4 | simp only [List.eraseIdx_zero] at h4 | simp only [List.tail_cons] at h4 | simp only [List.eraseIdx_cons_zero] at h4 | simp only [List.eraseIdx_cons_succ] at h4 | simp only [List.setIfInBounds_toArray] at h4)
  refine wp_region_lit ?_
  iterate 3 (refine wpList_plainQ rfl (fun K Q' hK => ?_); go_simp; refine hK _ _ ?_; clear hK K; try clear Q')
  have c_0 := h4.cell 2 rfl 0 rfl
  have f_0 := h4.free 2 rfl 0
  refine wpList_plainQ rfl (fun K Q' hK => ?_); go_simp
  clear c_0 f_0
  refine h4.k_set 2 rfl (fun w5 h5 => ?_)
  refine hK _ _ ?_; clear hK K; try clear Q'
  iterate 1 (refine wpList_plainQ rfl (fun K Q' hK => ?_); go_simp; refine hK _ _ ?_; clear hK K; try clear Q')
  refine wpList_nil ?_
  show Code.wp _ _ _ _ _
  -- stops at: ret
  refine wp_ret ?_
  have r_2_0 := h5.cell 2 rfl 0 rfl
  first | show bodyPost _ _ _ _ _ _ | (simp only [Exit.then]; show bodyPost _ _ _ _ _ _) | (simp only [Exit.inBlock]; show bodyPost _ _ _ _ _ _) | (simp only [Exit.inBlock, Exit.then]; show bodyPost _ _ _ _ _ _) | (simp only [Exit.noGoto, Exit.inBlock, Exit.then]; show bodyPost _ _ _ _ _ _)
  refine bodyPost_ret (v := ?_) ?_ rfl ?_
  rotate_left
  · simp only [results, Tryd.results18]; go_simp; with_reducible rfl
  clear r_2_0
  refine ⟨_, H2, ?_, h5.post, hP⟩
  rw [hmn.out]
end Go.Proofs.YtenhjgdflgcjnaaDoor
