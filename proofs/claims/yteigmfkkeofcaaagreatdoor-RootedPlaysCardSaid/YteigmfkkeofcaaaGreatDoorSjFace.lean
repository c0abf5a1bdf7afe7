/-
The document's rooted heaps, as every heap of the document is spoken of.
-/
import Derived.Test.YteigmfkkeofcaaaGreatDoorSiPop
import Derived.Test.YteigmfkkeofcaaaGreatDoorQbPlain
namespace Go.Proofs.YteigmfkkeofcaaaGreatDoor
open Go Go.RowKit
set_option linter.unusedVariables false

set_option maxRecDepth 100000 in
set_option maxHeartbeats 2000000 in
theorem r9meld_ok (H : GH) (w : World) (u v : Value) (a b : List (Tr El)) (hf : Fits w H) (hn : Rw.size a + Rw.size b < 900000) (ha : RsV H u a) (hb : RsV H v b) :
    Calls Tryz.prog 29 #[.agg #[u], .agg #[v]] w fun e w' => ∃ r H', e = .returned (.tuple #[.agg #[r], .int .i64 (Sk.meldN kf a b + Sk.meldN kf a b : Nat)]) ∧ Post w H none w' H' 0 0 ∧ RsV H' r (Sk.meld kf a b) := by
  have hpre : Pre w H none 0 0 := Pre.none hf 0 0
  have ha' := ha
  have hb' := hb
  obtain ⟨a0, c0, rfl, _, _⟩ := ha.form
  obtain ⟨a1, c1, rfl, _, _⟩ := hb.form
  obtain ⟨n1, hn1⟩ : ∃ m, Hid (2 * Sk.levelN kf a = m) := ⟨_, show _ = _ from rfl⟩
  obtain ⟨n2, hn2⟩ : ∃ m, Hid (2 * Sk.levelN kf b = m) := ⟨_, show _ = _ from rfl⟩
  obtain ⟨n3, hn3⟩ : ∃ m, Hid (2 * Rw.meldN kf (Sk.level kf a) (Sk.level kf b) = m) := ⟨_, show _ = _ from rfl⟩
  obtain ⟨s1, hs1⟩ : ∃ m, Hid (n1 + n2 = m) := ⟨_, show _ = _ from rfl⟩
  obtain ⟨s2, hs2⟩ : ∃ m, Hid (s1 + n3 = m) := ⟨_, show _ = _ from rfl⟩
  have z1 := Sk.level_size kf a
  have z2 := Sk.level_size kf b
  have hbnd : n1 + n2 + n3 ≤ 12000000 := by
    have h1 := Sk.level_len kf a
    have h2 := Sk.level_len kf b
    have h3 := Rw.meld_length kf (Sk.level kf a) (Sk.level kf b)
    have h4 := Rw.length_le a
    have h5 := Rw.length_le b
    have := hn1.out
    have := hn2.out
    have := hn3.out
    omega
  have e1 : IntKind.i64.wrap ((n1 : Int) + (n2 : Int)) = (s1 : Int) := by have := hs1.out; rw [IntWalk.i64_in _ (by omega)]; omega
  have e2 : IntKind.i64.wrap ((s1 : Int) + (n3 : Int)) = (s2 : Int) := by have := hs1.out; have := hs2.out; rw [IntWalk.i64_in _ (by omega)]; omega
  go_enter Tryz.func29, Tryz.ntmps29
  have h0 := St.start hpre
  refine wp_seq ?_
  repeat (first | simp only [List.nil_append] at h0 | simp only [List.cons_append] at h0 | simp only [List.set_cons_zero] at h0 | simp only [List.set_cons_succ] at h0 | simp only [List.eraseIdx_zero] at h0 | simp only [List.tail_cons] at h0 | simp only [List.eraseIdx_cons_zero] at h0 | simp only [List.eraseIdx_cons_succ] at h0 | simp only [List.setIfInBounds_toArray] at h0)
  refine wp_region_lit ?_
  refine wpList_plainQ rfl (fun K Q' hK => ?_); go_simp
  refine h0.k_alloc (fun w1 h1 => ?_)
  refine hK _ _ ?_; clear hK K; try clear Q'
  refine wpList_plainQ rfl (fun K Q' hK => ?_); go_simp
  refine h1.k_alloc (fun w2 h2 => ?_)
  refine hK _ _ ?_; clear hK K; try clear Q'
  refine wpList_plainQ rfl (fun K Q' hK => ?_); go_simp
  refine h2.k_alloc (fun w3 h3 => ?_)
  refine hK _ _ ?_; clear hK K; try clear Q'
  iterate 1 (refine wpList_plainQ rfl (fun K Q' hK => ?_); go_simp; refine hK _ _ ?_; clear hK K; try clear Q')
  refine wpList_nil ?_
  show Code.wp _ _ _ _ _
  refine wp_seq ?_
  repeat (first | simp only [List.nil_append] at h3 | simp only [List.cons_append] at h3 | simp only [List.set_cons_zero] at h3 | simp only [List.set_cons_succ] at h3 | simp only [List.eraseIdx_zero] at h3 | simp only [List.tail_cons] at h3 | simp only [List.eraseIdx_cons_zero] at h3 | simp only [List.eraseIdx_cons_succ] at h3 | simp only [List.setIfInBounds_toArray] at h3)
  refine wp_region_lit ?_
  have c_0_0 := h3.cell 0 rfl 0 rfl
  iterate 2 (refine wpList_plainQ rfl (fun K Q' hK => ?_); go_simp; refine hK _ _ ?_; clear hK K; try clear Q')
  clear c_0_0
  -- stops at: eff:call (Go.Op.call {'callee': (Go.Callee.value (Go.Operand.func 57)), 'args': [(Go.Operand.tmp 14)], 'argTypes': [33]}) slot 15
  refine wpList_plainQ rfl (fun K Q' hK => ?_); go_simp
  refine (rlevel_ok H _ _ a h3.fits (by omega) ha').mono ?_
  rintro e wA ⟨rA, H1, rfl, hpA, hA⟩
  rw [hn1.out]
  obtain ⟨aA, cA, rfl, _, _⟩ := hA.form
  have h4 := h3.call0 hpA
  refine hK _ _ ?_; clear hK K; try clear Q'
  iterate 5 (refine wpList_plainQ rfl (fun K Q' hK => ?_); go_simp; refine hK _ _ ?_; clear hK K; try clear Q')
  refine wpList_nil ?_
  show Code.wp _ _ _ _ _
  refine wp_seq ?_
  repeat (first | simp only [List.nil_append] at h4 | simp only [List.cons_append] at h4 | simp only [List.set_cons_zero] at h4 | simp only [List.set_cons_succ] at h4 | simp only [List.eraseIdx_zero] at h4 | simp only [List.tail_cons] at h4 | simp only [List.eraseIdx_cons_zero] at h4 | simp only [List.eraseIdx_cons_succ] at h4 | simp only [List.setIfInBounds_toArray] at h4)
  refine wp_region_lit ?_
  have c_1_0 := h4.cell 1 rfl 0 rfl
  iterate 2 (refine wpList_plainQ rfl (fun K Q' hK => ?_); go_simp; refine hK _ _ ?_; clear hK K; try clear Q')
  clear c_1_0
  -- stops at: eff:call (Go.Op.call {'callee': (Go.Callee.value (Go.Operand.func 57)), 'args': [(Go.Operand.tmp 20)], 'argTypes': [33]}) slot 21
  refine wpList_plainQ rfl (fun K Q' hK => ?_); go_simp
  refine (rlevel_ok H1 _ _ b h4.fits (by omega) (hb'.mono hpA.le)).mono ?_
  rintro e wB ⟨rB, H2, rfl, hpB, hB⟩
  rw [hn2.out]
  obtain ⟨aB, cB, rfl, _, _⟩ := hB.form
  have h5 := h4.call0 hpB
  refine hK _ _ ?_; clear hK K; try clear Q'
  iterate 5 (refine wpList_plainQ rfl (fun K Q' hK => ?_); go_simp; refine hK _ _ ?_; clear hK K; try clear Q')
  refine wpList_nil ?_
  show Code.wp _ _ _ _ _
  refine wp_seq ?_
  repeat (first | simp only [List.nil_append] at h5 | simp only [List.cons_append] at h5 | simp only [List.set_cons_zero] at h5 | simp only [List.set_cons_succ] at h5 | simp only [List.eraseIdx_zero] at h5 | simp only [List.tail_cons] at h5 | simp only [List.eraseIdx_cons_zero] at h5 | simp only [List.eraseIdx_cons_succ] at h5 | simp only [List.setIfInBounds_toArray] at h5)
  refine wp_region_lit ?_
  iterate 2 (refine wpList_plainQ rfl (fun K Q' hK => ?_); go_simp; refine hK _ _ ?_; clear hK K; try clear Q')
  -- stops at: eff:call (Go.Op.call {'callee': (Go.Callee.value (Go.Operand.func 58)), 'args': [(Go.Operand.tmp 25), (Go.Operand.tmp 26)], 'argTypes': [33, 33]}) slot 27
  refine wpList_plainQ rfl (fun K Q' hK => ?_); go_simp
  refine (rtrees_ok _ _ H2 _ _ _ h5.fits (by omega) (hA.mono hpB.le) hB).mono ?_
  rintro e wC ⟨rC, H3, rfl, hpC, hC⟩
  rw [hn3.out]
  obtain ⟨aC, cC, rfl, _, _⟩ := hC.form
  have h6 := h5.call0 hpC
  refine hK _ _ ?_; clear hK K; try clear Q'
  iterate 5 (refine wpList_plainQ rfl (fun K Q' hK => ?_); go_simp; refine hK _ _ ?_; clear hK K; try clear Q')
  refine wpList_nil ?_
  show Code.wp _ _ _ _ _
  refine wp_seq ?_
  repeat (first | simp only [List.nil_append] at h6 | simp only [List.cons_append] at h6 | simp only [List.set_cons_zero] at h6 | simp only [List.set_cons_succ] at h6 | simp only [List.eraseIdx_zero] at h6 | simp only [List.tail_cons] at h6 | simp only [List.eraseIdx_cons_zero] at h6 | simp only [List.eraseIdx_cons_succ] at h6 | simp only [List.setIfInBounds_toArray] at h6)
  refine wp_region_lit ?_
  iterate 7 (refine wpList_plainQ rfl (fun K Q' hK => ?_); go_simp; refine hK _ _ ?_; clear hK K; try clear Q')
  have c_0 := h6.cell 2 rfl 0 rfl
  have f_0 := h6.free 2 rfl 0
  refine wpList_plainQ rfl (fun K Q' hK => ?_); go_simp
  clear c_0 f_0
  refine h6.k_set 2 rfl (fun w7 h7 => ?_)
  refine hK _ _ ?_; clear hK K; try clear Q'
  iterate 1 (refine wpList_plainQ rfl (fun K Q' hK => ?_); go_simp; refine hK _ _ ?_; clear hK K; try clear Q')
  refine wpList_nil ?_
  show Code.wp _ _ _ _ _
  -- stops at: ret
  refine wp_ret ?_
  have r_2_0 := h7.cell 2 rfl 0 rfl
  first | show bodyPost _ _ _ _ _ _ | (simp only [Exit.then]; show bodyPost _ _ _ _ _ _) | (simp only [Exit.inBlock]; show bodyPost _ _ _ _ _ _) | (simp only [Exit.inBlock, Exit.then]; show bodyPost _ _ _ _ _ _) | (simp only [Exit.noGoto, Exit.inBlock, Exit.then]; show bodyPost _ _ _ _ _ _)
  refine bodyPost_ret (v := ?_) ?_ rfl ?_
  rotate_left
  · simp only [results, Tryz.results29]; go_simp; with_reducible rfl
  clear r_2_0
  have hst : Sk.meldN kf a b + Sk.meldN kf a b = s2 := by unfold Sk.meldN; have := hn1.out; have := hn2.out; have := hn3.out; have := hs1.out; have := hs2.out; omega
  exact ⟨_, H3, by rw [hst], h7.post, hC⟩
set_option maxRecDepth 100000 in
set_option maxHeartbeats 1000000 in
theorem r9min_ok (H : GH) (w : World) (v : Value) (l : List (Tr El)) (hf : Fits w H) (hn : Rw.size l < 1000000) (hv : RsV H v l) :
    Calls Tryz.prog 32 #[.agg #[v]] w fun e w' => e = .returned (.tuple #[elV ((Rw.min? kf l).getD (0, 0)), .int .i64 (l.length - 1 : Nat)]) ∧ Keep none w w' := by
  have hpre : Pre w H none 0 0 := Pre.none hf 0 0
  have hv' := hv
  obtain ⟨a0, c0, rfl, _, _⟩ := hv.form
  obtain ⟨x, hx⟩ : ∃ x, Hid ((Rw.min? kf l).getD (0, 0) = x) := ⟨_, show _ = _ from rfl⟩
  obtain ⟨n, hn'⟩ : ∃ n, Hid (l.length - 1 = n) := ⟨_, show _ = _ from rfl⟩
  rw [hx.out, hn'.out]
  go_enter Tryz.func32, Tryz.ntmps32
  have h0 := St.start hpre
  refine wp_seq ?_
  repeat (first | simp only [List.nil_append] at h0 | simp only [List.cons_append] at h0 | simp only [List.set_cons_zero] at h0 | simp only [List.set_cons_succ] at h0 | simp only [List.eraseIdx_zero] at h0 | simp only [List.tail_cons] at h0 | simp only [List.eraseIdx_cons_zero] at h0 | simp only [List.eraseIdx_cons_succ] at h0 | simp only [List.setIfInBounds_toArray] at h0)
  refine wp_region_lit ?_
  refine wpList_plainQ rfl (fun K Q' hK => ?_); go_simp
  refine h0.k_alloc (fun w1 h1 => ?_)
  refine hK _ _ ?_; clear hK K; try clear Q'
  refine wpList_plainQ rfl (fun K Q' hK => ?_); go_simp
  refine h1.k_alloc (fun w2 h2 => ?_)
  refine hK _ _ ?_; clear hK K; try clear Q'
  iterate 1 (refine wpList_plainQ rfl (fun K Q' hK => ?_); go_simp; refine hK _ _ ?_; clear hK K; try clear Q')
  refine wpList_nil ?_
  show Code.wp _ _ _ _ _
  refine wp_seq ?_
  repeat (first | simp only [List.nil_append] at h2 | simp only [List.cons_append] at h2 | simp only [List.set_cons_zero] at h2 | simp only [List.set_cons_succ] at h2 | simp only [List.eraseIdx_zero] at h2 | simp only [List.tail_cons] at h2 | simp only [List.eraseIdx_cons_zero] at h2 | simp only [List.eraseIdx_cons_succ] at h2 | simp only [List.setIfInBounds_toArray] at h2)
  refine wp_region_lit ?_
  have c_0_0 := h2.cell 0 rfl 0 rfl
  iterate 3 (refine wpList_plainQ rfl (fun K Q' hK => ?_); go_simp; refine hK _ _ ?_; clear hK K; try clear Q')
  clear c_0_0
  -- stops at: eff:call (Go.Op.call {'callee': (Go.Callee.value (Go.Operand.func 65)), 'args': [(Go.Operand.tmp 6)], 'argTypes': [91]}) slot 7
  refine wpList_plainQ rfl (fun K Q' hK => ?_); go_simp
  refine (r7min_ok H _ _ l h2.fits hn hv').mono ?_
  rintro e wA ⟨rfl, hkA⟩
  rw [hx.out, hn'.out]
  have h3 := h2.callk hkA
  refine hK _ _ ?_; clear hK K; try clear Q'
  iterate 2 (refine wpList_plainQ rfl (fun K Q' hK => ?_); go_simp; refine hK _ _ ?_; clear hK K; try clear Q')
  have c_0 := h3.cell 1 rfl 0 rfl
  have f_0 := h3.free 1 rfl 0
  have c_1 := h3.cell 1 rfl 1 rfl
  have f_1 := h3.free 1 rfl 1
  refine wpList_plainQ rfl (fun K Q' hK => ?_); go_simp
  clear c_0 f_0 c_1 f_1
  refine (h3.set (i := 1) rfl 0 _).k_set 1 rfl (fun w4 h4 => ?_)
  refine hK _ _ ?_; clear hK K; try clear Q'
  iterate 1 (refine wpList_plainQ rfl (fun K Q' hK => ?_); go_simp; refine hK _ _ ?_; clear hK K; try clear Q')
  refine wpList_nil ?_
  show Code.wp _ _ _ _ _
  -- stops at: ret
  refine wp_ret ?_
  have r_1_0 := h4.cell 1 rfl 0 rfl
  have r_1_1 := h4.cell 1 rfl 1 rfl
  first | show bodyPost _ _ _ _ _ _ | (simp only [Exit.then]; show bodyPost _ _ _ _ _ _) | (simp only [Exit.inBlock]; show bodyPost _ _ _ _ _ _) | (simp only [Exit.inBlock, Exit.then]; show bodyPost _ _ _ _ _ _) | (simp only [Exit.noGoto, Exit.inBlock, Exit.then]; show bodyPost _ _ _ _ _ _)
  refine bodyPost_ret (v := ?_) ?_ rfl ?_
  rotate_left
  · simp only [results, Tryz.results32]; go_simp; with_reducible rfl
  clear r_1_0 r_1_1
  exact ⟨rfl, h4.post.keep⟩
set_option maxRecDepth 100000 in
set_option maxHeartbeats 1000000 in
theorem r9size_ok (H : GH) (w : World) (v : Value) (l : List (Tr El)) (hf : Fits w H) (hn : Rw.size l < 1000000) (hv : RsV H v l) :
    Calls Tryz.prog 22 #[.agg #[v]] w fun e w' => e = .returned (.int .i64 (Rw.size l : Nat)) ∧ Keep none w w' := by
  have hpre : Pre w H none 0 0 := Pre.none hf 0 0
  have hv' := hv
  obtain ⟨a0, c0, rfl, _, _⟩ := hv.form
  obtain ⟨n, hn'⟩ : ∃ n, Hid (Rw.size l = n) := ⟨_, show _ = _ from rfl⟩
  rw [hn'.out]
  go_enter Tryz.func22, Tryz.ntmps22
  have h0 := St.start hpre
  refine wp_seq ?_
  repeat (first | simp only [List.nil_append] at h0 | simp only [List.cons_append] at h0 | simp only [List.set_cons_zero] at h0 | simp only [List.set_cons_succ] at h0 | simp only [List.eraseIdx_zero] at h0 | simp only [List.tail_cons] at h0 | simp only [List.eraseIdx_cons_zero] at h0 | simp only [List.eraseIdx_cons_succ] at h0 | simp only [List.setIfInBounds_toArray] at h0)
  refine wp_region_lit ?_
  refine wpList_plainQ rfl (fun K Q' hK => ?_); go_simp
  refine h0.k_alloc (fun w1 h1 => ?_)
  refine hK _ _ ?_; clear hK K; try clear Q'
  iterate 1 (refine wpList_plainQ rfl (fun K Q' hK => ?_); go_simp; refine hK _ _ ?_; clear hK K; try clear Q')
  refine wpList_nil ?_
  show Code.wp _ _ _ _ _
  refine wp_seq ?_
  repeat (first | simp only [List.nil_append] at h1 | simp only [List.cons_append] at h1 | simp only [List.set_cons_zero] at h1 | simp only [List.set_cons_succ] at h1 | simp only [List.eraseIdx_zero] at h1 | simp only [List.tail_cons] at h1 | simp only [List.eraseIdx_cons_zero] at h1 | simp only [List.eraseIdx_cons_succ] at h1 | simp only [List.setIfInBounds_toArray] at h1)
  refine wp_region_lit ?_
  have c_0_0 := h1.cell 0 rfl 0 rfl
  iterate 3 (refine wpList_plainQ rfl (fun K Q' hK => ?_); go_simp; refine hK _ _ ?_; clear hK K; try clear Q')
  clear c_0_0
  -- stops at: eff:call (Go.Op.call {'callee': (Go.Callee.value (Go.Operand.func 40)), 'args': [(Go.Operand.tmp 5)], 'argTypes': [91]}) slot 6
  refine wpList_plainQ rfl (fun K Q' hK => ?_); go_simp
  refine (r7size_ok H _ _ l h1.fits hn hv').mono ?_
  rintro e wA ⟨rfl, hkA⟩
  rw [hn'.out]
  have h2 := h1.callk hkA
  refine hK _ _ ?_; clear hK K; try clear Q'
  iterate 1 (refine wpList_plainQ rfl (fun K Q' hK => ?_); go_simp; refine hK _ _ ?_; clear hK K; try clear Q')
  refine wpList_nil ?_
  show Code.wp _ _ _ _ _
  -- stops at: ret
  refine wp_ret ?_
  go_ret
  exact ⟨rfl, h2.post.keep⟩
set_option maxRecDepth 100000 in
set_option maxHeartbeats 1000000 in
theorem r9show_ok (H : GH) (w : World) (v : Value) (l : List (Tr El)) (hf : Fits w H) (hn : Rw.size l < 900000) (hfit : ∀ a ∈ Rw.els l, El.fits a) (hv : RsV H v l) :
    Calls Tryz.prog 38 #[.agg #[v]] w fun e w' => e = .returned (.string ⟨(Rw.text l).toArray⟩) ∧ Keep none w w' := by
  have hpre : Pre w H none 0 0 := Pre.none hf 0 0
  have hv' := hv
  obtain ⟨a0, c0, rfl, _, _⟩ := hv.form
  obtain ⟨s, hs⟩ : ∃ s, Hid (Rw.text l = s) := ⟨_, show _ = _ from rfl⟩
  rw [hs.out]
  go_enter Tryz.func38, Tryz.ntmps38
  have h0 := St.start hpre
  refine wp_seq ?_
  repeat (first | simp only [List.nil_append] at h0 | simp only [List.cons_append] at h0 | simp only [List.set_cons_zero] at h0 | simp only [List.set_cons_succ] at h0 | simp only [List.eraseIdx_zero] at h0 | simp only [List.tail_cons] at h0 | simp only [List.eraseIdx_cons_zero] at h0 | simp only [List.eraseIdx_cons_succ] at h0 | simp only [List.setIfInBounds_toArray] at h0)
  refine wp_region_lit ?_
  refine wpList_plainQ rfl (fun K Q' hK => ?_); go_simp
  refine h0.k_alloc (fun w1 h1 => ?_)
  refine hK _ _ ?_; clear hK K; try clear Q'
  iterate 1 (refine wpList_plainQ rfl (fun K Q' hK => ?_); go_simp; refine hK _ _ ?_; clear hK K; try clear Q')
  refine wpList_nil ?_
  show Code.wp _ _ _ _ _
  refine wp_seq ?_
  repeat (first | simp only [List.nil_append] at h1 | simp only [List.cons_append] at h1 | simp only [List.set_cons_zero] at h1 | simp only [List.set_cons_succ] at h1 | simp only [List.eraseIdx_zero] at h1 | simp only [List.tail_cons] at h1 | simp only [List.eraseIdx_cons_zero] at h1 | simp only [List.eraseIdx_cons_succ] at h1 | simp only [List.setIfInBounds_toArray] at h1)
  refine wp_region_lit ?_
  have c_0_0 := h1.cell 0 rfl 0 rfl
  iterate 3 (refine wpList_plainQ rfl (fun K Q' hK => ?_); go_simp; refine hK _ _ ?_; clear hK K; try clear Q')
  clear c_0_0
  -- stops at: eff:call (Go.Op.call {'callee': (Go.Callee.value (Go.Operand.func 72)), 'args': [(Go.Operand.tmp 5)], 'argTypes': [91]}) slot 6
  refine wpList_plainQ rfl (fun K Q' hK => ?_); go_simp
  refine (r7show_ok H _ _ l h1.fits hn hfit hv').mono ?_
  rintro e wA ⟨rfl, hkA⟩
  rw [hs.out]
  have h2 := h1.callk hkA
  refine hK _ _ ?_; clear hK K; try clear Q'
  iterate 1 (refine wpList_plainQ rfl (fun K Q' hK => ?_); go_simp; refine hK _ _ ?_; clear hK K; try clear Q')
  refine wpList_nil ?_
  show Code.wp _ _ _ _ _
  -- stops at: ret
  refine wp_ret ?_
  go_ret
  exact ⟨rfl, h2.post.keep⟩
/-- A heap of the document, as cells. -/
def WvR (H : GH) (cs : List Value) : Hp → Prop
  | none => cs = [.bool false, .int .i64 0, .int .i64 0, .slice none 0 0]
  | some (x, l) => ∃ q, cs = [.bool true, .int .i64 x.1, .int .i64 x.2, q] ∧ RsV H q l
theorem WvR.mono {H H' : GH} {cs : List Value} {t : Hp} (h : WvR H cs t) (hl : H.le H') : WvR H' cs t := by
  match t, h with
  | none, h => exact h
  | some (x, l), h =>
    obtain ⟨q, h1, h2⟩ := h
    exact ⟨q, h1, h2.mono hl⟩
theorem WvR.form {H : GH} {cs : List Value} {t : Hp} (h : WvR H cs t) : ∃ (b : Bool) (p i : Int) (a : Option Addr) (n c : Nat), cs = [.bool b, .int .i64 p, .int .i64 i, .slice a n c] := by
  match t, h with
  | none, h =>
    obtain rfl := h
    exact ⟨false, 0, 0, none, 0, 0, rfl⟩
  | some (x, l), h =>
    obtain ⟨q, rfl, h2⟩ := h
    obtain ⟨a, c, rfl, _, _⟩ := h2.form
    exact ⟨true, x.1, x.2, a, _, c, rfl⟩
theorem WvR.nil (H : GH) : WvR H [.bool false, .int .i64 0, .int .i64 0, .slice none 0 0] Hp.nil := rfl
theorem Hp.minC_le (t : Hp) : Hp.minC t ≤ Hp.size t := Nat.zero_le _
theorem infoW : ElemInfo Tryz.prog 38 37 (.agg #[.bool false, .int .i64 0, .int .i64 0, .slice none 0 0]) 4 48 :=
  ⟨Tryz.underlying38, info_parts (by kernel_rfl), rfl, by decide⟩

set_option maxRecDepth 100000 in
set_option maxHeartbeats 4000000 in
theorem winsert_ok {w : World} {H : GH} {cs : List Value} {t : Hp} (x : El) (hf : Fits w H) (hn : Hp.size t < 800000) (h : WvR H cs t) :
    Calls Tryz.prog 9 #[elV x, .agg cs.toArray] w fun e w' => ∃ ds H', e = .returned (.tuple #[.agg ds.toArray, .int .i64 (Hp.insC x t + Hp.insD x t : Nat)]) ∧ Post w H none w' H' 0 0 ∧ WvR H' ds (Hp.insert x t) := by
  have hpre : Pre w H none 0 0 := Pre.none hf 0 0
  match t, hn, h with
  | none, hn, h =>
    obtain rfl := h
    go_enter Tryz.func9, Tryz.ntmps9
    have h0 := St.start hpre
    refine wp_seq ?_
    repeat (first | simp only [List.nil_append] at h0 | simp only [List.cons_append] at h0 | simp only [List.set_cons_zero] at h0 | simp only [List.set_cons_succ] at h0 | simp only [List.eraseIdx_zero] at h0 | simp only [List.tail_cons] at h0 | simp only [List.eraseIdx_cons_zero] at h0 | simp only [List.eraseIdx_cons_succ] at h0 | simp only [List.setIfInBounds_toArray] at h0)
    refine wp_region_lit ?_
    refine wpList_plainQ rfl (fun K Q' hK => ?_); go_simp
    refine h0.k_alloc (fun w1 h1 => ?_)
    refine hK _ _ ?_; clear hK K; try clear Q'
    refine wpList_plainQ rfl (fun K Q' hK => ?_); go_simp
    refine h1.k_alloc (fun w2 h2 => ?_)
    refine hK _ _ ?_; clear hK K; try clear Q'
    refine wpList_plainQ rfl (fun K Q' hK => ?_); go_simp
    refine h2.k_alloc (fun w3 h3 => ?_)
    refine hK _ _ ?_; clear hK K; try clear Q'
    iterate 1 (refine wpList_plainQ rfl (fun K Q' hK => ?_); go_simp; refine hK _ _ ?_; clear hK K; try clear Q')
    refine wpList_nil ?_
    show Code.wp _ _ _ _ _
    refine wp_seq ?_
    refine wp_seq ?_
    repeat (first | simp only [List.nil_append] at h3 | simp only [List.cons_append] at h3 | simp only [List.set_cons_zero] at h3 | simp only [List.set_cons_succ] at h3 | simp only [List.eraseIdx_zero] at h3 | simp only [List.tail_cons] at h3 | simp only [List.eraseIdx_cons_zero] at h3 | simp only [List.eraseIdx_cons_succ] at h3 | simp only [List.setIfInBounds_toArray] at h3)
    refine wp_region_lit ?_
    have c_1_0 := h3.cell 1 rfl 0 rfl
    iterate 3 (refine wpList_plainQ rfl (fun K Q' hK => ?_); go_simp; refine hK _ _ ?_; clear hK K; try clear Q')
    clear c_1_0
    refine wpList_nil ?_
    show Code.wp _ _ _ _ _
    -- stops at: cond
    refine wp_cond_true (rfl) ?_
    refine wp_seq ?_
    refine wp_region_lit ?_
    have c_0_0 := h3.cell 0 rfl 0 rfl
    have c_0_1 := h3.cell 0 rfl 1 rfl
    iterate 2 (refine wpList_plainQ rfl (fun K Q' hK => ?_); go_simp; refine hK _ _ ?_; clear hK K; try clear Q')
    clear c_0_0 c_0_1
    have c_0 := h3.cell 2 rfl 0 rfl
    have f_0 := h3.free 2 rfl 0
    have c_1 := h3.cell 2 rfl 1 rfl
    have f_1 := h3.free 2 rfl 1
    have c_2 := h3.cell 2 rfl 2 rfl
    have f_2 := h3.free 2 rfl 2
    have c_3 := h3.cell 2 rfl 3 rfl
    have f_3 := h3.free 2 rfl 3
    refine wpList_plainQ rfl (fun K Q' hK => ?_); go_simp
    clear c_0 f_0 c_1 f_1 c_2 f_2 c_3 f_3
    refine (((h3.set (i := 2) rfl 0 _).set (i := 2) rfl 1 _).set (i := 2) rfl 2 _).k_set 2 rfl (fun w4 h4 => ?_)
    refine hK _ _ ?_; clear hK K; try clear Q'
    iterate 1 (refine wpList_plainQ rfl (fun K Q' hK => ?_); go_simp; refine hK _ _ ?_; clear hK K; try clear Q')
    refine wpList_nil ?_
    show Code.wp _ _ _ _ _
    -- stops at: ret
    refine wp_ret ?_
    have r_2_0 := h4.cell 2 rfl 0 rfl
    have r_2_1 := h4.cell 2 rfl 1 rfl
    have r_2_2 := h4.cell 2 rfl 2 rfl
    have r_2_3 := h4.cell 2 rfl 3 rfl
    first | show bodyPost _ _ _ _ _ _ | (simp only [Exit.then]; show bodyPost _ _ _ _ _ _) | (simp only [Exit.inBlock]; show bodyPost _ _ _ _ _ _) | (simp only [Exit.inBlock, Exit.then]; show bodyPost _ _ _ _ _ _) | (simp only [Exit.noGoto, Exit.inBlock, Exit.then]; show bodyPost _ _ _ _ _ _)
    refine bodyPost_ret (v := ?_) ?_ rfl ?_
    rotate_left
    · simp only [results, Tryz.results9]; go_simp; with_reducible rfl
    clear r_2_0 r_2_1 r_2_2 r_2_3
    exact ⟨[.bool true, .int .i64 x.1, .int .i64 x.2, .slice none 0 0], H, rfl, h4.post, _, rfl, RsV.nil _⟩
  | some (r, l), hn, h =>
    obtain ⟨q0, rfl, hl⟩ := h
    obtain ⟨a0, c0, rfl, _, _⟩ := hl.form
    have hsz : Rw.size l < 800000 := by have : (Rw.els l).length + 1 < 800000 := hn; show (Rw.els l).length < _; omega
    obtain ⟨ic, hic⟩ : ∃ m, Hid (Sk.insC l + Sk.insD l = m) := ⟨_, show _ = _ from rfl⟩
    obtain ⟨rr, hrr⟩ : ∃ m, Hid (ic + 2 = m) := ⟨_, show _ = _ from rfl⟩
    have hst4 := Sk.insert_steps l
    have e1 : IntKind.i64.wrap ((ic : Int) + 2) = (rr : Int) := by have := hic.out; have := hrr.out; rw [IntWalk.i64_in _ (by omega)]; omega
    have hcd : Hp.insC x (some (r, l)) + Hp.insD x (some (r, l)) = rr := by
      show 1 + Sk.insC l + (Sk.insD l + 1) = rr
      have := hic.out
      have := hrr.out
      omega
    clear hst4
    cases hlt : El.lt x r with
    | true =>
      have heq : Hp.insert x (some (r, l)) = some (x, Sk.insert Hp.ke r l) := by rw [Hp.insert_some, if_pos hlt]
      go_enter Tryz.func9, Tryz.ntmps9
      have h0 := St.start hpre
      refine wp_seq ?_
      repeat (first | simp only [List.nil_append] at h0 | simp only [List.cons_append] at h0 | simp only [List.set_cons_zero] at h0 | simp only [List.set_cons_succ] at h0 | simp only [List.eraseIdx_zero] at h0 | simp only [List.tail_cons] at h0 | simp only [List.eraseIdx_cons_zero] at h0 | simp only [List.eraseIdx_cons_succ] at h0 | simp only [List.setIfInBounds_toArray] at h0)
      refine wp_region_lit ?_
      refine wpList_plainQ rfl (fun K Q' hK => ?_); go_simp
      refine h0.k_alloc (fun w1 h1 => ?_)
      refine hK _ _ ?_; clear hK K; try clear Q'
      refine wpList_plainQ rfl (fun K Q' hK => ?_); go_simp
      refine h1.k_alloc (fun w2 h2 => ?_)
      refine hK _ _ ?_; clear hK K; try clear Q'
      refine wpList_plainQ rfl (fun K Q' hK => ?_); go_simp
      refine h2.k_alloc (fun w3 h3 => ?_)
      refine hK _ _ ?_; clear hK K; try clear Q'
      iterate 1 (refine wpList_plainQ rfl (fun K Q' hK => ?_); go_simp; refine hK _ _ ?_; clear hK K; try clear Q')
      refine wpList_nil ?_
      show Code.wp _ _ _ _ _
      refine wp_seq ?_
      refine wp_seq ?_
      repeat (first | simp only [List.nil_append] at h3 | simp only [List.cons_append] at h3 | simp only [List.set_cons_zero] at h3 | simp only [List.set_cons_succ] at h3 | simp only [List.eraseIdx_zero] at h3 | simp only [List.tail_cons] at h3 | simp only [List.eraseIdx_cons_zero] at h3 | simp only [List.eraseIdx_cons_succ] at h3 | simp only [List.setIfInBounds_toArray] at h3)
      refine wp_region_lit ?_
      have c_1_0 := h3.cell 1 rfl 0 rfl
      iterate 3 (refine wpList_plainQ rfl (fun K Q' hK => ?_); go_simp; refine hK _ _ ?_; clear hK K; try clear Q')
      clear c_1_0
      refine wpList_nil ?_
      show Code.wp _ _ _ _ _
      -- stops at: cond
      refine wp_cond_false (rfl) ?_
      refine wp_skip ?_
      show Code.wp _ _ _ _ _
      refine wp_seq ?_
      refine wp_region_lit ?_
      have c_1_1 := h3.cell 1 rfl 1 rfl
      have c_1_2 := h3.cell 1 rfl 2 rfl
      iterate 2 (refine wpList_plainQ rfl (fun K Q' hK => ?_); go_simp; refine hK _ _ ?_; clear hK K; try clear Q')
      clear c_1_1 c_1_2
      refine wpList_plainQ rfl (fun K Q' hK => ?_); go_simp
      refine h3.k_alloc (fun w4 h4 => ?_)
      refine hK _ _ ?_; clear hK K; try clear Q'
      have c_0 := h4.cell 3 rfl 0 rfl
      have f_0 := h4.free 3 rfl 0
      have c_1 := h4.cell 3 rfl 1 rfl
      have f_1 := h4.free 3 rfl 1
      refine wpList_plainQ rfl (fun K Q' hK => ?_); go_simp
      clear c_0 f_0 c_1 f_1
      refine (h4.set (i := 3) rfl 0 _).k_set 3 rfl (fun w5 h5 => ?_)
      refine hK _ _ ?_; clear hK K; try clear Q'
      refine wpList_nil ?_
      show Code.wp _ _ _ _ _
      refine wp_seq ?_
      repeat (first | simp only [List.nil_append] at h5 | simp only [List.cons_append] at h5 | simp only [List.set_cons_zero] at h5 | simp only [List.set_cons_succ] at h5 | simp only [List.eraseIdx_zero] at h5 | simp only [List.tail_cons] at h5 | simp only [List.eraseIdx_cons_zero] at h5 | simp only [List.eraseIdx_cons_succ] at h5 | simp only [List.setIfInBounds_toArray] at h5)
      refine wp_region_lit ?_
      have c_0_0 := h5.cell 0 rfl 0 rfl
      have c_0_1 := h5.cell 0 rfl 1 rfl
      iterate 1 (refine wpList_plainQ rfl (fun K Q' hK => ?_); go_simp; refine hK _ _ ?_; clear hK K; try clear Q')
      clear c_0_0 c_0_1
      refine wpList_plainQ rfl (fun K Q' hK => ?_); go_simp
      refine h5.k_alloc (fun w6 h6 => ?_)
      refine hK _ _ ?_; clear hK K; try clear Q'
      have c_0 := h6.cell 4 rfl 0 rfl
      have f_0 := h6.free 4 rfl 0
      have c_1 := h6.cell 4 rfl 1 rfl
      have f_1 := h6.free 4 rfl 1
      refine wpList_plainQ rfl (fun K Q' hK => ?_); go_simp
      clear c_0 f_0 c_1 f_1
      refine (h6.set (i := 4) rfl 0 _).k_set 4 rfl (fun w7 h7 => ?_)
      refine hK _ _ ?_; clear hK K; try clear Q'
      refine wpList_nil ?_
      show Code.wp _ _ _ _ _
      refine wp_seq ?_
      repeat (first | simp only [List.nil_append] at h7 | simp only [List.cons_append] at h7 | simp only [List.set_cons_zero] at h7 | simp only [List.set_cons_succ] at h7 | simp only [List.eraseIdx_zero] at h7 | simp only [List.tail_cons] at h7 | simp only [List.eraseIdx_cons_zero] at h7 | simp only [List.eraseIdx_cons_succ] at h7 | simp only [List.setIfInBounds_toArray] at h7)
      refine wp_region_lit ?_
      have c_0_0 := h7.cell 0 rfl 0 rfl
      have c_0_1 := h7.cell 0 rfl 1 rfl
      have c_1_1 := h7.cell 1 rfl 1 rfl
      have c_1_2 := h7.cell 1 rfl 2 rfl
      iterate 3 (refine wpList_plainQ rfl (fun K Q' hK => ?_); go_simp; refine hK _ _ ?_; clear hK K; try clear Q')
      clear c_0_0 c_0_1 c_1_1 c_1_2
      -- stops at: eff:call (Go.Op.call {'callee': (Go.Callee.value (Go.Operand.func 26)), 'args': [(Go.Operand.tmp 19), (Go.Operand.tmp 21)], 'argTypes': [32, 32]}) slot 22
      refine wpList_plainQ rfl (fun K Q' hK => ?_); go_simp
      refine (rless_ok H _ x r h7.fits).mono ?_
      rintro e wA ⟨rfl, hkA⟩
      rw [hlt]
      have h8 := h7.callk hkA
      refine hK _ _ ?_; clear hK K; try clear Q'
      iterate 1 (refine wpList_plainQ rfl (fun K Q' hK => ?_); go_simp; refine hK _ _ ?_; clear hK K; try clear Q')
      refine wpList_nil ?_
      show Code.wp _ _ _ _ _
      refine wp_seq ?_
      refine wp_seq ?_
      repeat (first | simp only [List.nil_append] at h8 | simp only [List.cons_append] at h8 | simp only [List.set_cons_zero] at h8 | simp only [List.set_cons_succ] at h8 | simp only [List.eraseIdx_zero] at h8 | simp only [List.tail_cons] at h8 | simp only [List.eraseIdx_cons_zero] at h8 | simp only [List.eraseIdx_cons_succ] at h8 | simp only [List.setIfInBounds_toArray] at h8)
      refine wp_region_lit ?_
      iterate 1 (refine wpList_plainQ rfl (fun K Q' hK => ?_); go_simp; refine hK _ _ ?_; clear hK K; try clear Q')
      refine wpList_nil ?_
      show Code.wp _ _ _ _ _
      -- stops at: cond
      refine wp_cond_true (rfl) ?_
      refine wp_seq ?_
      refine wp_region_lit ?_
      have c_0_0 := h8.cell 0 rfl 0 rfl
      have c_0_1 := h8.cell 0 rfl 1 rfl
      iterate 1 (refine wpList_plainQ rfl (fun K Q' hK => ?_); go_simp; refine hK _ _ ?_; clear hK K; try clear Q')
      clear c_0_0 c_0_1
      have c_0 := h8.cell 3 rfl 0 rfl
      have f_0 := h8.free 3 rfl 0
      have c_1 := h8.cell 3 rfl 1 rfl
      have f_1 := h8.free 3 rfl 1
      refine wpList_plainQ rfl (fun K Q' hK => ?_); go_simp
      clear c_0 f_0 c_1 f_1
      refine (h8.set (i := 3) rfl 0 _).k_set 3 rfl (fun w9 h9 => ?_)
      refine hK _ _ ?_; clear hK K; try clear Q'
      refine wpList_nil ?_
      show Code.wp _ _ _ _ _
      repeat (first | simp only [List.nil_append] at h9 | simp only [List.cons_append] at h9 | simp only [List.set_cons_zero] at h9 | simp only [List.set_cons_succ] at h9 | simp only [List.eraseIdx_zero] at h9 | simp only [List.tail_cons] at h9 | simp only [List.eraseIdx_cons_zero] at h9 | simp only [List.eraseIdx_cons_succ] at h9 | simp only [List.setIfInBounds_toArray] at h9)
      refine wp_region_lit ?_
      have c_1_1 := h9.cell 1 rfl 1 rfl
      have c_1_2 := h9.cell 1 rfl 2 rfl
      iterate 2 (refine wpList_plainQ rfl (fun K Q' hK => ?_); go_simp; refine hK _ _ ?_; clear hK K; try clear Q')
      clear c_1_1 c_1_2
      have c_0 := h9.cell 4 rfl 0 rfl
      have f_0 := h9.free 4 rfl 0
      have c_1 := h9.cell 4 rfl 1 rfl
      have f_1 := h9.free 4 rfl 1
      refine wpList_plainQ rfl (fun K Q' hK => ?_); go_simp
      clear c_0 f_0 c_1 f_1
      refine (h9.set (i := 4) rfl 0 _).k_set 4 rfl (fun w10 h10 => ?_)
      refine hK _ _ ?_; clear hK K; try clear Q'
      refine wpList_nil ?_
      show Code.wp _ _ _ _ _
      refine wp_seq ?_
      repeat (first | simp only [List.nil_append] at h10 | simp only [List.cons_append] at h10 | simp only [List.set_cons_zero] at h10 | simp only [List.set_cons_succ] at h10 | simp only [List.eraseIdx_zero] at h10 | simp only [List.tail_cons] at h10 | simp only [List.eraseIdx_cons_zero] at h10 | simp only [List.eraseIdx_cons_succ] at h10 | simp only [List.setIfInBounds_toArray] at h10)
      refine wp_region_lit ?_
      have c_4_0 := h10.cell 4 rfl 0 rfl
      have c_4_1 := h10.cell 4 rfl 1 rfl
      have c_1_3 := h10.cell 1 rfl 3 rfl
      iterate 3 (refine wpList_plainQ rfl (fun K Q' hK => ?_); go_simp; refine hK _ _ ?_; clear hK K; try clear Q')
      clear c_4_0 c_4_1 c_1_3
      -- stops at: eff:call (Go.Op.call {'callee': (Go.Callee.value (Go.Operand.func 27)), 'args': [(Go.Operand.tmp 28), (Go.Operand.tmp 30)], 'argTypes': [32, 35]}) slot 31
      refine wpList_plainQ rfl (fun K Q' hK => ?_); go_simp
      refine (r9insert_ok H _ r _ l h10.fits (by omega) hl).mono ?_
      rintro e wB ⟨q, H2, rfl, hpB, hB⟩
      rw [hic.out]
      obtain ⟨aQ, cQ, rfl, _, _⟩ := hB.form
      have h11 := h10.call0 hpB
      refine hK _ _ ?_; clear hK K; try clear Q'
      iterate 3 (refine wpList_plainQ rfl (fun K Q' hK => ?_); go_simp; refine hK _ _ ?_; clear hK K; try clear Q')
      refine wpList_plainQ rfl (fun K Q' hK => ?_); go_simp
      refine h11.k_alloc (fun w12 h12 => ?_)
      refine hK _ _ ?_; clear hK K; try clear Q'
      have c_0 := h12.cell 5 rfl 0 rfl
      have f_0 := h12.free 5 rfl 0
      refine wpList_plainQ rfl (fun K Q' hK => ?_); go_simp
      clear c_0 f_0
      refine h12.k_set 5 rfl (fun w13 h13 => ?_)
      refine hK _ _ ?_; clear hK K; try clear Q'
      iterate 1 (refine wpList_plainQ rfl (fun K Q' hK => ?_); go_simp; refine hK _ _ ?_; clear hK K; try clear Q')
      refine wpList_nil ?_
      show Code.wp _ _ _ _ _
      refine wp_seq ?_
      repeat (first | simp only [List.nil_append] at h13 | simp only [List.cons_append] at h13 | simp only [List.set_cons_zero] at h13 | simp only [List.set_cons_succ] at h13 | simp only [List.eraseIdx_zero] at h13 | simp only [List.tail_cons] at h13 | simp only [List.eraseIdx_cons_zero] at h13 | simp only [List.eraseIdx_cons_succ] at h13 | simp only [List.setIfInBounds_toArray] at h13)
      refine wp_region_lit ?_
      have c_3_0 := h13.cell 3 rfl 0 rfl
      have c_3_1 := h13.cell 3 rfl 1 rfl
      have c_5_0 := h13.cell 5 rfl 0 rfl
      iterate 5 (refine wpList_plainQ rfl (fun K Q' hK => ?_); go_simp; refine hK _ _ ?_; clear hK K; try clear Q')
      clear c_3_0 c_3_1 c_5_0
      have c_0 := h13.cell 2 rfl 0 rfl
      have f_0 := h13.free 2 rfl 0
      have c_1 := h13.cell 2 rfl 1 rfl
      have f_1 := h13.free 2 rfl 1
      have c_2 := h13.cell 2 rfl 2 rfl
      have f_2 := h13.free 2 rfl 2
      have c_3 := h13.cell 2 rfl 3 rfl
      have f_3 := h13.free 2 rfl 3
      refine wpList_plainQ rfl (fun K Q' hK => ?_); go_simp
      clear c_0 f_0 c_1 f_1 c_2 f_2 c_3 f_3
      refine (((h13.set (i := 2) rfl 0 _).set (i := 2) rfl 1 _).set (i := 2) rfl 2 _).k_set 2 rfl (fun w14 h14 => ?_)
      refine hK _ _ ?_; clear hK K; try clear Q'
      iterate 1 (refine wpList_plainQ rfl (fun K Q' hK => ?_); go_simp; refine hK _ _ ?_; clear hK K; try clear Q')
      refine wpList_nil ?_
      show Code.wp _ _ _ _ _
      -- stops at: ret
      refine wp_ret ?_
      have r_2_0 := h14.cell 2 rfl 0 rfl
      have r_2_1 := h14.cell 2 rfl 1 rfl
      have r_2_2 := h14.cell 2 rfl 2 rfl
      have r_2_3 := h14.cell 2 rfl 3 rfl
      first | show bodyPost _ _ _ _ _ _ | (simp only [Exit.then]; show bodyPost _ _ _ _ _ _) | (simp only [Exit.inBlock]; show bodyPost _ _ _ _ _ _) | (simp only [Exit.inBlock, Exit.then]; show bodyPost _ _ _ _ _ _) | (simp only [Exit.noGoto, Exit.inBlock, Exit.then]; show bodyPost _ _ _ _ _ _)
      refine bodyPost_ret (v := ?_) ?_ rfl ?_
      rotate_left
      · simp only [results, Tryz.results9]; go_simp; with_reducible rfl
      clear r_2_0 r_2_1 r_2_2 r_2_3
      refine ⟨[.bool true, .int .i64 x.1, .int .i64 x.2, .slice aQ _ cQ], H2, by rw [hcd], h14.post, ?_⟩
      rw [heq]
      exact ⟨_, rfl, hB⟩
    | false =>
      have heq : Hp.insert x (some (r, l)) = some (r, Sk.insert Hp.ke x l) := by rw [Hp.insert_some, if_neg (by simp [hlt])]
      go_enter Tryz.func9, Tryz.ntmps9
      have h0 := St.start hpre
      refine wp_seq ?_
      repeat (first | simp only [List.nil_append] at h0 | simp only [List.cons_append] at h0 | simp only [List.set_cons_zero] at h0 | simp only [List.set_cons_succ] at h0 | simp only [List.eraseIdx_zero] at h0 | simp only [List.tail_cons] at h0 | simp only [List.eraseIdx_cons_zero] at h0 | simp only [List.eraseIdx_cons_succ] at h0 | simp only [List.setIfInBounds_toArray] at h0)
      refine wp_region_lit ?_
      refine wpList_plainQ rfl (fun K Q' hK => ?_); go_simp
      refine h0.k_alloc (fun w1 h1 => ?_)
      refine hK _ _ ?_; clear hK K; try clear Q'
      refine wpList_plainQ rfl (fun K Q' hK => ?_); go_simp
      refine h1.k_alloc (fun w2 h2 => ?_)
      refine hK _ _ ?_; clear hK K; try clear Q'
      refine wpList_plainQ rfl (fun K Q' hK => ?_); go_simp
      refine h2.k_alloc (fun w3 h3 => ?_)
      refine hK _ _ ?_; clear hK K; try clear Q'
      iterate 1 (refine wpList_plainQ rfl (fun K Q' hK => ?_); go_simp; refine hK _ _ ?_; clear hK K; try clear Q')
      refine wpList_nil ?_
      show Code.wp _ _ _ _ _
      refine wp_seq ?_
      refine wp_seq ?_
      repeat (first | simp only [List.nil_append] at h3 | simp only [List.cons_append] at h3 | simp only [List.set_cons_zero] at h3 | simp only [List.set_cons_succ] at h3 | simp only [List.eraseIdx_zero] at h3 | simp only [List.tail_cons] at h3 | simp only [List.eraseIdx_cons_zero] at h3 | simp only [List.eraseIdx_cons_succ] at h3 | simp only [List.setIfInBounds_toArray] at h3)
      refine wp_region_lit ?_
      have c_1_0 := h3.cell 1 rfl 0 rfl
      iterate 3 (refine wpList_plainQ rfl (fun K Q' hK => ?_); go_simp; refine hK _ _ ?_; clear hK K; try clear Q')
      clear c_1_0
      refine wpList_nil ?_
      show Code.wp _ _ _ _ _
      -- stops at: cond
      refine wp_cond_false (rfl) ?_
      refine wp_skip ?_
      show Code.wp _ _ _ _ _
      refine wp_seq ?_
      refine wp_region_lit ?_
      have c_1_1 := h3.cell 1 rfl 1 rfl
      have c_1_2 := h3.cell 1 rfl 2 rfl
      iterate 2 (refine wpList_plainQ rfl (fun K Q' hK => ?_); go_simp; refine hK _ _ ?_; clear hK K; try clear Q')
      clear c_1_1 c_1_2
      refine wpList_plainQ rfl (fun K Q' hK => ?_); go_simp
      refine h3.k_alloc (fun w4 h4 => ?_)
      refine hK _ _ ?_; clear hK K; try clear Q'
      have c_0 := h4.cell 3 rfl 0 rfl
      have f_0 := h4.free 3 rfl 0
      have c_1 := h4.cell 3 rfl 1 rfl
      have f_1 := h4.free 3 rfl 1
      refine wpList_plainQ rfl (fun K Q' hK => ?_); go_simp
      clear c_0 f_0 c_1 f_1
      refine (h4.set (i := 3) rfl 0 _).k_set 3 rfl (fun w5 h5 => ?_)
      refine hK _ _ ?_; clear hK K; try clear Q'
      refine wpList_nil ?_
      show Code.wp _ _ _ _ _
      refine wp_seq ?_
      repeat (first | simp only [List.nil_append] at h5 | simp only [List.cons_append] at h5 | simp only [List.set_cons_zero] at h5 | simp only [List.set_cons_succ] at h5 | simp only [List.eraseIdx_zero] at h5 | simp only [List.tail_cons] at h5 | simp only [List.eraseIdx_cons_zero] at h5 | simp only [List.eraseIdx_cons_succ] at h5 | simp only [List.setIfInBounds_toArray] at h5)
      refine wp_region_lit ?_
      have c_0_0 := h5.cell 0 rfl 0 rfl
      have c_0_1 := h5.cell 0 rfl 1 rfl
      iterate 1 (refine wpList_plainQ rfl (fun K Q' hK => ?_); go_simp; refine hK _ _ ?_; clear hK K; try clear Q')
      clear c_0_0 c_0_1
      refine wpList_plainQ rfl (fun K Q' hK => ?_); go_simp
      refine h5.k_alloc (fun w6 h6 => ?_)
      refine hK _ _ ?_; clear hK K; try clear Q'
      have c_0 := h6.cell 4 rfl 0 rfl
      have f_0 := h6.free 4 rfl 0
      have c_1 := h6.cell 4 rfl 1 rfl
      have f_1 := h6.free 4 rfl 1
      refine wpList_plainQ rfl (fun K Q' hK => ?_); go_simp
      clear c_0 f_0 c_1 f_1
      refine (h6.set (i := 4) rfl 0 _).k_set 4 rfl (fun w7 h7 => ?_)
      refine hK _ _ ?_; clear hK K; try clear Q'
      refine wpList_nil ?_
      show Code.wp _ _ _ _ _
      refine wp_seq ?_
      repeat (first | simp only [List.nil_append] at h7 | simp only [List.cons_append] at h7 | simp only [List.set_cons_zero] at h7 | simp only [List.set_cons_succ] at h7 | simp only [List.eraseIdx_zero] at h7 | simp only [List.tail_cons] at h7 | simp only [List.eraseIdx_cons_zero] at h7 | simp only [List.eraseIdx_cons_succ] at h7 | simp only [List.setIfInBounds_toArray] at h7)
      refine wp_region_lit ?_
      have c_0_0 := h7.cell 0 rfl 0 rfl
      have c_0_1 := h7.cell 0 rfl 1 rfl
      have c_1_1 := h7.cell 1 rfl 1 rfl
      have c_1_2 := h7.cell 1 rfl 2 rfl
      iterate 3 (refine wpList_plainQ rfl (fun K Q' hK => ?_); go_simp; refine hK _ _ ?_; clear hK K; try clear Q')
      clear c_0_0 c_0_1 c_1_1 c_1_2
      -- stops at: eff:call (Go.Op.call {'callee': (Go.Callee.value (Go.Operand.func 26)), 'args': [(Go.Operand.tmp 19), (Go.Operand.tmp 21)], 'argTypes': [32, 32]}) slot 22
      refine wpList_plainQ rfl (fun K Q' hK => ?_); go_simp
      refine (rless_ok H _ x r h7.fits).mono ?_
      rintro e wA ⟨rfl, hkA⟩
      rw [hlt]
      have h8 := h7.callk hkA
      refine hK _ _ ?_; clear hK K; try clear Q'
      iterate 1 (refine wpList_plainQ rfl (fun K Q' hK => ?_); go_simp; refine hK _ _ ?_; clear hK K; try clear Q')
      refine wpList_nil ?_
      show Code.wp _ _ _ _ _
      refine wp_seq ?_
      refine wp_seq ?_
      repeat (first | simp only [List.nil_append] at h8 | simp only [List.cons_append] at h8 | simp only [List.set_cons_zero] at h8 | simp only [List.set_cons_succ] at h8 | simp only [List.eraseIdx_zero] at h8 | simp only [List.tail_cons] at h8 | simp only [List.eraseIdx_cons_zero] at h8 | simp only [List.eraseIdx_cons_succ] at h8 | simp only [List.setIfInBounds_toArray] at h8)
      refine wp_region_lit ?_
      iterate 1 (refine wpList_plainQ rfl (fun K Q' hK => ?_); go_simp; refine hK _ _ ?_; clear hK K; try clear Q')
      refine wpList_nil ?_
      show Code.wp _ _ _ _ _
      -- stops at: cond
      refine wp_cond_false (rfl) ?_
      refine wp_skip ?_
      show Code.wp _ _ _ _ _
      refine wp_seq ?_
      refine wp_region_lit ?_
      have c_4_0 := h8.cell 4 rfl 0 rfl
      have c_4_1 := h8.cell 4 rfl 1 rfl
      have c_1_3 := h8.cell 1 rfl 3 rfl
      iterate 3 (refine wpList_plainQ rfl (fun K Q' hK => ?_); go_simp; refine hK _ _ ?_; clear hK K; try clear Q')
      clear c_4_0 c_4_1 c_1_3
      -- stops at: eff:call (Go.Op.call {'callee': (Go.Callee.value (Go.Operand.func 27)), 'args': [(Go.Operand.tmp 28), (Go.Operand.tmp 30)], 'argTypes': [32, 35]}) slot 31
      refine wpList_plainQ rfl (fun K Q' hK => ?_); go_simp
      refine (r9insert_ok H _ x _ l h8.fits (by omega) hl).mono ?_
      rintro e wB ⟨q, H2, rfl, hpB, hB⟩
      rw [hic.out]
      obtain ⟨aQ, cQ, rfl, _, _⟩ := hB.form
      have h9 := h8.call0 hpB
      refine hK _ _ ?_; clear hK K; try clear Q'
      iterate 3 (refine wpList_plainQ rfl (fun K Q' hK => ?_); go_simp; refine hK _ _ ?_; clear hK K; try clear Q')
      refine wpList_plainQ rfl (fun K Q' hK => ?_); go_simp
      refine h9.k_alloc (fun w10 h10 => ?_)
      refine hK _ _ ?_; clear hK K; try clear Q'
      have c_0 := h10.cell 5 rfl 0 rfl
      have f_0 := h10.free 5 rfl 0
      refine wpList_plainQ rfl (fun K Q' hK => ?_); go_simp
      clear c_0 f_0
      refine h10.k_set 5 rfl (fun w11 h11 => ?_)
      refine hK _ _ ?_; clear hK K; try clear Q'
      iterate 1 (refine wpList_plainQ rfl (fun K Q' hK => ?_); go_simp; refine hK _ _ ?_; clear hK K; try clear Q')
      refine wpList_nil ?_
      show Code.wp _ _ _ _ _
      refine wp_seq ?_
      repeat (first | simp only [List.nil_append] at h11 | simp only [List.cons_append] at h11 | simp only [List.set_cons_zero] at h11 | simp only [List.set_cons_succ] at h11 | simp only [List.eraseIdx_zero] at h11 | simp only [List.tail_cons] at h11 | simp only [List.eraseIdx_cons_zero] at h11 | simp only [List.eraseIdx_cons_succ] at h11 | simp only [List.setIfInBounds_toArray] at h11)
      refine wp_region_lit ?_
      have c_3_0 := h11.cell 3 rfl 0 rfl
      have c_3_1 := h11.cell 3 rfl 1 rfl
      have c_5_0 := h11.cell 5 rfl 0 rfl
      iterate 5 (refine wpList_plainQ rfl (fun K Q' hK => ?_); go_simp; refine hK _ _ ?_; clear hK K; try clear Q')
      clear c_3_0 c_3_1 c_5_0
      have c_0 := h11.cell 2 rfl 0 rfl
      have f_0 := h11.free 2 rfl 0
      have c_1 := h11.cell 2 rfl 1 rfl
      have f_1 := h11.free 2 rfl 1
      have c_2 := h11.cell 2 rfl 2 rfl
      have f_2 := h11.free 2 rfl 2
      have c_3 := h11.cell 2 rfl 3 rfl
      have f_3 := h11.free 2 rfl 3
      refine wpList_plainQ rfl (fun K Q' hK => ?_); go_simp
      clear c_0 f_0 c_1 f_1 c_2 f_2 c_3 f_3
      refine (((h11.set (i := 2) rfl 0 _).set (i := 2) rfl 1 _).set (i := 2) rfl 2 _).k_set 2 rfl (fun w12 h12 => ?_)
      refine hK _ _ ?_; clear hK K; try clear Q'
      iterate 1 (refine wpList_plainQ rfl (fun K Q' hK => ?_); go_simp; refine hK _ _ ?_; clear hK K; try clear Q')
      refine wpList_nil ?_
      show Code.wp _ _ _ _ _
      -- stops at: ret
      refine wp_ret ?_
      have r_2_0 := h12.cell 2 rfl 0 rfl
      have r_2_1 := h12.cell 2 rfl 1 rfl
      have r_2_2 := h12.cell 2 rfl 2 rfl
      have r_2_3 := h12.cell 2 rfl 3 rfl
      first | show bodyPost _ _ _ _ _ _ | (simp only [Exit.then]; show bodyPost _ _ _ _ _ _) | (simp only [Exit.inBlock]; show bodyPost _ _ _ _ _ _) | (simp only [Exit.inBlock, Exit.then]; show bodyPost _ _ _ _ _ _) | (simp only [Exit.noGoto, Exit.inBlock, Exit.then]; show bodyPost _ _ _ _ _ _)
      refine bodyPost_ret (v := ?_) ?_ rfl ?_
      rotate_left
      · simp only [results, Tryz.results9]; go_simp; with_reducible rfl
      clear r_2_0 r_2_1 r_2_2 r_2_3
      refine ⟨[.bool true, .int .i64 r.1, .int .i64 r.2, .slice aQ _ cQ], H2, by rw [hcd], h12.post, ?_⟩
      rw [heq]
      exact ⟨_, rfl, hB⟩

set_option maxRecDepth 100000 in
set_option maxHeartbeats 4000000 in
theorem wmeld_ok {w : World} {H : GH} {cs ds : List Value} {s t : Hp} (hf : Fits w H) (hn : Hp.size s + Hp.size t < 800000) (h : WvR H cs s) (k : WvR H ds t) :
    Calls Tryz.prog 11 #[.agg cs.toArray, .agg ds.toArray] w fun e w' => ∃ es H', e = .returned (.tuple #[.agg es.toArray, .int .i64 (Hp.meldC s t + Hp.meldD s t : Nat)]) ∧ Post w H none w' H' 0 0 ∧ WvR H' es (Hp.meld s t) := by
  have hpre : Pre w H none 0 0 := Pre.none hf 0 0
  match s, t, hn, h, k with
  | none, t, hn, h, k =>
    obtain rfl := h
    have k' := k
    obtain ⟨bk, pk, ik, ak, nk, ck, rfl⟩ := k.form
    go_enter Tryz.func11, Tryz.ntmps11
    have h0 := St.start hpre
    refine wp_seq ?_
    repeat (first | simp only [List.nil_append] at h0 | simp only [List.cons_append] at h0 | simp only [List.set_cons_zero] at h0 | simp only [List.set_cons_succ] at h0 | simp only [List.eraseIdx_zero] at h0 | simp only [List.tail_cons] at h0 | simp only [List.eraseIdx_cons_zero] at h0 | simp only [List.eraseIdx_cons_succ] at h0 | simp only [List.setIfInBounds_toArray] at h0)
    refine wp_region_lit ?_
    refine wpList_plainQ rfl (fun K Q' hK => ?_); go_simp
    refine h0.k_alloc (fun w1 h1 => ?_)
    refine hK _ _ ?_; clear hK K; try clear Q'
    refine wpList_plainQ rfl (fun K Q' hK => ?_); go_simp
    refine h1.k_alloc (fun w2 h2 => ?_)
    refine hK _ _ ?_; clear hK K; try clear Q'
    refine wpList_plainQ rfl (fun K Q' hK => ?_); go_simp
    refine h2.k_alloc (fun w3 h3 => ?_)
    refine hK _ _ ?_; clear hK K; try clear Q'
    iterate 1 (refine wpList_plainQ rfl (fun K Q' hK => ?_); go_simp; refine hK _ _ ?_; clear hK K; try clear Q')
    refine wpList_nil ?_
    show Code.wp _ _ _ _ _
    refine wp_seq ?_
    refine wp_seq ?_
    repeat (first | simp only [List.nil_append] at h3 | simp only [List.cons_append] at h3 | simp only [List.set_cons_zero] at h3 | simp only [List.set_cons_succ] at h3 | simp only [List.eraseIdx_zero] at h3 | simp only [List.tail_cons] at h3 | simp only [List.eraseIdx_cons_zero] at h3 | simp only [List.eraseIdx_cons_succ] at h3 | simp only [List.setIfInBounds_toArray] at h3)
    refine wp_region_lit ?_
    have c_0_0 := h3.cell 0 rfl 0 rfl
    iterate 3 (refine wpList_plainQ rfl (fun K Q' hK => ?_); go_simp; refine hK _ _ ?_; clear hK K; try clear Q')
    clear c_0_0
    refine wpList_nil ?_
    show Code.wp _ _ _ _ _
    -- stops at: cond
    refine wp_cond_true (rfl) ?_
    refine wp_seq ?_
    refine wp_region_lit ?_
    have c_1_0 := h3.cell 1 rfl 0 rfl
    have c_1_1 := h3.cell 1 rfl 1 rfl
    have c_1_2 := h3.cell 1 rfl 2 rfl
    have c_1_3 := h3.cell 1 rfl 3 rfl
    iterate 1 (refine wpList_plainQ rfl (fun K Q' hK => ?_); go_simp; refine hK _ _ ?_; clear hK K; try clear Q')
    clear c_1_0 c_1_1 c_1_2 c_1_3
    have c_0 := h3.cell 2 rfl 0 rfl
    have f_0 := h3.free 2 rfl 0
    have c_1 := h3.cell 2 rfl 1 rfl
    have f_1 := h3.free 2 rfl 1
    have c_2 := h3.cell 2 rfl 2 rfl
    have f_2 := h3.free 2 rfl 2
    have c_3 := h3.cell 2 rfl 3 rfl
    have f_3 := h3.free 2 rfl 3
    refine wpList_plainQ rfl (fun K Q' hK => ?_); go_simp
    clear c_0 f_0 c_1 f_1 c_2 f_2 c_3 f_3
    refine (((h3.set (i := 2) rfl 0 _).set (i := 2) rfl 1 _).set (i := 2) rfl 2 _).k_set 2 rfl (fun w4 h4 => ?_)
    refine hK _ _ ?_; clear hK K; try clear Q'
    iterate 1 (refine wpList_plainQ rfl (fun K Q' hK => ?_); go_simp; refine hK _ _ ?_; clear hK K; try clear Q')
    refine wpList_nil ?_
    show Code.wp _ _ _ _ _
    -- stops at: ret
    refine wp_ret ?_
    have r_2_0 := h4.cell 2 rfl 0 rfl
    have r_2_1 := h4.cell 2 rfl 1 rfl
    have r_2_2 := h4.cell 2 rfl 2 rfl
    have r_2_3 := h4.cell 2 rfl 3 rfl
    first | show bodyPost _ _ _ _ _ _ | (simp only [Exit.then]; show bodyPost _ _ _ _ _ _) | (simp only [Exit.inBlock]; show bodyPost _ _ _ _ _ _) | (simp only [Exit.inBlock, Exit.then]; show bodyPost _ _ _ _ _ _) | (simp only [Exit.noGoto, Exit.inBlock, Exit.then]; show bodyPost _ _ _ _ _ _)
    refine bodyPost_ret (v := ?_) ?_ rfl ?_
    rotate_left
    · simp only [results, Tryz.results11]; go_simp; with_reducible rfl
    clear r_2_0 r_2_1 r_2_2 r_2_3
    exact ⟨_, H, rfl, h4.post, k'⟩
  | some (x1, l1), none, hn, h, k =>
    obtain rfl := k
    have h' := h
    obtain ⟨q0, rfl, hl⟩ := h
    obtain ⟨a0, c0, rfl, _, _⟩ := hl.form
    go_enter Tryz.func11, Tryz.ntmps11
    have h0 := St.start hpre
    refine wp_seq ?_
    repeat (first | simp only [List.nil_append] at h0 | simp only [List.cons_append] at h0 | simp only [List.set_cons_zero] at h0 | simp only [List.set_cons_succ] at h0 | simp only [List.eraseIdx_zero] at h0 | simp only [List.tail_cons] at h0 | simp only [List.eraseIdx_cons_zero] at h0 | simp only [List.eraseIdx_cons_succ] at h0 | simp only [List.setIfInBounds_toArray] at h0)
    refine wp_region_lit ?_
    refine wpList_plainQ rfl (fun K Q' hK => ?_); go_simp
    refine h0.k_alloc (fun w1 h1 => ?_)
    refine hK _ _ ?_; clear hK K; try clear Q'
    refine wpList_plainQ rfl (fun K Q' hK => ?_); go_simp
    refine h1.k_alloc (fun w2 h2 => ?_)
    refine hK _ _ ?_; clear hK K; try clear Q'
    refine wpList_plainQ rfl (fun K Q' hK => ?_); go_simp
    refine h2.k_alloc (fun w3 h3 => ?_)
    refine hK _ _ ?_; clear hK K; try clear Q'
    iterate 1 (refine wpList_plainQ rfl (fun K Q' hK => ?_); go_simp; refine hK _ _ ?_; clear hK K; try clear Q')
    refine wpList_nil ?_
    show Code.wp _ _ _ _ _
    refine wp_seq ?_
    refine wp_seq ?_
    repeat (first | simp only [List.nil_append] at h3 | simp only [List.cons_append] at h3 | simp only [List.set_cons_zero] at h3 | simp only [List.set_cons_succ] at h3 | simp only [List.eraseIdx_zero] at h3 | simp only [List.tail_cons] at h3 | simp only [List.eraseIdx_cons_zero] at h3 | simp only [List.eraseIdx_cons_succ] at h3 | simp only [List.setIfInBounds_toArray] at h3)
    refine wp_region_lit ?_
    have c_0_0 := h3.cell 0 rfl 0 rfl
    iterate 3 (refine wpList_plainQ rfl (fun K Q' hK => ?_); go_simp; refine hK _ _ ?_; clear hK K; try clear Q')
    clear c_0_0
    refine wpList_nil ?_
    show Code.wp _ _ _ _ _
    -- stops at: cond
    refine wp_cond_false (rfl) ?_
    refine wp_skip ?_
    show Code.wp _ _ _ _ _
    refine wp_seq ?_
    refine wp_seq ?_
    refine wp_region_lit ?_
    have c_1_0 := h3.cell 1 rfl 0 rfl
    iterate 3 (refine wpList_plainQ rfl (fun K Q' hK => ?_); go_simp; refine hK _ _ ?_; clear hK K; try clear Q')
    clear c_1_0
    refine wpList_nil ?_
    show Code.wp _ _ _ _ _
    -- stops at: cond
    refine wp_cond_true (rfl) ?_
    refine wp_seq ?_
    refine wp_region_lit ?_
    have c_0_0 := h3.cell 0 rfl 0 rfl
    have c_0_1 := h3.cell 0 rfl 1 rfl
    have c_0_2 := h3.cell 0 rfl 2 rfl
    have c_0_3 := h3.cell 0 rfl 3 rfl
    iterate 1 (refine wpList_plainQ rfl (fun K Q' hK => ?_); go_simp; refine hK _ _ ?_; clear hK K; try clear Q')
    clear c_0_0 c_0_1 c_0_2 c_0_3
    have c_0 := h3.cell 2 rfl 0 rfl
    have f_0 := h3.free 2 rfl 0
    have c_1 := h3.cell 2 rfl 1 rfl
    have f_1 := h3.free 2 rfl 1
    have c_2 := h3.cell 2 rfl 2 rfl
    have f_2 := h3.free 2 rfl 2
    have c_3 := h3.cell 2 rfl 3 rfl
    have f_3 := h3.free 2 rfl 3
    refine wpList_plainQ rfl (fun K Q' hK => ?_); go_simp
    clear c_0 f_0 c_1 f_1 c_2 f_2 c_3 f_3
    refine (((h3.set (i := 2) rfl 0 _).set (i := 2) rfl 1 _).set (i := 2) rfl 2 _).k_set 2 rfl (fun w4 h4 => ?_)
    refine hK _ _ ?_; clear hK K; try clear Q'
    iterate 1 (refine wpList_plainQ rfl (fun K Q' hK => ?_); go_simp; refine hK _ _ ?_; clear hK K; try clear Q')
    refine wpList_nil ?_
    show Code.wp _ _ _ _ _
    -- stops at: ret
    refine wp_ret ?_
    have r_2_0 := h4.cell 2 rfl 0 rfl
    have r_2_1 := h4.cell 2 rfl 1 rfl
    have r_2_2 := h4.cell 2 rfl 2 rfl
    have r_2_3 := h4.cell 2 rfl 3 rfl
    first | show bodyPost _ _ _ _ _ _ | (simp only [Exit.then]; show bodyPost _ _ _ _ _ _) | (simp only [Exit.inBlock]; show bodyPost _ _ _ _ _ _) | (simp only [Exit.inBlock, Exit.then]; show bodyPost _ _ _ _ _ _) | (simp only [Exit.noGoto, Exit.inBlock, Exit.then]; show bodyPost _ _ _ _ _ _)
    refine bodyPost_ret (v := ?_) ?_ rfl ?_
    rotate_left
    · simp only [results, Tryz.results11]; go_simp; with_reducible rfl
    clear r_2_0 r_2_1 r_2_2 r_2_3
    exact ⟨_, H, rfl, h4.post, h'⟩
  | some (x1, l1), some (x2, l2), hn, h, k =>
    obtain ⟨q1, rfl, hl1⟩ := h
    obtain ⟨q2, rfl, hl2⟩ := k
    obtain ⟨a1, c1, rfl, _, _⟩ := hl1.form
    obtain ⟨a2, c2, rfl, _, _⟩ := hl2.form
    have hsz : Rw.size l1 + Rw.size l2 < 800000 := by have : (Rw.els l1).length + 1 + ((Rw.els l2).length + 1) < 800000 := hn; show (Rw.els l1).length + (Rw.els l2).length < _; omega
    obtain ⟨mn, hmn⟩ : ∃ m, Hid (Sk.meldN kf l1 l2 + Sk.meldN kf l1 l2 = m) := ⟨_, show _ = _ from rfl⟩
    obtain ⟨ic, hic⟩ : ∃ m, Hid (Sk.insC (Sk.meld kf l1 l2) + Sk.insD (Sk.meld kf l1 l2) = m) := ⟨_, show _ = _ from rfl⟩
    obtain ⟨s1, hs1⟩ : ∃ m, Hid (mn + ic = m) := ⟨_, show _ = _ from rfl⟩
    obtain ⟨rr, hrr⟩ : ∃ m, Hid (s1 + 2 = m) := ⟨_, show _ = _ from rfl⟩
    have hst4 := Sk.insert_steps (Sk.meld kf l1 l2)
    have hml := Sk.meldN_le kf l1 l2
    have hl1' := Rw.length_le l1
    have hl2' := Rw.length_le l2
    have hmsz : Rw.size (Sk.meld kf l1 l2) < 900000 := by
      have h5 := (Sk.meld_perm kf l1 l2).length_eq
      rw [List.length_append] at h5
      show (Rw.els _).length < _
      have : (Rw.els l1).length + (Rw.els l2).length < 800000 := hsz
      omega
    have e1 : IntKind.i64.wrap ((mn : Int) + (ic : Int)) = (s1 : Int) := by have := hic.out; have := hmn.out; have := hs1.out; rw [IntWalk.i64_in _ (by omega)]; omega
    have e2 : IntKind.i64.wrap ((s1 : Int) + 2) = (rr : Int) := by have := hic.out; have := hmn.out; have := hs1.out; have := hrr.out; rw [IntWalk.i64_in _ (by omega)]; omega
    have hcd : Hp.meldC (some (x1, l1)) (some (x2, l2)) + Hp.meldD (some (x1, l1)) (some (x2, l2)) = rr := by
      show 1 + Sk.meldN Hp.ke l1 l2 + Sk.insC (Sk.meld Hp.ke l1 l2) + (Sk.meldN Hp.ke l1 l2 + Sk.insD (Sk.meld Hp.ke l1 l2) + 1) = rr
      have h5 : Sk.meldN Hp.ke l1 l2 + Sk.meldN Hp.ke l1 l2 = mn := hmn.out
      have h6 : Sk.insC (Sk.meld Hp.ke l1 l2) + Sk.insD (Sk.meld Hp.ke l1 l2) = ic := hic.out
      have := hs1.out
      have := hrr.out
      omega
    clear hst4 hml hl1' hl2'
    cases hlt : El.lt x2 x1 with
    | true =>
      have heq : Hp.meld (some (x1, l1)) (some (x2, l2)) = some (x2, Sk.insert Hp.ke x1 (Sk.meld Hp.ke l1 l2)) := by rw [Hp.meld_some, if_pos hlt]
      go_enter Tryz.func11, Tryz.ntmps11
      have h0 := St.start hpre
      refine wp_seq ?_
      repeat (first | simp only [List.nil_append] at h0 | simp only [List.cons_append] at h0 | simp only [List.set_cons_zero] at h0 | simp only [List.set_cons_succ] at h0 | simp only [List.eraseIdx_zero] at h0 | simp only [List.tail_cons] at h0 | simp only [List.eraseIdx_cons_zero] at h0 | simp only [List.eraseIdx_cons_succ] at h0 | simp only [List.setIfInBounds_toArray] at h0)
      refine wp_region_lit ?_
      refine wpList_plainQ rfl (fun K Q' hK => ?_); go_simp
      refine h0.k_alloc (fun w1 h1 => ?_)
      refine hK _ _ ?_; clear hK K; try clear Q'
      refine wpList_plainQ rfl (fun K Q' hK => ?_); go_simp
      refine h1.k_alloc (fun w2 h2 => ?_)
      refine hK _ _ ?_; clear hK K; try clear Q'
      refine wpList_plainQ rfl (fun K Q' hK => ?_); go_simp
      refine h2.k_alloc (fun w3 h3 => ?_)
      refine hK _ _ ?_; clear hK K; try clear Q'
      iterate 1 (refine wpList_plainQ rfl (fun K Q' hK => ?_); go_simp; refine hK _ _ ?_; clear hK K; try clear Q')
      refine wpList_nil ?_
      show Code.wp _ _ _ _ _
      refine wp_seq ?_
      refine wp_seq ?_
      repeat (first | simp only [List.nil_append] at h3 | simp only [List.cons_append] at h3 | simp only [List.set_cons_zero] at h3 | simp only [List.set_cons_succ] at h3 | simp only [List.eraseIdx_zero] at h3 | simp only [List.tail_cons] at h3 | simp only [List.eraseIdx_cons_zero] at h3 | simp only [List.eraseIdx_cons_succ] at h3 | simp only [List.setIfInBounds_toArray] at h3)
      refine wp_region_lit ?_
      have c_0_0 := h3.cell 0 rfl 0 rfl
      iterate 3 (refine wpList_plainQ rfl (fun K Q' hK => ?_); go_simp; refine hK _ _ ?_; clear hK K; try clear Q')
      clear c_0_0
      refine wpList_nil ?_
      show Code.wp _ _ _ _ _
      -- stops at: cond
      refine wp_cond_false (rfl) ?_
      refine wp_skip ?_
      show Code.wp _ _ _ _ _
      refine wp_seq ?_
      refine wp_seq ?_
      refine wp_region_lit ?_
      have c_1_0 := h3.cell 1 rfl 0 rfl
      iterate 3 (refine wpList_plainQ rfl (fun K Q' hK => ?_); go_simp; refine hK _ _ ?_; clear hK K; try clear Q')
      clear c_1_0
      refine wpList_nil ?_
      show Code.wp _ _ _ _ _
      -- stops at: cond
      refine wp_cond_false (rfl) ?_
      refine wp_skip ?_
      show Code.wp _ _ _ _ _
      refine wp_seq ?_
      refine wp_region_lit ?_
      have c_0_1 := h3.cell 0 rfl 1 rfl
      have c_0_2 := h3.cell 0 rfl 2 rfl
      iterate 2 (refine wpList_plainQ rfl (fun K Q' hK => ?_); go_simp; refine hK _ _ ?_; clear hK K; try clear Q')
      clear c_0_1 c_0_2
      refine wpList_plainQ rfl (fun K Q' hK => ?_); go_simp
      refine h3.k_alloc (fun w4 h4 => ?_)
      refine hK _ _ ?_; clear hK K; try clear Q'
      have c_0 := h4.cell 3 rfl 0 rfl
      have f_0 := h4.free 3 rfl 0
      have c_1 := h4.cell 3 rfl 1 rfl
      have f_1 := h4.free 3 rfl 1
      refine wpList_plainQ rfl (fun K Q' hK => ?_); go_simp
      clear c_0 f_0 c_1 f_1
      refine (h4.set (i := 3) rfl 0 _).k_set 3 rfl (fun w5 h5 => ?_)
      refine hK _ _ ?_; clear hK K; try clear Q'
      refine wpList_nil ?_
      show Code.wp _ _ _ _ _
      refine wp_seq ?_
      repeat (first | simp only [List.nil_append] at h5 | simp only [List.cons_append] at h5 | simp only [List.set_cons_zero] at h5 | simp only [List.set_cons_succ] at h5 | simp only [List.eraseIdx_zero] at h5 | simp only [List.tail_cons] at h5 | simp only [List.eraseIdx_cons_zero] at h5 | simp only [List.eraseIdx_cons_succ] at h5 | simp only [List.setIfInBounds_toArray] at h5)
      refine wp_region_lit ?_
      have c_1_1 := h5.cell 1 rfl 1 rfl
      have c_1_2 := h5.cell 1 rfl 2 rfl
      iterate 2 (refine wpList_plainQ rfl (fun K Q' hK => ?_); go_simp; refine hK _ _ ?_; clear hK K; try clear Q')
      clear c_1_1 c_1_2
      refine wpList_plainQ rfl (fun K Q' hK => ?_); go_simp
      refine h5.k_alloc (fun w6 h6 => ?_)
      refine hK _ _ ?_; clear hK K; try clear Q'
      have c_0 := h6.cell 4 rfl 0 rfl
      have f_0 := h6.free 4 rfl 0
      have c_1 := h6.cell 4 rfl 1 rfl
      have f_1 := h6.free 4 rfl 1
      refine wpList_plainQ rfl (fun K Q' hK => ?_); go_simp
      clear c_0 f_0 c_1 f_1
      refine (h6.set (i := 4) rfl 0 _).k_set 4 rfl (fun w7 h7 => ?_)
      refine hK _ _ ?_; clear hK K; try clear Q'
      refine wpList_nil ?_
      show Code.wp _ _ _ _ _
      refine wp_seq ?_
      repeat (first | simp only [List.nil_append] at h7 | simp only [List.cons_append] at h7 | simp only [List.set_cons_zero] at h7 | simp only [List.set_cons_succ] at h7 | simp only [List.eraseIdx_zero] at h7 | simp only [List.tail_cons] at h7 | simp only [List.eraseIdx_cons_zero] at h7 | simp only [List.eraseIdx_cons_succ] at h7 | simp only [List.setIfInBounds_toArray] at h7)
      refine wp_region_lit ?_
      have c_1_1 := h7.cell 1 rfl 1 rfl
      have c_1_2 := h7.cell 1 rfl 2 rfl
      have c_0_1 := h7.cell 0 rfl 1 rfl
      have c_0_2 := h7.cell 0 rfl 2 rfl
      iterate 4 (refine wpList_plainQ rfl (fun K Q' hK => ?_); go_simp; refine hK _ _ ?_; clear hK K; try clear Q')
      clear c_1_1 c_1_2 c_0_1 c_0_2
      -- stops at: eff:call (Go.Op.call {'callee': (Go.Callee.value (Go.Operand.func 26)), 'args': [(Go.Operand.tmp 26), (Go.Operand.tmp 28)], 'argTypes': [32, 32]}) slot 29
      refine wpList_plainQ rfl (fun K Q' hK => ?_); go_simp
      refine (rless_ok H _ x2 x1 h7.fits).mono ?_
      rintro e wA ⟨rfl, hkA⟩
      rw [hlt]
      have h8 := h7.callk hkA
      refine hK _ _ ?_; clear hK K; try clear Q'
      iterate 1 (refine wpList_plainQ rfl (fun K Q' hK => ?_); go_simp; refine hK _ _ ?_; clear hK K; try clear Q')
      refine wpList_nil ?_
      show Code.wp _ _ _ _ _
      refine wp_seq ?_
      refine wp_seq ?_
      repeat (first | simp only [List.nil_append] at h8 | simp only [List.cons_append] at h8 | simp only [List.set_cons_zero] at h8 | simp only [List.set_cons_succ] at h8 | simp only [List.eraseIdx_zero] at h8 | simp only [List.tail_cons] at h8 | simp only [List.eraseIdx_cons_zero] at h8 | simp only [List.eraseIdx_cons_succ] at h8 | simp only [List.setIfInBounds_toArray] at h8)
      refine wp_region_lit ?_
      iterate 1 (refine wpList_plainQ rfl (fun K Q' hK => ?_); go_simp; refine hK _ _ ?_; clear hK K; try clear Q')
      refine wpList_nil ?_
      show Code.wp _ _ _ _ _
      -- stops at: cond
      refine wp_cond_true (rfl) ?_
      refine wp_seq ?_
      refine wp_region_lit ?_
      have c_1_1 := h8.cell 1 rfl 1 rfl
      have c_1_2 := h8.cell 1 rfl 2 rfl
      iterate 2 (refine wpList_plainQ rfl (fun K Q' hK => ?_); go_simp; refine hK _ _ ?_; clear hK K; try clear Q')
      clear c_1_1 c_1_2
      have c_0 := h8.cell 3 rfl 0 rfl
      have f_0 := h8.free 3 rfl 0
      have c_1 := h8.cell 3 rfl 1 rfl
      have f_1 := h8.free 3 rfl 1
      refine wpList_plainQ rfl (fun K Q' hK => ?_); go_simp
      clear c_0 f_0 c_1 f_1
      refine (h8.set (i := 3) rfl 0 _).k_set 3 rfl (fun w9 h9 => ?_)
      refine hK _ _ ?_; clear hK K; try clear Q'
      refine wpList_nil ?_
      show Code.wp _ _ _ _ _
      repeat (first | simp only [List.nil_append] at h9 | simp only [List.cons_append] at h9 | simp only [List.set_cons_zero] at h9 | simp only [List.set_cons_succ] at h9 | simp only [List.eraseIdx_zero] at h9 | simp only [List.tail_cons] at h9 | simp only [List.eraseIdx_cons_zero] at h9 | simp only [List.eraseIdx_cons_succ] at h9 | simp only [List.setIfInBounds_toArray] at h9)
      refine wp_region_lit ?_
      have c_0_1 := h9.cell 0 rfl 1 rfl
      have c_0_2 := h9.cell 0 rfl 2 rfl
      iterate 2 (refine wpList_plainQ rfl (fun K Q' hK => ?_); go_simp; refine hK _ _ ?_; clear hK K; try clear Q')
      clear c_0_1 c_0_2
      have c_0 := h9.cell 4 rfl 0 rfl
      have f_0 := h9.free 4 rfl 0
      have c_1 := h9.cell 4 rfl 1 rfl
      have f_1 := h9.free 4 rfl 1
      refine wpList_plainQ rfl (fun K Q' hK => ?_); go_simp
      clear c_0 f_0 c_1 f_1
      refine (h9.set (i := 4) rfl 0 _).k_set 4 rfl (fun w10 h10 => ?_)
      refine hK _ _ ?_; clear hK K; try clear Q'
      refine wpList_nil ?_
      show Code.wp _ _ _ _ _
      refine wp_seq ?_
      repeat (first | simp only [List.nil_append] at h10 | simp only [List.cons_append] at h10 | simp only [List.set_cons_zero] at h10 | simp only [List.set_cons_succ] at h10 | simp only [List.eraseIdx_zero] at h10 | simp only [List.tail_cons] at h10 | simp only [List.eraseIdx_cons_zero] at h10 | simp only [List.eraseIdx_cons_succ] at h10 | simp only [List.setIfInBounds_toArray] at h10)
      refine wp_region_lit ?_
      have c_0_3 := h10.cell 0 rfl 3 rfl
      have c_1_3 := h10.cell 1 rfl 3 rfl
      iterate 4 (refine wpList_plainQ rfl (fun K Q' hK => ?_); go_simp; refine hK _ _ ?_; clear hK K; try clear Q')
      clear c_0_3 c_1_3
      -- stops at: eff:call (Go.Op.call {'callee': (Go.Callee.value (Go.Operand.func 29)), 'args': [(Go.Operand.tmp 37), (Go.Operand.tmp 39)], 'argTypes': [35, 35]}) slot 40
      refine wpList_plainQ rfl (fun K Q' hK => ?_); go_simp
      refine (r9meld_ok H _ _ _ l1 l2 h10.fits (by omega) hl1 hl2).mono ?_
      rintro e wB ⟨q, H2, rfl, hpB, hB⟩
      rw [hmn.out]
      obtain ⟨aQ, cQ, rfl, _, _⟩ := hB.form
      have h11 := h10.call0 hpB
      refine hK _ _ ?_; clear hK K; try clear Q'
      iterate 3 (refine wpList_plainQ rfl (fun K Q' hK => ?_); go_simp; refine hK _ _ ?_; clear hK K; try clear Q')
      refine wpList_plainQ rfl (fun K Q' hK => ?_); go_simp
      refine h11.k_alloc (fun w12 h12 => ?_)
      refine hK _ _ ?_; clear hK K; try clear Q'
      have c_0 := h12.cell 5 rfl 0 rfl
      have f_0 := h12.free 5 rfl 0
      refine wpList_plainQ rfl (fun K Q' hK => ?_); go_simp
      clear c_0 f_0
      refine h12.k_set 5 rfl (fun w13 h13 => ?_)
      refine hK _ _ ?_; clear hK K; try clear Q'
      iterate 1 (refine wpList_plainQ rfl (fun K Q' hK => ?_); go_simp; refine hK _ _ ?_; clear hK K; try clear Q')
      refine wpList_nil ?_
      show Code.wp _ _ _ _ _
      refine wp_seq ?_
      repeat (first | simp only [List.nil_append] at h13 | simp only [List.cons_append] at h13 | simp only [List.set_cons_zero] at h13 | simp only [List.set_cons_succ] at h13 | simp only [List.eraseIdx_zero] at h13 | simp only [List.tail_cons] at h13 | simp only [List.eraseIdx_cons_zero] at h13 | simp only [List.eraseIdx_cons_succ] at h13 | simp only [List.setIfInBounds_toArray] at h13)
      refine wp_region_lit ?_
      have c_4_0 := h13.cell 4 rfl 0 rfl
      have c_4_1 := h13.cell 4 rfl 1 rfl
      have c_5_0 := h13.cell 5 rfl 0 rfl
      iterate 2 (refine wpList_plainQ rfl (fun K Q' hK => ?_); go_simp; refine hK _ _ ?_; clear hK K; try clear Q')
      clear c_4_0 c_4_1 c_5_0
      -- stops at: eff:call (Go.Op.call {'callee': (Go.Callee.value (Go.Operand.func 27)), 'args': [(Go.Operand.tmp 44), (Go.Operand.tmp 45)], 'argTypes': [32, 35]}) slot 46
      refine wpList_plainQ rfl (fun K Q' hK => ?_); go_simp
      refine (r9insert_ok H2 _ x1 _ _ h13.fits hmsz hB).mono ?_
      rintro e wC ⟨q3, H3, rfl, hpC, hC⟩
      rw [hic.out]
      obtain ⟨aR, cR, rfl, _, _⟩ := hC.form
      have h14 := h13.call0 hpC
      refine hK _ _ ?_; clear hK K; try clear Q'
      iterate 3 (refine wpList_plainQ rfl (fun K Q' hK => ?_); go_simp; refine hK _ _ ?_; clear hK K; try clear Q')
      refine wpList_plainQ rfl (fun K Q' hK => ?_); go_simp
      refine h14.k_alloc (fun w15 h15 => ?_)
      refine hK _ _ ?_; clear hK K; try clear Q'
      have c_0 := h15.cell 6 rfl 0 rfl
      have f_0 := h15.free 6 rfl 0
      refine wpList_plainQ rfl (fun K Q' hK => ?_); go_simp
      clear c_0 f_0
      refine h15.k_set 6 rfl (fun w16 h16 => ?_)
      refine hK _ _ ?_; clear hK K; try clear Q'
      iterate 1 (refine wpList_plainQ rfl (fun K Q' hK => ?_); go_simp; refine hK _ _ ?_; clear hK K; try clear Q')
      refine wpList_nil ?_
      show Code.wp _ _ _ _ _
      refine wp_seq ?_
      repeat (first | simp only [List.nil_append] at h16 | simp only [List.cons_append] at h16 | simp only [List.set_cons_zero] at h16 | simp only [List.set_cons_succ] at h16 | simp only [List.eraseIdx_zero] at h16 | simp only [List.tail_cons] at h16 | simp only [List.eraseIdx_cons_zero] at h16 | simp only [List.eraseIdx_cons_succ] at h16 | simp only [List.setIfInBounds_toArray] at h16)
      refine wp_region_lit ?_
      have c_3_0 := h16.cell 3 rfl 0 rfl
      have c_3_1 := h16.cell 3 rfl 1 rfl
      have c_6_0 := h16.cell 6 rfl 0 rfl
      iterate 7 (refine wpList_plainQ rfl (fun K Q' hK => ?_); go_simp; refine hK _ _ ?_; clear hK K; try clear Q')
      clear c_3_0 c_3_1 c_6_0
      have c_0 := h16.cell 2 rfl 0 rfl
      have f_0 := h16.free 2 rfl 0
      have c_1 := h16.cell 2 rfl 1 rfl
      have f_1 := h16.free 2 rfl 1
      have c_2 := h16.cell 2 rfl 2 rfl
      have f_2 := h16.free 2 rfl 2
      have c_3 := h16.cell 2 rfl 3 rfl
      have f_3 := h16.free 2 rfl 3
      refine wpList_plainQ rfl (fun K Q' hK => ?_); go_simp
      clear c_0 f_0 c_1 f_1 c_2 f_2 c_3 f_3
      refine (((h16.set (i := 2) rfl 0 _).set (i := 2) rfl 1 _).set (i := 2) rfl 2 _).k_set 2 rfl (fun w17 h17 => ?_)
      refine hK _ _ ?_; clear hK K; try clear Q'
      iterate 1 (refine wpList_plainQ rfl (fun K Q' hK => ?_); go_simp; refine hK _ _ ?_; clear hK K; try clear Q')
      refine wpList_nil ?_
      show Code.wp _ _ _ _ _
      -- stops at: ret
      refine wp_ret ?_
      have r_2_0 := h17.cell 2 rfl 0 rfl
      have r_2_1 := h17.cell 2 rfl 1 rfl
      have r_2_2 := h17.cell 2 rfl 2 rfl
      have r_2_3 := h17.cell 2 rfl 3 rfl
      first | show bodyPost _ _ _ _ _ _ | (simp only [Exit.then]; show bodyPost _ _ _ _ _ _) | (simp only [Exit.inBlock]; show bodyPost _ _ _ _ _ _) | (simp only [Exit.inBlock, Exit.then]; show bodyPost _ _ _ _ _ _) | (simp only [Exit.noGoto, Exit.inBlock, Exit.then]; show bodyPost _ _ _ _ _ _)
      refine bodyPost_ret (v := ?_) ?_ rfl ?_
      rotate_left
      · simp only [results, Tryz.results11]; go_simp; with_reducible rfl
      clear r_2_0 r_2_1 r_2_2 r_2_3
      refine ⟨[.bool true, .int .i64 x2.1, .int .i64 x2.2, .slice aR _ cR], H3, by rw [hcd], h17.post, ?_⟩
      rw [heq]
      exact ⟨_, rfl, hC⟩
    | false =>
      have heq : Hp.meld (some (x1, l1)) (some (x2, l2)) = some (x1, Sk.insert Hp.ke x2 (Sk.meld Hp.ke l1 l2)) := by rw [Hp.meld_some, if_neg (by simp [hlt])]
      go_enter Tryz.func11, Tryz.ntmps11
      have h0 := St.start hpre
      refine wp_seq ?_
      repeat (first | simp only [List.nil_append] at h0 | simp only [List.cons_append] at h0 | simp only [List.set_cons_zero] at h0 | simp only [List.set_cons_succ] at h0 | simp only [List.eraseIdx_zero] at h0 | simp only [List.tail_cons] at h0 | simp only [List.eraseIdx_cons_zero] at h0 | simp only [List.eraseIdx_cons_succ] at h0 | simp only [List.setIfInBounds_toArray] at h0)
      refine wp_region_lit ?_
      refine wpList_plainQ rfl (fun K Q' hK => ?_); go_simp
      refine h0.k_alloc (fun w1 h1 => ?_)
      refine hK _ _ ?_; clear hK K; try clear Q'
      refine wpList_plainQ rfl (fun K Q' hK => ?_); go_simp
      refine h1.k_alloc (fun w2 h2 => ?_)
      refine hK _ _ ?_; clear hK K; try clear Q'
      refine wpList_plainQ rfl (fun K Q' hK => ?_); go_simp
      refine h2.k_alloc (fun w3 h3 => ?_)
      refine hK _ _ ?_; clear hK K; try clear Q'
      iterate 1 (refine wpList_plainQ rfl (fun K Q' hK => ?_); go_simp; refine hK _ _ ?_; clear hK K; try clear Q')
      refine wpList_nil ?_
      show Code.wp _ _ _ _ _
      refine wp_seq ?_
      refine wp_seq ?_
      repeat (first | simp only [List.nil_append] at h3 | simp only [List.cons_append] at h3 | simp only [List.set_cons_zero] at h3 | simp only [List.set_cons_succ] at h3 | simp only [List.eraseIdx_zero] at h3 | simp only [List.tail_cons] at h3 | simp only [List.eraseIdx_cons_zero] at h3 | simp only [List.eraseIdx_cons_succ] at h3 | simp only [List.setIfInBounds_toArray] at h3)
      refine wp_region_lit ?_
      have c_0_0 := h3.cell 0 rfl 0 rfl
      iterate 3 (refine wpList_plainQ rfl (fun K Q' hK => ?_); go_simp; refine hK _ _ ?_; clear hK K; try clear Q')
      clear c_0_0
      refine wpList_nil ?_
      show Code.wp _ _ _ _ _
      -- stops at: cond
      refine wp_cond_false (rfl) ?_
      refine wp_skip ?_
      show Code.wp _ _ _ _ _
      refine wp_seq ?_
      refine wp_seq ?_
      refine wp_region_lit ?_
      have c_1_0 := h3.cell 1 rfl 0 rfl
      iterate 3 (refine wpList_plainQ rfl (fun K Q' hK => ?_); go_simp; refine hK _ _ ?_; clear hK K; try clear Q')
      clear c_1_0
      refine wpList_nil ?_
      show Code.wp _ _ _ _ _
      -- stops at: cond
      refine wp_cond_false (rfl) ?_
      refine wp_skip ?_
      show Code.wp _ _ _ _ _
      refine wp_seq ?_
      refine wp_region_lit ?_
      have c_0_1 := h3.cell 0 rfl 1 rfl
      have c_0_2 := h3.cell 0 rfl 2 rfl
      iterate 2 (refine wpList_plainQ rfl (fun K Q' hK => ?_); go_simp; refine hK _ _ ?_; clear hK K; try clear Q')
      clear c_0_1 c_0_2
      refine wpList_plainQ rfl (fun K Q' hK => ?_); go_simp
      refine h3.k_alloc (fun w4 h4 => ?_)
      refine hK _ _ ?_; clear hK K; try clear Q'
      have c_0 := h4.cell 3 rfl 0 rfl
      have f_0 := h4.free 3 rfl 0
      have c_1 := h4.cell 3 rfl 1 rfl
      have f_1 := h4.free 3 rfl 1
      refine wpList_plainQ rfl (fun K Q' hK => ?_); go_simp
      clear c_0 f_0 c_1 f_1
      refine (h4.set (i := 3) rfl 0 _).k_set 3 rfl (fun w5 h5 => ?_)
      refine hK _ _ ?_; clear hK K; try clear Q'
      refine wpList_nil ?_
      show Code.wp _ _ _ _ _
      refine wp_seq ?_
      repeat (first | simp only [List.nil_append] at h5 | simp only [List.cons_append] at h5 | simp only [List.set_cons_zero] at h5 | simp only [List.set_cons_succ] at h5 | simp only [List.eraseIdx_zero] at h5 | simp only [List.tail_cons] at h5 | simp only [List.eraseIdx_cons_zero] at h5 | simp only [List.eraseIdx_cons_succ] at h5 | simp only [List.setIfInBounds_toArray] at h5)
      refine wp_region_lit ?_
      have c_1_1 := h5.cell 1 rfl 1 rfl
      have c_1_2 := h5.cell 1 rfl 2 rfl
      iterate 2 (refine wpList_plainQ rfl (fun K Q' hK => ?_); go_simp; refine hK _ _ ?_; clear hK K; try clear Q')
      clear c_1_1 c_1_2
      refine wpList_plainQ rfl (fun K Q' hK => ?_); go_simp
      refine h5.k_alloc (fun w6 h6 => ?_)
      refine hK _ _ ?_; clear hK K; try clear Q'
      have c_0 := h6.cell 4 rfl 0 rfl
      have f_0 := h6.free 4 rfl 0
      have c_1 := h6.cell 4 rfl 1 rfl
      have f_1 := h6.free 4 rfl 1
      refine wpList_plainQ rfl (fun K Q' hK => ?_); go_simp
      clear c_0 f_0 c_1 f_1
      refine (h6.set (i := 4) rfl 0 _).k_set 4 rfl (fun w7 h7 => ?_)
      refine hK _ _ ?_; clear hK K; try clear Q'
      refine wpList_nil ?_
      show Code.wp _ _ _ _ _
      refine wp_seq ?_
      repeat (first | simp only [List.nil_append] at h7 | simp only [List.cons_append] at h7 | simp only [List.set_cons_zero] at h7 | simp only [List.set_cons_succ] at h7 | simp only [List.eraseIdx_zero] at h7 | simp only [List.tail_cons] at h7 | simp only [List.eraseIdx_cons_zero] at h7 | simp only [List.eraseIdx_cons_succ] at h7 | simp only [List.setIfInBounds_toArray] at h7)
      refine wp_region_lit ?_
      have c_1_1 := h7.cell 1 rfl 1 rfl
      have c_1_2 := h7.cell 1 rfl 2 rfl
      have c_0_1 := h7.cell 0 rfl 1 rfl
      have c_0_2 := h7.cell 0 rfl 2 rfl
      iterate 4 (refine wpList_plainQ rfl (fun K Q' hK => ?_); go_simp; refine hK _ _ ?_; clear hK K; try clear Q')
      clear c_1_1 c_1_2 c_0_1 c_0_2
      -- stops at: eff:call (Go.Op.call {'callee': (Go.Callee.value (Go.Operand.func 26)), 'args': [(Go.Operand.tmp 26), (Go.Operand.tmp 28)], 'argTypes': [32, 32]}) slot 29
      refine wpList_plainQ rfl (fun K Q' hK => ?_); go_simp
      refine (rless_ok H _ x2 x1 h7.fits).mono ?_
      rintro e wA ⟨rfl, hkA⟩
      rw [hlt]
      have h8 := h7.callk hkA
      refine hK _ _ ?_; clear hK K; try clear Q'
      iterate 1 (refine wpList_plainQ rfl (fun K Q' hK => ?_); go_simp; refine hK _ _ ?_; clear hK K; try clear Q')
      refine wpList_nil ?_
      show Code.wp _ _ _ _ _
      refine wp_seq ?_
      refine wp_seq ?_
      repeat (first | simp only [List.nil_append] at h8 | simp only [List.cons_append] at h8 | simp only [List.set_cons_zero] at h8 | simp only [List.set_cons_succ] at h8 | simp only [List.eraseIdx_zero] at h8 | simp only [List.tail_cons] at h8 | simp only [List.eraseIdx_cons_zero] at h8 | simp only [List.eraseIdx_cons_succ] at h8 | simp only [List.setIfInBounds_toArray] at h8)
      refine wp_region_lit ?_
      iterate 1 (refine wpList_plainQ rfl (fun K Q' hK => ?_); go_simp; refine hK _ _ ?_; clear hK K; try clear Q')
      refine wpList_nil ?_
      show Code.wp _ _ _ _ _
      -- stops at: cond
      refine wp_cond_false (rfl) ?_
      refine wp_skip ?_
      show Code.wp _ _ _ _ _
      refine wp_seq ?_
      refine wp_region_lit ?_
      have c_0_3 := h8.cell 0 rfl 3 rfl
      have c_1_3 := h8.cell 1 rfl 3 rfl
      iterate 4 (refine wpList_plainQ rfl (fun K Q' hK => ?_); go_simp; refine hK _ _ ?_; clear hK K; try clear Q')
      clear c_0_3 c_1_3
      -- stops at: eff:call (Go.Op.call {'callee': (Go.Callee.value (Go.Operand.func 29)), 'args': [(Go.Operand.tmp 37), (Go.Operand.tmp 39)], 'argTypes': [35, 35]}) slot 40
      refine wpList_plainQ rfl (fun K Q' hK => ?_); go_simp
      refine (r9meld_ok H _ _ _ l1 l2 h8.fits (by omega) hl1 hl2).mono ?_
      rintro e wB ⟨q, H2, rfl, hpB, hB⟩
      rw [hmn.out]
      obtain ⟨aQ, cQ, rfl, _, _⟩ := hB.form
      have h9 := h8.call0 hpB
      refine hK _ _ ?_; clear hK K; try clear Q'
      iterate 3 (refine wpList_plainQ rfl (fun K Q' hK => ?_); go_simp; refine hK _ _ ?_; clear hK K; try clear Q')
      refine wpList_plainQ rfl (fun K Q' hK => ?_); go_simp
      refine h9.k_alloc (fun w10 h10 => ?_)
      refine hK _ _ ?_; clear hK K; try clear Q'
      have c_0 := h10.cell 5 rfl 0 rfl
      have f_0 := h10.free 5 rfl 0
      refine wpList_plainQ rfl (fun K Q' hK => ?_); go_simp
      clear c_0 f_0
      refine h10.k_set 5 rfl (fun w11 h11 => ?_)
      refine hK _ _ ?_; clear hK K; try clear Q'
      iterate 1 (refine wpList_plainQ rfl (fun K Q' hK => ?_); go_simp; refine hK _ _ ?_; clear hK K; try clear Q')
      refine wpList_nil ?_
      show Code.wp _ _ _ _ _
      refine wp_seq ?_
      repeat (first | simp only [List.nil_append] at h11 | simp only [List.cons_append] at h11 | simp only [List.set_cons_zero] at h11 | simp only [List.set_cons_succ] at h11 | simp only [List.eraseIdx_zero] at h11 | simp only [List.tail_cons] at h11 | simp only [List.eraseIdx_cons_zero] at h11 | simp only [List.eraseIdx_cons_succ] at h11 | simp only [List.setIfInBounds_toArray] at h11)
      refine wp_region_lit ?_
      have c_4_0 := h11.cell 4 rfl 0 rfl
      have c_4_1 := h11.cell 4 rfl 1 rfl
      have c_5_0 := h11.cell 5 rfl 0 rfl
      iterate 2 (refine wpList_plainQ rfl (fun K Q' hK => ?_); go_simp; refine hK _ _ ?_; clear hK K; try clear Q')
      clear c_4_0 c_4_1 c_5_0
      -- stops at: eff:call (Go.Op.call {'callee': (Go.Callee.value (Go.Operand.func 27)), 'args': [(Go.Operand.tmp 44), (Go.Operand.tmp 45)], 'argTypes': [32, 35]}) slot 46
      refine wpList_plainQ rfl (fun K Q' hK => ?_); go_simp
      refine (r9insert_ok H2 _ x2 _ _ h11.fits hmsz hB).mono ?_
      rintro e wC ⟨q3, H3, rfl, hpC, hC⟩
      rw [hic.out]
      obtain ⟨aR, cR, rfl, _, _⟩ := hC.form
      have h12 := h11.call0 hpC
      refine hK _ _ ?_; clear hK K; try clear Q'
      iterate 3 (refine wpList_plainQ rfl (fun K Q' hK => ?_); go_simp; refine hK _ _ ?_; clear hK K; try clear Q')
      refine wpList_plainQ rfl (fun K Q' hK => ?_); go_simp
      refine h12.k_alloc (fun w13 h13 => ?_)
      refine hK _ _ ?_; clear hK K; try clear Q'
      have c_0 := h13.cell 6 rfl 0 rfl
      have f_0 := h13.free 6 rfl 0
      refine wpList_plainQ rfl (fun K Q' hK => ?_); go_simp
      clear c_0 f_0
      refine h13.k_set 6 rfl (fun w14 h14 => ?_)
      refine hK _ _ ?_; clear hK K; try clear Q'
      iterate 1 (refine wpList_plainQ rfl (fun K Q' hK => ?_); go_simp; refine hK _ _ ?_; clear hK K; try clear Q')
      refine wpList_nil ?_
      show Code.wp _ _ _ _ _
      refine wp_seq ?_
      repeat (first | simp only [List.nil_append] at h14 | simp only [List.cons_append] at h14 | simp only [List.set_cons_zero] at h14 | simp only [List.set_cons_succ] at h14 | simp only [List.eraseIdx_zero] at h14 | simp only [List.tail_cons] at h14 | simp only [List.eraseIdx_cons_zero] at h14 | simp only [List.eraseIdx_cons_succ] at h14 | simp only [List.setIfInBounds_toArray] at h14)
      refine wp_region_lit ?_
      have c_3_0 := h14.cell 3 rfl 0 rfl
      have c_3_1 := h14.cell 3 rfl 1 rfl
      have c_6_0 := h14.cell 6 rfl 0 rfl
      iterate 7 (refine wpList_plainQ rfl (fun K Q' hK => ?_); go_simp; refine hK _ _ ?_; clear hK K; try clear Q')
      clear c_3_0 c_3_1 c_6_0
      have c_0 := h14.cell 2 rfl 0 rfl
      have f_0 := h14.free 2 rfl 0
      have c_1 := h14.cell 2 rfl 1 rfl
      have f_1 := h14.free 2 rfl 1
      have c_2 := h14.cell 2 rfl 2 rfl
      have f_2 := h14.free 2 rfl 2
      have c_3 := h14.cell 2 rfl 3 rfl
      have f_3 := h14.free 2 rfl 3
      refine wpList_plainQ rfl (fun K Q' hK => ?_); go_simp
      clear c_0 f_0 c_1 f_1 c_2 f_2 c_3 f_3
      refine (((h14.set (i := 2) rfl 0 _).set (i := 2) rfl 1 _).set (i := 2) rfl 2 _).k_set 2 rfl (fun w15 h15 => ?_)
      refine hK _ _ ?_; clear hK K; try clear Q'
      iterate 1 (refine wpList_plainQ rfl (fun K Q' hK => ?_); go_simp; refine hK _ _ ?_; clear hK K; try clear Q')
      refine wpList_nil ?_
      show Code.wp _ _ _ _ _
      -- stops at: ret
      refine wp_ret ?_
      have r_2_0 := h15.cell 2 rfl 0 rfl
      have r_2_1 := h15.cell 2 rfl 1 rfl
      have r_2_2 := h15.cell 2 rfl 2 rfl
      have r_2_3 := h15.cell 2 rfl 3 rfl
      first | show bodyPost _ _ _ _ _ _ | (simp only [Exit.then]; show bodyPost _ _ _ _ _ _) | (simp only [Exit.inBlock]; show bodyPost _ _ _ _ _ _) | (simp only [Exit.inBlock, Exit.then]; show bodyPost _ _ _ _ _ _) | (simp only [Exit.noGoto, Exit.inBlock, Exit.then]; show bodyPost _ _ _ _ _ _)
      refine bodyPost_ret (v := ?_) ?_ rfl ?_
      rotate_left
      · simp only [results, Tryz.results11]; go_simp; with_reducible rfl
      clear r_2_0 r_2_1 r_2_2 r_2_3
      refine ⟨[.bool true, .int .i64 x1.1, .int .i64 x1.2, .slice aR _ cR], H3, by rw [hcd], h15.post, ?_⟩
      rw [heq]
      exact ⟨_, rfl, hC⟩

set_option maxRecDepth 100000 in
set_option maxHeartbeats 4000000 in
theorem wpop_ok {w : World} {H : GH} {cs : List Value} {t : Hp} (hf : Fits w H) (hn : Hp.size t < 800000) (h : WvR H cs t) :
    Calls Tryz.prog 13 #[.agg cs.toArray] w fun e w' => ∃ ds H', e = .returned (.tuple #[.agg ds.toArray, .int .i64 (Hp.popC t + Hp.popD t : Nat)]) ∧ Post w H none w' H' 0 0 ∧ WvR H' ds (Hp.pop t) := by
  have hpre : Pre w H none 0 0 := Pre.none hf 0 0
  match t, hn, h with
  | none, hn, h =>
    obtain rfl := h
    go_enter Tryz.func13, Tryz.ntmps13
    have h0 := St.start hpre
    refine wp_seq ?_
    repeat (first | simp only [List.nil_append] at h0 | simp only [List.cons_append] at h0 | simp only [List.set_cons_zero] at h0 | simp only [List.set_cons_succ] at h0 | simp only [List.eraseIdx_zero] at h0 | simp only [List.tail_cons] at h0 | simp only [List.eraseIdx_cons_zero] at h0 | simp only [List.eraseIdx_cons_succ] at h0 | simp only [List.setIfInBounds_toArray] at h0)
    refine wp_region_lit ?_
    refine wpList_plainQ rfl (fun K Q' hK => ?_); go_simp
    refine h0.k_alloc (fun w1 h1 => ?_)
    refine hK _ _ ?_; clear hK K; try clear Q'
    refine wpList_plainQ rfl (fun K Q' hK => ?_); go_simp
    refine h1.k_alloc (fun w2 h2 => ?_)
    refine hK _ _ ?_; clear hK K; try clear Q'
    iterate 1 (refine wpList_plainQ rfl (fun K Q' hK => ?_); go_simp; refine hK _ _ ?_; clear hK K; try clear Q')
    refine wpList_nil ?_
    show Code.wp _ _ _ _ _
    refine wp_seq ?_
    refine wp_seq ?_
    repeat (first | simp only [List.nil_append] at h2 | simp only [List.cons_append] at h2 | simp only [List.set_cons_zero] at h2 | simp only [List.set_cons_succ] at h2 | simp only [List.eraseIdx_zero] at h2 | simp only [List.tail_cons] at h2 | simp only [List.eraseIdx_cons_zero] at h2 | simp only [List.eraseIdx_cons_succ] at h2 | simp only [List.setIfInBounds_toArray] at h2)
    refine wp_region_lit ?_
    have c_0_3 := h2.cell 0 rfl 3 rfl
    iterate 2 (refine wpList_plainQ rfl (fun K Q' hK => ?_); go_simp; refine hK _ _ ?_; clear hK K; try clear Q')
    clear c_0_3
    -- stops at: eff:call (Go.Op.call {'callee': (Go.Callee.value (Go.Operand.func 22)), 'args': [(Go.Operand.tmp 9)], 'argTypes': [35]}) slot 10
    refine wpList_plainQ rfl (fun K Q' hK => ?_); go_simp
    refine (r9size_ok H _ _ [] h2.fits (by simp [Rw.size, Rw.els]) (RsV.nil H)).mono ?_
    rintro e wA ⟨rfl, hkA⟩
    rw [show Rw.size ([] : List (Tr El)) = 0 from rfl]
    have h3 := h2.callk hkA
    refine hK _ _ ?_; clear hK K; try clear Q'
    iterate 1 (refine wpList_plainQ rfl (fun K Q' hK => ?_); go_simp; refine hK _ _ ?_; clear hK K; try clear Q')
    refine wpList_nil ?_
    show Code.wp _ _ _ _ _
    -- stops at: cond
    refine wp_cond_true (rfl) ?_
    refine wp_seq ?_
    repeat (first | simp only [List.nil_append] at h3 | simp only [List.cons_append] at h3 | simp only [List.set_cons_zero] at h3 | simp only [List.set_cons_succ] at h3 | simp only [List.eraseIdx_zero] at h3 | simp only [List.tail_cons] at h3 | simp only [List.eraseIdx_cons_zero] at h3 | simp only [List.eraseIdx_cons_succ] at h3 | simp only [List.setIfInBounds_toArray] at h3)
    refine wp_region_lit ?_
    iterate 1 (refine wpList_plainQ rfl (fun K Q' hK => ?_); go_simp; refine hK _ _ ?_; clear hK K; try clear Q')
    have c_0 := h3.cell 1 rfl 0 rfl
    have f_0 := h3.free 1 rfl 0
    have c_1 := h3.cell 1 rfl 1 rfl
    have f_1 := h3.free 1 rfl 1
    have c_2 := h3.cell 1 rfl 2 rfl
    have f_2 := h3.free 1 rfl 2
    have c_3 := h3.cell 1 rfl 3 rfl
    have f_3 := h3.free 1 rfl 3
    refine wpList_plainQ rfl (fun K Q' hK => ?_); go_simp
    clear c_0 f_0 c_1 f_1 c_2 f_2 c_3 f_3
    refine (((h3.set (i := 1) rfl 0 _).set (i := 1) rfl 1 _).set (i := 1) rfl 2 _).k_set 1 rfl (fun w4 h4 => ?_)
    refine hK _ _ ?_; clear hK K; try clear Q'
    iterate 1 (refine wpList_plainQ rfl (fun K Q' hK => ?_); go_simp; refine hK _ _ ?_; clear hK K; try clear Q')
    refine wpList_nil ?_
    show Code.wp _ _ _ _ _
    -- stops at: ret
    refine wp_ret ?_
    have r_1_0 := h4.cell 1 rfl 0 rfl
    have r_1_1 := h4.cell 1 rfl 1 rfl
    have r_1_2 := h4.cell 1 rfl 2 rfl
    have r_1_3 := h4.cell 1 rfl 3 rfl
    first | show bodyPost _ _ _ _ _ _ | (simp only [Exit.then]; show bodyPost _ _ _ _ _ _) | (simp only [Exit.inBlock]; show bodyPost _ _ _ _ _ _) | (simp only [Exit.inBlock, Exit.then]; show bodyPost _ _ _ _ _ _) | (simp only [Exit.noGoto, Exit.inBlock, Exit.then]; show bodyPost _ _ _ _ _ _)
    refine bodyPost_ret (v := ?_) ?_ rfl ?_
    rotate_left
    · simp only [results, Tryz.results13]; go_simp; with_reducible rfl
    clear r_1_0 r_1_1 r_1_2 r_1_3
    exact ⟨_, H, rfl, h4.post, rfl⟩
  | some (r, l), hn, h =>
    obtain ⟨q0, rfl, hl⟩ := h
    obtain ⟨a0, c0, rfl, _, _⟩ := hl.form
    have hsz : Rw.size l < 800000 := by have : (Rw.els l).length + 1 < 800000 := hn; show (Rw.els l).length < _; omega
    cases hm : Rw.min? kf l with
    | none =>
      obtain rfl : l = [] := Rw.min_none kf hm
      go_enter Tryz.func13, Tryz.ntmps13
      have h0 := St.start hpre
      refine wp_seq ?_
      repeat (first | simp only [List.nil_append] at h0 | simp only [List.cons_append] at h0 | simp only [List.set_cons_zero] at h0 | simp only [List.set_cons_succ] at h0 | simp only [List.eraseIdx_zero] at h0 | simp only [List.tail_cons] at h0 | simp only [List.eraseIdx_cons_zero] at h0 | simp only [List.eraseIdx_cons_succ] at h0 | simp only [List.setIfInBounds_toArray] at h0)
      refine wp_region_lit ?_
      refine wpList_plainQ rfl (fun K Q' hK => ?_); go_simp
      refine h0.k_alloc (fun w1 h1 => ?_)
      refine hK _ _ ?_; clear hK K; try clear Q'
      refine wpList_plainQ rfl (fun K Q' hK => ?_); go_simp
      refine h1.k_alloc (fun w2 h2 => ?_)
      refine hK _ _ ?_; clear hK K; try clear Q'
      iterate 1 (refine wpList_plainQ rfl (fun K Q' hK => ?_); go_simp; refine hK _ _ ?_; clear hK K; try clear Q')
      refine wpList_nil ?_
      show Code.wp _ _ _ _ _
      refine wp_seq ?_
      refine wp_seq ?_
      repeat (first | simp only [List.nil_append] at h2 | simp only [List.cons_append] at h2 | simp only [List.set_cons_zero] at h2 | simp only [List.set_cons_succ] at h2 | simp only [List.eraseIdx_zero] at h2 | simp only [List.tail_cons] at h2 | simp only [List.eraseIdx_cons_zero] at h2 | simp only [List.eraseIdx_cons_succ] at h2 | simp only [List.setIfInBounds_toArray] at h2)
      refine wp_region_lit ?_
      have c_0_3 := h2.cell 0 rfl 3 rfl
      iterate 2 (refine wpList_plainQ rfl (fun K Q' hK => ?_); go_simp; refine hK _ _ ?_; clear hK K; try clear Q')
      clear c_0_3
      -- stops at: eff:call (Go.Op.call {'callee': (Go.Callee.value (Go.Operand.func 22)), 'args': [(Go.Operand.tmp 9)], 'argTypes': [35]}) slot 10
      refine wpList_plainQ rfl (fun K Q' hK => ?_); go_simp
      refine (r9size_ok H _ _ [] h2.fits (by simp [Rw.size, Rw.els]) hl).mono ?_
      rintro e wA ⟨rfl, hkA⟩
      rw [show Rw.size ([] : List (Tr El)) = 0 from rfl]
      have h3 := h2.callk hkA
      refine hK _ _ ?_; clear hK K; try clear Q'
      iterate 1 (refine wpList_plainQ rfl (fun K Q' hK => ?_); go_simp; refine hK _ _ ?_; clear hK K; try clear Q')
      refine wpList_nil ?_
      show Code.wp _ _ _ _ _
      -- stops at: cond
      refine wp_cond_true (rfl) ?_
      refine wp_seq ?_
      repeat (first | simp only [List.nil_append] at h3 | simp only [List.cons_append] at h3 | simp only [List.set_cons_zero] at h3 | simp only [List.set_cons_succ] at h3 | simp only [List.eraseIdx_zero] at h3 | simp only [List.tail_cons] at h3 | simp only [List.eraseIdx_cons_zero] at h3 | simp only [List.eraseIdx_cons_succ] at h3 | simp only [List.setIfInBounds_toArray] at h3)
      refine wp_region_lit ?_
      iterate 1 (refine wpList_plainQ rfl (fun K Q' hK => ?_); go_simp; refine hK _ _ ?_; clear hK K; try clear Q')
      have c_0 := h3.cell 1 rfl 0 rfl
      have f_0 := h3.free 1 rfl 0
      have c_1 := h3.cell 1 rfl 1 rfl
      have f_1 := h3.free 1 rfl 1
      have c_2 := h3.cell 1 rfl 2 rfl
      have f_2 := h3.free 1 rfl 2
      have c_3 := h3.cell 1 rfl 3 rfl
      have f_3 := h3.free 1 rfl 3
      refine wpList_plainQ rfl (fun K Q' hK => ?_); go_simp
      clear c_0 f_0 c_1 f_1 c_2 f_2 c_3 f_3
      refine (((h3.set (i := 1) rfl 0 _).set (i := 1) rfl 1 _).set (i := 1) rfl 2 _).k_set 1 rfl (fun w4 h4 => ?_)
      refine hK _ _ ?_; clear hK K; try clear Q'
      iterate 1 (refine wpList_plainQ rfl (fun K Q' hK => ?_); go_simp; refine hK _ _ ?_; clear hK K; try clear Q')
      refine wpList_nil ?_
      show Code.wp _ _ _ _ _
      -- stops at: ret
      refine wp_ret ?_
      have r_1_0 := h4.cell 1 rfl 0 rfl
      have r_1_1 := h4.cell 1 rfl 1 rfl
      have r_1_2 := h4.cell 1 rfl 2 rfl
      have r_1_3 := h4.cell 1 rfl 3 rfl
      first | show bodyPost _ _ _ _ _ _ | (simp only [Exit.then]; show bodyPost _ _ _ _ _ _) | (simp only [Exit.inBlock]; show bodyPost _ _ _ _ _ _) | (simp only [Exit.inBlock, Exit.then]; show bodyPost _ _ _ _ _ _) | (simp only [Exit.noGoto, Exit.inBlock, Exit.then]; show bodyPost _ _ _ _ _ _)
      refine bodyPost_ret (v := ?_) ?_ rfl ?_
      rotate_left
      · simp only [results, Tryz.results13]; go_simp; with_reducible rfl
      clear r_1_0 r_1_1 r_1_2 r_1_3
      exact ⟨_, H, rfl, h4.post, rfl⟩
    | some x =>
      obtain ⟨tr, hmT, _⟩ : ∃ tr, Rw.minT kf l = some tr ∧ tr.x = x := by
        have h5 : (Rw.minT kf l).map Tr.x = some x := hm
        cases hm2 : Rw.minT kf l with
        | none => rw [hm2] at h5; cases h5
        | some tr => rw [hm2] at h5; exact ⟨tr, rfl, Option.some.inj h5⟩
      have hpl := (Sk.pop_perm kf hmT).length_eq
      obtain ⟨zl, hzl⟩ : ∃ m, Hid (Rw.size l = m) := ⟨_, show _ = _ from rfl⟩
      have hz0 : 0 < zl := by
        have h5 : (Rw.els l).length = zl := hzl.out
        simp at hpl
        omega
      have d1 : ((zl : Int) == 0) = false := beq_eq_false_iff_ne.2 (by omega)
      obtain ⟨pn, hpn⟩ : ∃ m, Hid (l.length - 1 = m) := ⟨_, show _ = _ from rfl⟩
      obtain ⟨pc, hpc⟩ : ∃ m, Hid (Sk.popC kf l + Sk.popD kf l = m) := ⟨_, show _ = _ from rfl⟩
      obtain ⟨s1, hs1⟩ : ∃ m, Hid (pn + pc = m) := ⟨_, show _ = _ from rfl⟩
      obtain ⟨rr, hrr⟩ : ∃ m, Hid (s1 + 1 = m) := ⟨_, show _ = _ from rfl⟩
      have hbnd : pc ≤ 100000000 := by
        have h5 : Sk.popC kf l + Sk.popD kf l = _ := hpc.out
        have hc : Sk.popC kf l = (l.length - 1) + Sk.afterN kf tr (l.eraseIdx (Rw.least kf l)) + Sk.insertsC kf (Sk.after kf tr (l.eraseIdx (Rw.least kf l))) tr.b := by unfold Sk.popC; rw [hmT]
        have hd : Sk.popD kf l = Sk.afterN kf tr (l.eraseIdx (Rw.least kf l)) + Sk.insertsD kf (Sk.after kf tr (l.eraseIdx (Rw.least kf l))) tr.b := by unfold Sk.popD; rw [hmT]
        have h6 := Sk.inserts_steps kf tr.b (Sk.after kf tr (l.eraseIdx (Rw.least kf l)))
        have h7 : tr.size ≤ Rw.size l := by
          obtain ⟨i, hi⟩ := List.getElem?_of_mem (Rw.minT_mem kf hmT)
          exact size_mem hi
        have h8 : tr.size = 1 + (tr.b.length + tr.k.els.length) := by simp [Tr.size, Tr.els]; omega
        have h9 : Sk.afterN kf tr (l.eraseIdx (Rw.least kf l)) ≤ 2000000 := by
          unfold Sk.afterN
          have g1 := Sk.level_len kf (l.eraseIdx (Rw.least kf l))
          have g2 := Rw.meld_length kf tr.k.toL.reverse (Sk.level kf (l.eraseIdx (Rw.least kf l)))
          have g3 : (l.eraseIdx (Rw.least kf l)).length ≤ l.length := (List.eraseIdx_sublist l _).length_le
          have g4 := Rw.length_le l
          have g5 := tr.k.len_le
          rw [List.length_reverse, RT.toL_length] at g2
          omega
        have g4 := Rw.length_le l
        omega
      have hpnl : pn ≤ 800000 := by have := hpn.out; have := Rw.length_le l; omega
      have e1 : IntKind.i64.wrap ((pn : Int) + (pc : Int)) = (s1 : Int) := by have := hs1.out; rw [IntWalk.i64_in _ (by omega)]; omega
      have e2 : IntKind.i64.wrap ((s1 : Int) + 1) = (rr : Int) := by have := hs1.out; have := hrr.out; rw [IntWalk.i64_in _ (by omega)]; omega
      have hcd : Hp.popC (some (r, l)) + Hp.popD (some (r, l)) = rr := by
        have h5 : Hp.popC (some (r, l)) = (l.length - 1) + Sk.popC Hp.ke l := by show (match Rw.min? Hp.ke l with | none => 0 | some _ => (l.length - 1) + Sk.popC Hp.ke l) = _; rw [show Rw.min? Hp.ke l = some x from hm]
        have h6 : Hp.popD (some (r, l)) = Sk.popD Hp.ke l + 1 := by show (match Rw.min? Hp.ke l with | none => 0 | some _ => Sk.popD Hp.ke l + 1) = _; rw [show Rw.min? Hp.ke l = some x from hm]
        have h7 : Sk.popC Hp.ke l + Sk.popD Hp.ke l = pc := hpc.out
        have := hpn.out
        have := hs1.out
        have := hrr.out
        omega
      have heq : Hp.pop (some (r, l)) = some (x, Sk.pop Hp.ke l) := Hp.pop_some r hm
      clear hpl
      go_enter Tryz.func13, Tryz.ntmps13
      have h0 := St.start hpre
      refine wp_seq ?_
      repeat (first | simp only [List.nil_append] at h0 | simp only [List.cons_append] at h0 | simp only [List.set_cons_zero] at h0 | simp only [List.set_cons_succ] at h0 | simp only [List.eraseIdx_zero] at h0 | simp only [List.tail_cons] at h0 | simp only [List.eraseIdx_cons_zero] at h0 | simp only [List.eraseIdx_cons_succ] at h0 | simp only [List.setIfInBounds_toArray] at h0)
      refine wp_region_lit ?_
      refine wpList_plainQ rfl (fun K Q' hK => ?_); go_simp
      refine h0.k_alloc (fun w1 h1 => ?_)
      refine hK _ _ ?_; clear hK K; try clear Q'
      refine wpList_plainQ rfl (fun K Q' hK => ?_); go_simp
      refine h1.k_alloc (fun w2 h2 => ?_)
      refine hK _ _ ?_; clear hK K; try clear Q'
      iterate 1 (refine wpList_plainQ rfl (fun K Q' hK => ?_); go_simp; refine hK _ _ ?_; clear hK K; try clear Q')
      refine wpList_nil ?_
      show Code.wp _ _ _ _ _
      refine wp_seq ?_
      refine wp_seq ?_
      repeat (first | simp only [List.nil_append] at h2 | simp only [List.cons_append] at h2 | simp only [List.set_cons_zero] at h2 | simp only [List.set_cons_succ] at h2 | simp only [List.eraseIdx_zero] at h2 | simp only [List.tail_cons] at h2 | simp only [List.eraseIdx_cons_zero] at h2 | simp only [List.eraseIdx_cons_succ] at h2 | simp only [List.setIfInBounds_toArray] at h2)
      refine wp_region_lit ?_
      have c_0_3 := h2.cell 0 rfl 3 rfl
      iterate 2 (refine wpList_plainQ rfl (fun K Q' hK => ?_); go_simp; refine hK _ _ ?_; clear hK K; try clear Q')
      clear c_0_3
      -- stops at: eff:call (Go.Op.call {'callee': (Go.Callee.value (Go.Operand.func 22)), 'args': [(Go.Operand.tmp 9)], 'argTypes': [35]}) slot 10
      refine wpList_plainQ rfl (fun K Q' hK => ?_); go_simp
      refine (r9size_ok H _ _ l h2.fits (by omega) hl).mono ?_
      rintro e wA ⟨rfl, hkA⟩
      rw [hzl.out]
      have h3 := h2.callk hkA
      refine hK _ _ ?_; clear hK K; try clear Q'
      iterate 1 (refine wpList_plainQ rfl (fun K Q' hK => ?_); go_simp; refine hK _ _ ?_; clear hK K; try clear Q')
      refine wpList_nil ?_
      show Code.wp _ _ _ _ _
      -- stops at: cond
      refine wp_cond_false (rfl) ?_
      refine wp_skip ?_
      show Code.wp _ _ _ _ _
      refine wp_seq ?_
      repeat (first | simp only [List.nil_append] at h3 | simp only [List.cons_append] at h3 | simp only [List.set_cons_zero] at h3 | simp only [List.set_cons_succ] at h3 | simp only [List.eraseIdx_zero] at h3 | simp only [List.tail_cons] at h3 | simp only [List.eraseIdx_cons_zero] at h3 | simp only [List.eraseIdx_cons_succ] at h3 | simp only [List.setIfInBounds_toArray] at h3)
      refine wp_region_lit ?_
      have c_0_3 := h3.cell 0 rfl 3 rfl
      iterate 2 (refine wpList_plainQ rfl (fun K Q' hK => ?_); go_simp; refine hK _ _ ?_; clear hK K; try clear Q')
      clear c_0_3
      -- stops at: eff:call (Go.Op.call {'callee': (Go.Callee.value (Go.Operand.func 32)), 'args': [(Go.Operand.tmp 15)], 'argTypes': [35]}) slot 16
      refine wpList_plainQ rfl (fun K Q' hK => ?_); go_simp
      refine (r9min_ok H _ _ l h3.fits (by omega) hl).mono ?_
      rintro e wB ⟨rfl, hkB⟩
      rw [hm, hpn.out]
      simp only [Option.getD_some]
      have h4 := h3.callk hkB
      refine hK _ _ ?_; clear hK K; try clear Q'
      iterate 3 (refine wpList_plainQ rfl (fun K Q' hK => ?_); go_simp; refine hK _ _ ?_; clear hK K; try clear Q')
      refine wpList_plainQ rfl (fun K Q' hK => ?_); go_simp
      refine h4.k_alloc (fun w5 h5 => ?_)
      refine hK _ _ ?_; clear hK K; try clear Q'
      have c_0 := h5.cell 2 rfl 0 rfl
      have f_0 := h5.free 2 rfl 0
      have c_1 := h5.cell 2 rfl 1 rfl
      have f_1 := h5.free 2 rfl 1
      refine wpList_plainQ rfl (fun K Q' hK => ?_); go_simp
      clear c_0 f_0 c_1 f_1
      refine (h5.set (i := 2) rfl 0 _).k_set 2 rfl (fun w6 h6 => ?_)
      refine hK _ _ ?_; clear hK K; try clear Q'
      iterate 1 (refine wpList_plainQ rfl (fun K Q' hK => ?_); go_simp; refine hK _ _ ?_; clear hK K; try clear Q')
      refine wpList_nil ?_
      show Code.wp _ _ _ _ _
      refine wp_seq ?_
      repeat (first | simp only [List.nil_append] at h6 | simp only [List.cons_append] at h6 | simp only [List.set_cons_zero] at h6 | simp only [List.set_cons_succ] at h6 | simp only [List.eraseIdx_zero] at h6 | simp only [List.tail_cons] at h6 | simp only [List.eraseIdx_cons_zero] at h6 | simp only [List.eraseIdx_cons_succ] at h6 | simp only [List.setIfInBounds_toArray] at h6)
      refine wp_region_lit ?_
      have c_0_3 := h6.cell 0 rfl 3 rfl
      iterate 2 (refine wpList_plainQ rfl (fun K Q' hK => ?_); go_simp; refine hK _ _ ?_; clear hK K; try clear Q')
      clear c_0_3
      -- stops at: eff:call (Go.Op.call {'callee': (Go.Callee.value (Go.Operand.func 33)), 'args': [(Go.Operand.tmp 21)], 'argTypes': [35]}) slot 22
      refine wpList_plainQ rfl (fun K Q' hK => ?_); go_simp
      refine (r9pop_ok H _ _ l h6.fits (by omega) hl).mono ?_
      rintro e wC ⟨q3, H3, rfl, hpC, hC⟩
      rw [hpc.out]
      obtain ⟨aR, cR, rfl, _, _⟩ := hC.form
      have h7 := h6.call0 hpC
      refine hK _ _ ?_; clear hK K; try clear Q'
      iterate 3 (refine wpList_plainQ rfl (fun K Q' hK => ?_); go_simp; refine hK _ _ ?_; clear hK K; try clear Q')
      refine wpList_plainQ rfl (fun K Q' hK => ?_); go_simp
      refine h7.k_alloc (fun w8 h8 => ?_)
      refine hK _ _ ?_; clear hK K; try clear Q'
      have c_0 := h8.cell 3 rfl 0 rfl
      have f_0 := h8.free 3 rfl 0
      refine wpList_plainQ rfl (fun K Q' hK => ?_); go_simp
      clear c_0 f_0
      refine h8.k_set 3 rfl (fun w9 h9 => ?_)
      refine hK _ _ ?_; clear hK K; try clear Q'
      iterate 1 (refine wpList_plainQ rfl (fun K Q' hK => ?_); go_simp; refine hK _ _ ?_; clear hK K; try clear Q')
      refine wpList_nil ?_
      show Code.wp _ _ _ _ _
      refine wp_seq ?_
      repeat (first | simp only [List.nil_append] at h9 | simp only [List.cons_append] at h9 | simp only [List.set_cons_zero] at h9 | simp only [List.set_cons_succ] at h9 | simp only [List.eraseIdx_zero] at h9 | simp only [List.tail_cons] at h9 | simp only [List.eraseIdx_cons_zero] at h9 | simp only [List.eraseIdx_cons_succ] at h9 | simp only [List.setIfInBounds_toArray] at h9)
      refine wp_region_lit ?_
      have c_2_0 := h9.cell 2 rfl 0 rfl
      have c_2_1 := h9.cell 2 rfl 1 rfl
      have c_3_0 := h9.cell 3 rfl 0 rfl
      iterate 7 (refine wpList_plainQ rfl (fun K Q' hK => ?_); go_simp; refine hK _ _ ?_; clear hK K; try clear Q')
      clear c_2_0 c_2_1 c_3_0
      have c_0 := h9.cell 1 rfl 0 rfl
      have f_0 := h9.free 1 rfl 0
      have c_1 := h9.cell 1 rfl 1 rfl
      have f_1 := h9.free 1 rfl 1
      have c_2 := h9.cell 1 rfl 2 rfl
      have f_2 := h9.free 1 rfl 2
      have c_3 := h9.cell 1 rfl 3 rfl
      have f_3 := h9.free 1 rfl 3
      refine wpList_plainQ rfl (fun K Q' hK => ?_); go_simp
      clear c_0 f_0 c_1 f_1 c_2 f_2 c_3 f_3
      refine (((h9.set (i := 1) rfl 0 _).set (i := 1) rfl 1 _).set (i := 1) rfl 2 _).k_set 1 rfl (fun w10 h10 => ?_)
      refine hK _ _ ?_; clear hK K; try clear Q'
      iterate 1 (refine wpList_plainQ rfl (fun K Q' hK => ?_); go_simp; refine hK _ _ ?_; clear hK K; try clear Q')
      refine wpList_nil ?_
      show Code.wp _ _ _ _ _
      -- stops at: ret
      refine wp_ret ?_
      have r_1_0 := h10.cell 1 rfl 0 rfl
      have r_1_1 := h10.cell 1 rfl 1 rfl
      have r_1_2 := h10.cell 1 rfl 2 rfl
      have r_1_3 := h10.cell 1 rfl 3 rfl
      first | show bodyPost _ _ _ _ _ _ | (simp only [Exit.then]; show bodyPost _ _ _ _ _ _) | (simp only [Exit.inBlock]; show bodyPost _ _ _ _ _ _) | (simp only [Exit.inBlock, Exit.then]; show bodyPost _ _ _ _ _ _) | (simp only [Exit.noGoto, Exit.inBlock, Exit.then]; show bodyPost _ _ _ _ _ _)
      refine bodyPost_ret (v := ?_) ?_ rfl ?_
      rotate_left
      · simp only [results, Tryz.results13]; go_simp; with_reducible rfl
      clear r_1_0 r_1_1 r_1_2 r_1_3
      refine ⟨[.bool true, .int .i64 x.1, .int .i64 x.2, .slice aR _ cR], H3, by rw [hcd], h10.post, ?_⟩
      rw [heq]
      exact ⟨_, rfl, hC⟩

set_option maxRecDepth 100000 in
set_option maxHeartbeats 1000000 in
theorem wmin_ok {w : World} {H : GH} {cs : List Value} {t : Hp} (hf : Fits w H) (hn : Hp.size t < 800000) (h : WvR H cs t) :
    Calls Tryz.prog 17 #[.agg cs.toArray] w fun e w' => e = .returned (.tuple #[elV ((Hp.min? t).getD (0, 0)), .int .i64 (Hp.minC t : Nat)]) ∧ Keep none w w' := by
  have hpre : Pre w H none 0 0 := Pre.none hf 0 0
  match t, hn, h with
  | none, hn, h =>
    obtain rfl := h
    go_enter Tryz.func17, Tryz.ntmps17
    have h0 := St.start hpre
    refine wp_seq ?_
    repeat (first | simp only [List.nil_append] at h0 | simp only [List.cons_append] at h0 | simp only [List.set_cons_zero] at h0 | simp only [List.set_cons_succ] at h0 | simp only [List.eraseIdx_zero] at h0 | simp only [List.tail_cons] at h0 | simp only [List.eraseIdx_cons_zero] at h0 | simp only [List.eraseIdx_cons_succ] at h0 | simp only [List.setIfInBounds_toArray] at h0)
    refine wp_region_lit ?_
    refine wpList_plainQ rfl (fun K Q' hK => ?_); go_simp
    refine h0.k_alloc (fun w1 h1 => ?_)
    refine hK _ _ ?_; clear hK K; try clear Q'
    refine wpList_plainQ rfl (fun K Q' hK => ?_); go_simp
    refine h1.k_alloc (fun w2 h2 => ?_)
    refine hK _ _ ?_; clear hK K; try clear Q'
    iterate 1 (refine wpList_plainQ rfl (fun K Q' hK => ?_); go_simp; refine hK _ _ ?_; clear hK K; try clear Q')
    refine wpList_nil ?_
    show Code.wp _ _ _ _ _
    refine wp_seq ?_
    repeat (first | simp only [List.nil_append] at h2 | simp only [List.cons_append] at h2 | simp only [List.set_cons_zero] at h2 | simp only [List.set_cons_succ] at h2 | simp only [List.eraseIdx_zero] at h2 | simp only [List.tail_cons] at h2 | simp only [List.eraseIdx_cons_zero] at h2 | simp only [List.eraseIdx_cons_succ] at h2 | simp only [List.setIfInBounds_toArray] at h2)
    refine wp_region_lit ?_
    have c_0_1 := h2.cell 0 rfl 1 rfl
    have c_0_2 := h2.cell 0 rfl 2 rfl
    iterate 2 (refine wpList_plainQ rfl (fun K Q' hK => ?_); go_simp; refine hK _ _ ?_; clear hK K; try clear Q')
    clear c_0_1 c_0_2
    have c_0 := h2.cell 1 rfl 0 rfl
    have f_0 := h2.free 1 rfl 0
    have c_1 := h2.cell 1 rfl 1 rfl
    have f_1 := h2.free 1 rfl 1
    refine wpList_plainQ rfl (fun K Q' hK => ?_); go_simp
    clear c_0 f_0 c_1 f_1
    refine (h2.set (i := 1) rfl 0 _).k_set 1 rfl (fun w3 h3 => ?_)
    refine hK _ _ ?_; clear hK K; try clear Q'
    iterate 1 (refine wpList_plainQ rfl (fun K Q' hK => ?_); go_simp; refine hK _ _ ?_; clear hK K; try clear Q')
    refine wpList_nil ?_
    show Code.wp _ _ _ _ _
    -- stops at: ret
    refine wp_ret ?_
    have r_1_0 := h3.cell 1 rfl 0 rfl
    have r_1_1 := h3.cell 1 rfl 1 rfl
    first | show bodyPost _ _ _ _ _ _ | (simp only [Exit.then]; show bodyPost _ _ _ _ _ _) | (simp only [Exit.inBlock]; show bodyPost _ _ _ _ _ _) | (simp only [Exit.inBlock, Exit.then]; show bodyPost _ _ _ _ _ _) | (simp only [Exit.noGoto, Exit.inBlock, Exit.then]; show bodyPost _ _ _ _ _ _)
    refine bodyPost_ret (v := ?_) ?_ rfl ?_
    rotate_left
    · simp only [results, Tryz.results17]; go_simp; with_reducible rfl
    clear r_1_0 r_1_1
    exact ⟨rfl, h3.post.keep⟩
  | some (x, l), hn, h =>
    obtain ⟨q0, rfl, hl⟩ := h
    obtain ⟨a0, c0, rfl, _, _⟩ := hl.form
    go_enter Tryz.func17, Tryz.ntmps17
    have h0 := St.start hpre
    refine wp_seq ?_
    repeat (first | simp only [List.nil_append] at h0 | simp only [List.cons_append] at h0 | simp only [List.set_cons_zero] at h0 | simp only [List.set_cons_succ] at h0 | simp only [List.eraseIdx_zero] at h0 | simp only [List.tail_cons] at h0 | simp only [List.eraseIdx_cons_zero] at h0 | simp only [List.eraseIdx_cons_succ] at h0 | simp only [List.setIfInBounds_toArray] at h0)
    refine wp_region_lit ?_
    refine wpList_plainQ rfl (fun K Q' hK => ?_); go_simp
    refine h0.k_alloc (fun w1 h1 => ?_)
    refine hK _ _ ?_; clear hK K; try clear Q'
    refine wpList_plainQ rfl (fun K Q' hK => ?_); go_simp
    refine h1.k_alloc (fun w2 h2 => ?_)
    refine hK _ _ ?_; clear hK K; try clear Q'
    iterate 1 (refine wpList_plainQ rfl (fun K Q' hK => ?_); go_simp; refine hK _ _ ?_; clear hK K; try clear Q')
    refine wpList_nil ?_
    show Code.wp _ _ _ _ _
    refine wp_seq ?_
    repeat (first | simp only [List.nil_append] at h2 | simp only [List.cons_append] at h2 | simp only [List.set_cons_zero] at h2 | simp only [List.set_cons_succ] at h2 | simp only [List.eraseIdx_zero] at h2 | simp only [List.tail_cons] at h2 | simp only [List.eraseIdx_cons_zero] at h2 | simp only [List.eraseIdx_cons_succ] at h2 | simp only [List.setIfInBounds_toArray] at h2)
    refine wp_region_lit ?_
    have c_0_1 := h2.cell 0 rfl 1 rfl
    have c_0_2 := h2.cell 0 rfl 2 rfl
    iterate 2 (refine wpList_plainQ rfl (fun K Q' hK => ?_); go_simp; refine hK _ _ ?_; clear hK K; try clear Q')
    clear c_0_1 c_0_2
    have c_0 := h2.cell 1 rfl 0 rfl
    have f_0 := h2.free 1 rfl 0
    have c_1 := h2.cell 1 rfl 1 rfl
    have f_1 := h2.free 1 rfl 1
    refine wpList_plainQ rfl (fun K Q' hK => ?_); go_simp
    clear c_0 f_0 c_1 f_1
    refine (h2.set (i := 1) rfl 0 _).k_set 1 rfl (fun w3 h3 => ?_)
    refine hK _ _ ?_; clear hK K; try clear Q'
    iterate 1 (refine wpList_plainQ rfl (fun K Q' hK => ?_); go_simp; refine hK _ _ ?_; clear hK K; try clear Q')
    refine wpList_nil ?_
    show Code.wp _ _ _ _ _
    -- stops at: ret
    refine wp_ret ?_
    have r_1_0 := h3.cell 1 rfl 0 rfl
    have r_1_1 := h3.cell 1 rfl 1 rfl
    first | show bodyPost _ _ _ _ _ _ | (simp only [Exit.then]; show bodyPost _ _ _ _ _ _) | (simp only [Exit.inBlock]; show bodyPost _ _ _ _ _ _) | (simp only [Exit.inBlock, Exit.then]; show bodyPost _ _ _ _ _ _) | (simp only [Exit.noGoto, Exit.inBlock, Exit.then]; show bodyPost _ _ _ _ _ _)
    refine bodyPost_ret (v := ?_) ?_ rfl ?_
    rotate_left
    · simp only [results, Tryz.results17]; go_simp; with_reducible rfl
    clear r_1_0 r_1_1
    exact ⟨rfl, h3.post.keep⟩
set_option maxRecDepth 100000 in
set_option maxHeartbeats 1000000 in
theorem wsize_ok {w : World} {H : GH} {cs : List Value} {t : Hp} (hf : Fits w H) (hn : Hp.size t < 800000) (h : WvR H cs t) :
    Calls Tryz.prog 7 #[.agg cs.toArray] w fun e w' => e = .returned (.int .i64 (Hp.size t : Nat)) ∧ Keep none w w' := by
  have hpre : Pre w H none 0 0 := Pre.none hf 0 0
  match t, hn, h with
  | none, hn, h =>
    obtain rfl := h
    go_enter Tryz.func7, Tryz.ntmps7
    have h0 := St.start hpre
    refine wp_seq ?_
    repeat (first | simp only [List.nil_append] at h0 | simp only [List.cons_append] at h0 | simp only [List.set_cons_zero] at h0 | simp only [List.set_cons_succ] at h0 | simp only [List.eraseIdx_zero] at h0 | simp only [List.tail_cons] at h0 | simp only [List.eraseIdx_cons_zero] at h0 | simp only [List.eraseIdx_cons_succ] at h0 | simp only [List.setIfInBounds_toArray] at h0)
    refine wp_region_lit ?_
    refine wpList_plainQ rfl (fun K Q' hK => ?_); go_simp
    refine h0.k_alloc (fun w1 h1 => ?_)
    refine hK _ _ ?_; clear hK K; try clear Q'
    iterate 1 (refine wpList_plainQ rfl (fun K Q' hK => ?_); go_simp; refine hK _ _ ?_; clear hK K; try clear Q')
    refine wpList_nil ?_
    show Code.wp _ _ _ _ _
    refine wp_seq ?_
    refine wp_seq ?_
    repeat (first | simp only [List.nil_append] at h1 | simp only [List.cons_append] at h1 | simp only [List.set_cons_zero] at h1 | simp only [List.set_cons_succ] at h1 | simp only [List.eraseIdx_zero] at h1 | simp only [List.tail_cons] at h1 | simp only [List.eraseIdx_cons_zero] at h1 | simp only [List.eraseIdx_cons_succ] at h1 | simp only [List.setIfInBounds_toArray] at h1)
    refine wp_region_lit ?_
    have c_0_0 := h1.cell 0 rfl 0 rfl
    iterate 3 (refine wpList_plainQ rfl (fun K Q' hK => ?_); go_simp; refine hK _ _ ?_; clear hK K; try clear Q')
    clear c_0_0
    refine wpList_nil ?_
    show Code.wp _ _ _ _ _
    -- stops at: cond
    refine wp_cond_true (rfl) ?_
    refine wp_seq ?_
    refine wp_region_lit ?_
    iterate 1 (refine wpList_plainQ rfl (fun K Q' hK => ?_); go_simp; refine hK _ _ ?_; clear hK K; try clear Q')
    refine wpList_nil ?_
    show Code.wp _ _ _ _ _
    -- stops at: ret
    refine wp_ret ?_
    go_ret
    exact ⟨rfl, h1.post.keep⟩
  | some (x, l), hn, h =>
    obtain ⟨q0, rfl, hl⟩ := h
    obtain ⟨a0, c0, rfl, _, _⟩ := hl.form
    have hsz : Rw.size l < 800000 := by have : (Rw.els l).length + 1 < 800000 := hn; show (Rw.els l).length < _; omega
    obtain ⟨zl, hzl⟩ : ∃ m, Hid (Rw.size l = m) := ⟨_, show _ = _ from rfl⟩
    obtain ⟨rr, hrr⟩ : ∃ m, Hid (1 + zl = m) := ⟨_, show _ = _ from rfl⟩
    have e1 : IntKind.i64.wrap (1 + (zl : Int)) = (rr : Int) := by have := hzl.out; have := hrr.out; rw [IntWalk.i64_in _ (by omega)]; omega
    go_enter Tryz.func7, Tryz.ntmps7
    have h0 := St.start hpre
    refine wp_seq ?_
    repeat (first | simp only [List.nil_append] at h0 | simp only [List.cons_append] at h0 | simp only [List.set_cons_zero] at h0 | simp only [List.set_cons_succ] at h0 | simp only [List.eraseIdx_zero] at h0 | simp only [List.tail_cons] at h0 | simp only [List.eraseIdx_cons_zero] at h0 | simp only [List.eraseIdx_cons_succ] at h0 | simp only [List.setIfInBounds_toArray] at h0)
    refine wp_region_lit ?_
    refine wpList_plainQ rfl (fun K Q' hK => ?_); go_simp
    refine h0.k_alloc (fun w1 h1 => ?_)
    refine hK _ _ ?_; clear hK K; try clear Q'
    iterate 1 (refine wpList_plainQ rfl (fun K Q' hK => ?_); go_simp; refine hK _ _ ?_; clear hK K; try clear Q')
    refine wpList_nil ?_
    show Code.wp _ _ _ _ _
    refine wp_seq ?_
    refine wp_seq ?_
    repeat (first | simp only [List.nil_append] at h1 | simp only [List.cons_append] at h1 | simp only [List.set_cons_zero] at h1 | simp only [List.set_cons_succ] at h1 | simp only [List.eraseIdx_zero] at h1 | simp only [List.tail_cons] at h1 | simp only [List.eraseIdx_cons_zero] at h1 | simp only [List.eraseIdx_cons_succ] at h1 | simp only [List.setIfInBounds_toArray] at h1)
    refine wp_region_lit ?_
    have c_0_0 := h1.cell 0 rfl 0 rfl
    iterate 3 (refine wpList_plainQ rfl (fun K Q' hK => ?_); go_simp; refine hK _ _ ?_; clear hK K; try clear Q')
    clear c_0_0
    refine wpList_nil ?_
    show Code.wp _ _ _ _ _
    -- stops at: cond
    refine wp_cond_false (rfl) ?_
    refine wp_skip ?_
    show Code.wp _ _ _ _ _
    refine wp_seq ?_
    refine wp_region_lit ?_
    have c_0_3 := h1.cell 0 rfl 3 rfl
    iterate 2 (refine wpList_plainQ rfl (fun K Q' hK => ?_); go_simp; refine hK _ _ ?_; clear hK K; try clear Q')
    clear c_0_3
    -- stops at: eff:call (Go.Op.call {'callee': (Go.Callee.value (Go.Operand.func 22)), 'args': [(Go.Operand.tmp 7)], 'argTypes': [35]}) slot 8
    refine wpList_plainQ rfl (fun K Q' hK => ?_); go_simp
    refine (r9size_ok H _ _ l h1.fits (by omega) hl).mono ?_
    rintro e wA ⟨rfl, hkA⟩
    rw [hzl.out]
    have h2 := h1.callk hkA
    refine hK _ _ ?_; clear hK K; try clear Q'
    iterate 2 (refine wpList_plainQ rfl (fun K Q' hK => ?_); go_simp; refine hK _ _ ?_; clear hK K; try clear Q')
    refine wpList_nil ?_
    show Code.wp _ _ _ _ _
    -- stops at: ret
    refine wp_ret ?_
    go_ret
    have hq : Hp.size (some (x, l)) = rr := by show (Rw.els l).length + 1 = rr; have h5 : (Rw.els l).length = zl := hzl.out; have := hrr.out; omega
    exact ⟨by rw [hq]; rfl, h2.post.keep⟩
set_option maxRecDepth 100000 in
set_option maxHeartbeats 1000000 in
theorem wshow_ok {w : World} {H : GH} {cs : List Value} {t : Hp} (hf : Fits w H) (hn : Hp.size t < 800000) (hfit : ∀ a ∈ Hp.els t, El.fits a) (h : WvR H cs t) :
    Calls Tryz.prog 19 #[.agg cs.toArray] w fun e w' => e = .returned (.string ⟨(Hp.text t).toArray⟩) ∧ Keep none w w' := by
  have hpre : Pre w H none 0 0 := Pre.none hf 0 0
  match t, hn, hfit, h with
  | none, hn, hfit, h =>
    obtain rfl := h
    go_enter Tryz.func19, Tryz.ntmps19
    have h0 := St.start hpre
    refine wp_seq ?_
    repeat (first | simp only [List.nil_append] at h0 | simp only [List.cons_append] at h0 | simp only [List.set_cons_zero] at h0 | simp only [List.set_cons_succ] at h0 | simp only [List.eraseIdx_zero] at h0 | simp only [List.tail_cons] at h0 | simp only [List.eraseIdx_cons_zero] at h0 | simp only [List.eraseIdx_cons_succ] at h0 | simp only [List.setIfInBounds_toArray] at h0)
    refine wp_region_lit ?_
    refine wpList_plainQ rfl (fun K Q' hK => ?_); go_simp
    refine h0.k_alloc (fun w1 h1 => ?_)
    refine hK _ _ ?_; clear hK K; try clear Q'
    iterate 1 (refine wpList_plainQ rfl (fun K Q' hK => ?_); go_simp; refine hK _ _ ?_; clear hK K; try clear Q')
    refine wpList_nil ?_
    show Code.wp _ _ _ _ _
    refine wp_seq ?_
    refine wp_seq ?_
    repeat (first | simp only [List.nil_append] at h1 | simp only [List.cons_append] at h1 | simp only [List.set_cons_zero] at h1 | simp only [List.set_cons_succ] at h1 | simp only [List.eraseIdx_zero] at h1 | simp only [List.tail_cons] at h1 | simp only [List.eraseIdx_cons_zero] at h1 | simp only [List.eraseIdx_cons_succ] at h1 | simp only [List.setIfInBounds_toArray] at h1)
    refine wp_region_lit ?_
    have c_0_0 := h1.cell 0 rfl 0 rfl
    iterate 3 (refine wpList_plainQ rfl (fun K Q' hK => ?_); go_simp; refine hK _ _ ?_; clear hK K; try clear Q')
    clear c_0_0
    refine wpList_nil ?_
    show Code.wp _ _ _ _ _
    -- stops at: cond
    refine wp_cond_true (rfl) ?_
    refine wp_seq ?_
    refine wp_region_lit ?_
    iterate 1 (refine wpList_plainQ rfl (fun K Q' hK => ?_); go_simp; refine hK _ _ ?_; clear hK K; try clear Q')
    refine wpList_nil ?_
    show Code.wp _ _ _ _ _
    -- stops at: ret
    refine wp_ret ?_
    go_ret
    exact ⟨rfl, h1.post.keep⟩
  | some (x, l), hn, hfit, h =>
    obtain ⟨q0, rfl, hl⟩ := h
    obtain ⟨a0, c0, rfl, _, _⟩ := hl.form
    have hsz : Rw.size l < 800000 := by have : (Rw.els l).length + 1 < 800000 := hn; show (Rw.els l).length < _; omega
    have hfx : El.fits x := hfit x (by simp [Hp.els])
    have hfl : ∀ a ∈ Rw.els l, El.fits a := fun a ha => hfit a (by simp [Hp.els, ha])
    have htl := Rw.text_len l hfl (by omega)
    have hxl := El.text_len hfx
    obtain ⟨tx, htx⟩ : ∃ s, Hid (El.text x = s) := ⟨_, show _ = _ from rfl⟩
    obtain ⟨tl, htll⟩ : ∃ s, Hid (Rw.text l = s) := ⟨_, show _ = _ from rfl⟩
    rw [htx.out] at hxl
    rw [htll.out] at htl
    have l1 : ¬ 9223372036854775807 < tx.length + 1 := by omega
    have l2 : ¬ 9223372036854775807 < tx.length + 1 + tl.length := by omega
    go_enter Tryz.func19, Tryz.ntmps19
    have h0 := St.start hpre
    refine wp_seq ?_
    repeat (first | simp only [List.nil_append] at h0 | simp only [List.cons_append] at h0 | simp only [List.set_cons_zero] at h0 | simp only [List.set_cons_succ] at h0 | simp only [List.eraseIdx_zero] at h0 | simp only [List.tail_cons] at h0 | simp only [List.eraseIdx_cons_zero] at h0 | simp only [List.eraseIdx_cons_succ] at h0 | simp only [List.setIfInBounds_toArray] at h0)
    refine wp_region_lit ?_
    refine wpList_plainQ rfl (fun K Q' hK => ?_); go_simp
    refine h0.k_alloc (fun w1 h1 => ?_)
    refine hK _ _ ?_; clear hK K; try clear Q'
    iterate 1 (refine wpList_plainQ rfl (fun K Q' hK => ?_); go_simp; refine hK _ _ ?_; clear hK K; try clear Q')
    refine wpList_nil ?_
    show Code.wp _ _ _ _ _
    refine wp_seq ?_
    refine wp_seq ?_
    repeat (first | simp only [List.nil_append] at h1 | simp only [List.cons_append] at h1 | simp only [List.set_cons_zero] at h1 | simp only [List.set_cons_succ] at h1 | simp only [List.eraseIdx_zero] at h1 | simp only [List.tail_cons] at h1 | simp only [List.eraseIdx_cons_zero] at h1 | simp only [List.eraseIdx_cons_succ] at h1 | simp only [List.setIfInBounds_toArray] at h1)
    refine wp_region_lit ?_
    have c_0_0 := h1.cell 0 rfl 0 rfl
    iterate 3 (refine wpList_plainQ rfl (fun K Q' hK => ?_); go_simp; refine hK _ _ ?_; clear hK K; try clear Q')
    clear c_0_0
    refine wpList_nil ?_
    show Code.wp _ _ _ _ _
    -- stops at: cond
    refine wp_cond_false (rfl) ?_
    refine wp_skip ?_
    show Code.wp _ _ _ _ _
    refine wp_seq ?_
    refine h1.region [0] [(0, true), (1, true), (4, true), (5, true), (2, false), (3, true), (6, false), (7, true), (8, true)] (by kernel_rfl) (by kernel_rfl) (fun w2 h2 => ?_)
    refine wpOrd_hide (fun _ _ d _ _ h => by cases d <;> exact h) (fun QR hQn hQp => ?_)
    simp only [ordOps, List.map_cons, List.map_nil, List.getD_cons_zero, List.getD_cons_succ]
    iterate 4 (refine wpOrd_quiet (v := ?_) rfl (fun _ _ _ => hQp _ _ _ _ _) ?_ ?_; rotate_left; (intro w' hS; have c_0_1 := hS.cell 0 rfl 1 rfl; have c_0_2 := hS.cell 0 rfl 2 rfl; have c_0_3 := hS.cell 0 rfl 3 rfl; (first | (go_simp; done) | (go_simp; with_reducible rfl))); simp only [Act.put, List.setIfInBounds_toArray, List.set_cons_zero, List.set_cons_succ])
    -- stops at: eff:call (Go.Op.call {'callee': (Go.Callee.value (Go.Operand.func 37)), 'args': [(Go.Operand.tmp 7)], 'argTypes': [32]}) slot 8
    refine wpOrd_effQ rfl (fun K Q' hK => ?_); go_simp
    refine (rtext_ok H _ x hfx h2.fits).mono ?_
    rintro e wA ⟨rfl, hkA⟩
    rw [htx.out]
    have h3 := h2.callk hkA
    refine hK _ _ (h3.sat' (GH.le_refl _) [0] (by kernel_rfl)) ?_; clear hK K; try clear Q'
    iterate 1 (refine wpOrd_quiet (v := ?_) rfl (fun _ _ _ => hQp _ _ _ _ _) ?_ ?_; rotate_left; (intro w' hS; (first | (go_simp; done) | (go_simp; with_reducible rfl))); simp only [Act.put, List.setIfInBounds_toArray, List.set_cons_zero, List.set_cons_succ])
    -- stops at: eff:call (Go.Op.call {'callee': (Go.Callee.value (Go.Operand.func 38)), 'args': [(Go.Operand.tmp 11)], 'argTypes': [35]}) slot 12
    refine wpOrd_effQ rfl (fun K Q' hK => ?_); go_simp
    refine (r9show_ok H _ _ l h3.fits (by omega) hfl hl).mono ?_
    rintro e wB ⟨rfl, hkB⟩
    rw [htll.out]
    have h4 := h3.callk hkB
    refine hK _ _ (h4.sat' (GH.le_refl _) [0] (by kernel_rfl)) ?_; clear hK K; try clear Q'
    iterate 2 (refine wpOrd_quiet (v := ?_) rfl (fun _ _ _ => hQp _ _ _ _ _) ?_ ?_; rotate_left; (intro w' hS; (first | (go_simp; done) | (go_simp; with_reducible rfl))); simp only [Act.put, List.setIfInBounds_toArray, List.set_cons_zero, List.set_cons_succ])
    refine wpOrd_nil (hQn _ _ ?_); clear hQn hQp QR
    show Code.wp _ _ _ _ _
    -- stops at: ret
    refine wp_ret ?_
    go_ret
    refine ⟨?_, h4.post.keep⟩
    rw [show Hp.text (some (x, l)) = tx ++ 32 :: tl by show El.text x ++ 32 :: Rw.text l = _; rw [htx.out, htll.out]]
    show Ending.returned (.string ((⟨tx.toArray⟩ ++ ⟨#[32]⟩ : ByteArray) ++ ⟨tl.toArray⟩)) = _
    rw [show ((⟨tx.toArray⟩ ++ ⟨#[32]⟩ : ByteArray) ++ ⟨tl.toArray⟩) = ⟨(tx ++ 32 :: tl).toArray⟩ from ByteArray.ext (by simp)]
end Go.Proofs.YteigmfkkeofcaaaGreatDoor
