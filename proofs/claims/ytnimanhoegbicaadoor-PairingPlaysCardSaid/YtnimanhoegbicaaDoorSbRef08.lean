/-
The document's pairing heaps: putting in, how many, the least one.
-/
import Derived.Test.YtnimanhoegbicaaDoorSaRef08
namespace Go.Proofs.YtnimanhoegbicaaDoor
open Go Go.RowKit
set_option linter.unusedVariables false

theorem RefR.form {H : GH} {t : PT} {v : Value} (h : RefR H t v) : ∃ (a : Option Addr) (n c sz : Nat) (x : El), v = refV x (.slice a n c) sz ∧ Hid (sz = PT.size t) ∧ Hid ((PT.min? t).getD (0, 0) = x) := by
  rcases h with ⟨rfl, rfl⟩ | ⟨x, k, kv, kcs, sz, rfl, rfl, h1, h2, h3⟩
  · exact ⟨none, 0, 0, 0, (0, 0), rfl, rfl, rfl⟩
  · obtain ⟨a, c, rfl, _, _⟩ := h2.nil_or
    exact ⟨a, _, c, sz, x, rfl, by have := h1.out; show _ = _; simp [PT.size, PT.els]; omega, rfl⟩

set_option maxRecDepth 100000 in
theorem refsize_ok (H : GH) (w : World) (t : PT) (v : Value) (hf : Fits w H) (ht : RefR H t v) :
    Calls Tryd.prog 7 #[v] w fun e w' => e = .returned (.int .i64 (PT.size t : Nat)) ∧ Keep none w w' := by
  have hpre : Pre w H none 0 0 := Pre.none hf 0 0
  obtain ⟨a, n, c, sz, x, rfl, hsz, hx⟩ := ht.form
  go_enter Tryd.func7, Tryd.ntmps7
  have h0 := St.start hpre
  refine wp_seq ?_
  repeat (first | simp only [List.nil_append] at h0 | simp only [List.cons_append] at h0 | simp only [List.set_cons_zero] at h0 | simp only [List.set_cons_succ] at h0 | simp only [List.eraseIdx_zero] at h0 | simp only [List.tail_cons] at h0 | simp only [List.eraseIdx_cons_zero] at h0 | simp only [List.eraseIdx_cons_succ] at h0 | simp only [List.setIfInBounds_toArray] at h0)
  refine wp_region_lit ?_
  refine wpList_plainQ rfl (fun K Q' hK => ?_); go_simp
  refine h0.k_alloc (fun w1 h1 => ?_)
  refine hK _ _ ?_; clear hK K; try clear Q'
  iterate 1 (refine wpList_plainQ rfl (fun K Q' hK => ?_); go_simp; refine hK _ _ ?_; clear hK K; try clear Q')
  refine wpList_nil ?_
  show Code.wp _ _ _ _ _
  refine wp_seq ?_
  repeat (first | simp only [List.nil_append] at h1 | simp only [List.cons_append] at h1 | simp only [List.set_cons_zero] at h1 | simp only [List.set_cons_succ] at h1 | simp only [List.eraseIdx_zero] at h1 | simp only [List.tail_cons] at h1 | simp only [List.eraseIdx_cons_zero] at h1 | simp only [List.eraseIdx_cons_succ] at h1 | simp only [List.setIfInBounds_toArray] at h1)
  refine wp_region_lit ?_
  have c_0_3 := h1.cell 0 rfl 3 rfl
  iterate 3 (refine wpList_plainQ rfl (fun K Q' hK => ?_); go_simp; refine hK _ _ ?_; clear hK K; try clear Q')
  clear c_0_3
  refine wpList_nil ?_
  show Code.wp _ _ _ _ _
  -- stops at: ret
  refine wp_ret ?_
  go_ret
  exact ⟨by rw [← hsz.out]; rfl, h1.post.keep⟩

set_option maxRecDepth 100000 in
theorem refmin_ok (H : GH) (w : World) (t : PT) (v : Value) (hf : Fits w H) (ht : RefR H t v) :
    Calls Tryd.prog 17 #[v] w fun e w' => e = .returned (.tuple #[elV ((PT.min? t).getD (0, 0)), .int .i64 0]) ∧ Keep none w w' := by
  have hpre : Pre w H none 0 0 := Pre.none hf 0 0
  obtain ⟨a, n, c, sz, x, rfl, hsz, hx⟩ := ht.form
  go_enter Tryd.func17, Tryd.ntmps17
  have h0 := St.start hpre
  refine wp_seq ?_
  repeat (first | simp only [List.nil_append] at h0 | simp only [List.cons_append] at h0 | simp only [List.set_cons_zero] at h0 | simp only [List.set_cons_succ] at h0 | simp only [List.eraseIdx_zero] at h0 | simp only [List.tail_cons] at h0 | simp only [List.eraseIdx_cons_zero] at h0 | simp only [List.eraseIdx_cons_succ] at h0 | simp only [List.setIfInBounds_toArray] at h0)
  refine wp_region_lit ?_
  refine wpList_plainQ rfl (fun K Q' hK => ?_); go_simp
  refine h0.k_alloc (fun w1 h1 => ?_)
  refine hK _ _ ?_; clear hK K; try clear Q'
  refine wpList_plainQ rfl (fun K Q' hK => ?_); go_simp
  refine h1.k_alloc (fun w2 h2 => ?_)
  refine hK _ _ ?_; clear hK K; try clear Q'
  iterate 1 (refine wpList_plainQ rfl (fun K Q' hK => ?_); go_simp; refine hK _ _ ?_; clear hK K; try clear Q')
  refine wpList_nil ?_
  show Code.wp _ _ _ _ _
  refine wp_seq ?_
  repeat (first | simp only [List.nil_append] at h2 | simp only [List.cons_append] at h2 | simp only [List.set_cons_zero] at h2 | simp only [List.set_cons_succ] at h2 | simp only [List.eraseIdx_zero] at h2 | simp only [List.tail_cons] at h2 | simp only [List.eraseIdx_cons_zero] at h2 | simp only [List.eraseIdx_cons_succ] at h2 | simp only [List.setIfInBounds_toArray] at h2)
  refine wp_region_lit ?_
  have c_0_0 := h2.cell 0 rfl 0 rfl
  have c_0_1 := h2.cell 0 rfl 1 rfl
  iterate 2 (refine wpList_plainQ rfl (fun K Q' hK => ?_); go_simp; refine hK _ _ ?_; clear hK K; try clear Q')
  clear c_0_0 c_0_1
  have c_0 := h2.cell 1 rfl 0 rfl
  have f_0 := h2.free 1 rfl 0
  have c_1 := h2.cell 1 rfl 1 rfl
  have f_1 := h2.free 1 rfl 1
  refine wpList_plainQ rfl (fun K Q' hK => ?_); go_simp
  clear c_0 f_0 c_1 f_1
  refine (h2.set (i := 1) rfl 0 _).k_set 1 rfl (fun w3 h3 => ?_)
  refine hK _ _ ?_; clear hK K; try clear Q'
  iterate 1 (refine wpList_plainQ rfl (fun K Q' hK => ?_); go_simp; refine hK _ _ ?_; clear hK K; try clear Q')
  refine wpList_nil ?_
  show Code.wp _ _ _ _ _
  -- stops at: ret
  refine wp_ret ?_
  have r_1_0 := h3.cell 1 rfl 0 rfl
  have r_1_1 := h3.cell 1 rfl 1 rfl
  first | show bodyPost _ _ _ _ _ _ | (simp only [Exit.then]; show bodyPost _ _ _ _ _ _) | (simp only [Exit.inBlock]; show bodyPost _ _ _ _ _ _) | (simp only [Exit.inBlock, Exit.then]; show bodyPost _ _ _ _ _ _) | (simp only [Exit.noGoto, Exit.inBlock, Exit.then]; show bodyPost _ _ _ _ _ _)
  refine bodyPost_ret (v := ?_) ?_ rfl ?_
  rotate_left
  · simp only [results, Tryd.results17]; go_simp; with_reducible rfl
  clear r_1_0 r_1_1
  exact ⟨by rw [hx.out], h3.post.keep⟩

set_option maxRecDepth 100000 in
set_option maxHeartbeats 2000000 in
theorem refinsert_ok (H : GH) (w : World) (x : El) (t : PT) (v : Value) (hf : Fits w H) (hn : PT.size t < 900000) (ht : RefR H t v) :
    Calls Tryd.prog 9 #[elV x, v] w fun e w' => ∃ r H', e = .returned (.tuple #[r, .int .i64 (1 + 2 * PT.meldN (.node x .nil .nil) t : Nat)]) ∧ Post w H none w' H' 0 0 ∧ RefR H' (PT.insert x t) r := by
  have hpre : Pre w H none 0 0 := Pre.none hf 0 0
  have ht' := ht
  obtain ⟨a, n, c, sz, y, rfl, hsz, hy⟩ := ht.form
  obtain ⟨z, hz⟩ : ∃ z, Hid (2 * PT.meldN (.node x .nil .nil) t = z) := ⟨_, show _ = _ from rfl⟩
  have hzb : z ≤ 2 := by
    have := hz.out
    have h2 : PT.meldN (.node x .nil .nil) t ≤ 1 := by cases t <;> simp [PT.meldN]
    omega
  obtain ⟨z1, hz1⟩ : ∃ z1, Hid (1 + z = z1) := ⟨_, show _ = _ from rfl⟩
  have e1 : IntKind.i64.wrap ((z : Int) + 1) = (z1 : Int) := by have := hz1.out; rw [IntWalk.i64_in _ (by omega)]; omega
  go_enter Tryd.func9, Tryd.ntmps9
  have h0 := St.start hpre
  refine wp_seq ?_
  repeat (first | simp only [List.nil_append] at h0 | simp only [List.cons_append] at h0 | simp only [List.set_cons_zero] at h0 | simp only [List.set_cons_succ] at h0 | simp only [List.eraseIdx_zero] at h0 | simp only [List.tail_cons] at h0 | simp only [List.eraseIdx_cons_zero] at h0 | simp only [List.eraseIdx_cons_succ] at h0 | simp only [List.setIfInBounds_toArray] at h0)
  refine wp_region_lit ?_
  refine wpList_plainQ rfl (fun K Q' hK => ?_); go_simp
  refine h0.k_alloc (fun w1 h1 => ?_)
  refine hK _ _ ?_; clear hK K; try clear Q'
  refine wpList_plainQ rfl (fun K Q' hK => ?_); go_simp
  refine h1.k_alloc (fun w2 h2 => ?_)
  refine hK _ _ ?_; clear hK K; try clear Q'
  refine wpList_plainQ rfl (fun K Q' hK => ?_); go_simp
  refine h2.k_alloc (fun w3 h3 => ?_)
  refine hK _ _ ?_; clear hK K; try clear Q'
  iterate 1 (refine wpList_plainQ rfl (fun K Q' hK => ?_); go_simp; refine hK _ _ ?_; clear hK K; try clear Q')
  refine wpList_nil ?_
  show Code.wp _ _ _ _ _
  refine wp_seq ?_
  repeat (first | simp only [List.nil_append] at h3 | simp only [List.cons_append] at h3 | simp only [List.set_cons_zero] at h3 | simp only [List.set_cons_succ] at h3 | simp only [List.eraseIdx_zero] at h3 | simp only [List.tail_cons] at h3 | simp only [List.eraseIdx_cons_zero] at h3 | simp only [List.eraseIdx_cons_succ] at h3 | simp only [List.setIfInBounds_toArray] at h3)
  refine wp_region_lit ?_
  have c_0_0 := h3.cell 0 rfl 0 rfl
  have c_0_1 := h3.cell 0 rfl 1 rfl
  have c_1_0 := h3.cell 1 rfl 0 rfl
  have c_1_1 := h3.cell 1 rfl 1 rfl
  have c_1_2 := h3.cell 1 rfl 2 rfl
  have c_1_3 := h3.cell 1 rfl 3 rfl
  iterate 3 (refine wpList_plainQ rfl (fun K Q' hK => ?_); go_simp; refine hK _ _ ?_; clear hK K; try clear Q')
  clear c_0_0 c_0_1 c_1_0 c_1_1 c_1_2 c_1_3
  -- stops at: eff:call (Go.Op.call {'callee': (Go.Callee.value (Go.Operand.func 11)), 'args': [(Go.Operand.tmp 10), (Go.Operand.tmp 11)], 'argTypes': [35, 35]}) slot 12
  refine wpList_plainQ rfl (fun K Q' hK => ?_); go_simp
  refine (refmeld_ok H _ (.node x .nil .nil) t _ _ h3.fits (by simp [PT.size, PT.els] at *; omega) (.inr ⟨x, .nil, .slice none 0 0, [], 1, rfl, rfl, rfl, SliceRep.nil _ _, rfl⟩) ht').mono ?_
  rintro e wA ⟨r, H1, rfl, hpA, hA⟩
  rw [hz.out]
  obtain ⟨a2, n2, c2, sz2, y2, rfl, _, _⟩ := hA.form
  have h4 := h3.call0 hpA
  refine hK _ _ ?_; clear hK K; try clear Q'
  iterate 3 (refine wpList_plainQ rfl (fun K Q' hK => ?_); go_simp; refine hK _ _ ?_; clear hK K; try clear Q')
  refine wpList_plainQ rfl (fun K Q' hK => ?_); go_simp
  refine h4.k_alloc (fun w5 h5 => ?_)
  refine hK _ _ ?_; clear hK K; try clear Q'
  have c_0 := h5.cell 3 rfl 0 rfl
  have f_0 := h5.free 3 rfl 0
  have c_1 := h5.cell 3 rfl 1 rfl
  have f_1 := h5.free 3 rfl 1
  have c_2 := h5.cell 3 rfl 2 rfl
  have f_2 := h5.free 3 rfl 2
  have c_3 := h5.cell 3 rfl 3 rfl
  have f_3 := h5.free 3 rfl 3
  refine wpList_plainQ rfl (fun K Q' hK => ?_); go_simp
  clear c_0 f_0 c_1 f_1 c_2 f_2 c_3 f_3
  refine (((h5.set (i := 3) rfl 0 _).set (i := 3) rfl 1 _).set (i := 3) rfl 2 _).k_set 3 rfl (fun w6 h6 => ?_)
  refine hK _ _ ?_; clear hK K; try clear Q'
  iterate 1 (refine wpList_plainQ rfl (fun K Q' hK => ?_); go_simp; refine hK _ _ ?_; clear hK K; try clear Q')
  refine wpList_nil ?_
  show Code.wp _ _ _ _ _
  refine wp_seq ?_
  repeat (first | simp only [List.nil_append] at h6 | simp only [List.cons_append] at h6 | simp only [List.set_cons_zero] at h6 | simp only [List.set_cons_succ] at h6 | simp only [List.eraseIdx_zero] at h6 | simp only [List.tail_cons] at h6 | simp only [List.eraseIdx_cons_zero] at h6 | simp only [List.eraseIdx_cons_succ] at h6 | simp only [List.setIfInBounds_toArray] at h6)
  refine wp_region_lit ?_
  have c_3_0 := h6.cell 3 rfl 0 rfl
  have c_3_1 := h6.cell 3 rfl 1 rfl
  have c_3_2 := h6.cell 3 rfl 2 rfl
  have c_3_3 := h6.cell 3 rfl 3 rfl
  iterate 3 (refine wpList_plainQ rfl (fun K Q' hK => ?_); go_simp; refine hK _ _ ?_; clear hK K; try clear Q')
  clear c_3_0 c_3_1 c_3_2 c_3_3
  have c_0 := h6.cell 2 rfl 0 rfl
  have f_0 := h6.free 2 rfl 0
  have c_1 := h6.cell 2 rfl 1 rfl
  have f_1 := h6.free 2 rfl 1
  have c_2 := h6.cell 2 rfl 2 rfl
  have f_2 := h6.free 2 rfl 2
  have c_3 := h6.cell 2 rfl 3 rfl
  have f_3 := h6.free 2 rfl 3
  refine wpList_plainQ rfl (fun K Q' hK => ?_); go_simp
  clear c_0 f_0 c_1 f_1 c_2 f_2 c_3 f_3
  refine (((h6.set (i := 2) rfl 0 _).set (i := 2) rfl 1 _).set (i := 2) rfl 2 _).k_set 2 rfl (fun w7 h7 => ?_)
  refine hK _ _ ?_; clear hK K; try clear Q'
  iterate 1 (refine wpList_plainQ rfl (fun K Q' hK => ?_); go_simp; refine hK _ _ ?_; clear hK K; try clear Q')
  refine wpList_nil ?_
  show Code.wp _ _ _ _ _
  -- stops at: ret
  repeat (first | simp only [List.nil_append] at h7 | simp only [List.cons_append] at h7 | simp only [List.set_cons_zero] at h7 | simp only [List.set_cons_succ] at h7 | simp only [List.eraseIdx_zero] at h7 | simp only [List.tail_cons] at h7 | simp only [List.eraseIdx_cons_zero] at h7 | simp only [List.eraseIdx_cons_succ] at h7 | simp only [List.setIfInBounds_toArray] at h7)
  refine wp_ret ?_
  have r_2_0 := h7.cell 2 rfl 0 rfl
  have r_2_1 := h7.cell 2 rfl 1 rfl
  have r_2_2 := h7.cell 2 rfl 2 rfl
  have r_2_3 := h7.cell 2 rfl 3 rfl
  first | show bodyPost _ _ _ _ _ _ | (simp only [Exit.then]; show bodyPost _ _ _ _ _ _) | (simp only [Exit.inBlock]; show bodyPost _ _ _ _ _ _) | (simp only [Exit.inBlock, Exit.then]; show bodyPost _ _ _ _ _ _) | (simp only [Exit.noGoto, Exit.inBlock, Exit.then]; show bodyPost _ _ _ _ _ _)
  refine bodyPost_ret (v := ?_) ?_ rfl ?_
  rotate_left
  · simp only [results, Tryd.results9]; go_simp; with_reducible rfl
  clear r_2_0 r_2_1 r_2_2 r_2_3
  exact ⟨_, H1, by rw [hz.out, hz1.out], h7.post, hA⟩
end Go.Proofs.YtnimanhoegbicaaDoor
