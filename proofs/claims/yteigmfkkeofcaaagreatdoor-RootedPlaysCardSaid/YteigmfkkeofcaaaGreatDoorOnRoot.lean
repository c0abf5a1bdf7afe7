/-
Skew heaps with their least element apart, in memory: what each function does.
-/
import Derived.Test.YteigmfkkeofcaaaGreatDoorOmSkew
import Derived.Test.YteigmfkkeofcaaaGreatDoorMhRoot
namespace Go.Proofs.YteigmfkkeofcaaaGreatDoor
open Go Go.RowKit
set_option linter.unusedVariables false

/-- A heap and where it lies. -/
def RtR (H : GH) (p : Option Addr) : Hp → Prop
  | none => p = none
  | some (x, l) => ∃ (b : Nat) (qa : Option Addr), p = some ⟨b, 0, none⟩ ∧ H b = some (.cells #[.pointer qa, .int .i64 x.1, .int .i64 x.2] 75) ∧ LsR H qa l
theorem RtR.mono {H H' : GH} {p : Option Addr} {t : Hp} (h : RtR H p t) (hl : H.le H') : RtR H' p t := by
  cases t with
  | none => exact h
  | some t =>
    obtain ⟨b, qa, h1, h2, h3⟩ := h
    exact ⟨b, qa, h1, hl _ _ h2, h3.mono hl⟩

set_option maxRecDepth 100000 in
set_option maxHeartbeats 1000000 in
theorem rmade_ok (H : GH) (w : World) (m : Option Nat) (c d : Int) (x : El) (qa : Option Addr) (l : List (Tr El)) (hpre : Pre w H m c d) (hl : LsR H qa l) :
    Calls Tryz.prog 23 #[mV m, elV x, hV qa] w fun e w' => ∃ p H', e = .returned (hV p) ∧ Post w H m w' H' c (d + 1) ∧ RtR H' p (some (x, l)) := by
  go_enter Tryz.func23, Tryz.ntmps23
  have h0 := St.start hpre
  refine wp_seq ?_
  repeat (first | simp only [List.nil_append] at h0 | simp only [List.cons_append] at h0 | simp only [List.set_cons_zero] at h0 | simp only [List.set_cons_succ] at h0 | simp only [List.eraseIdx_zero] at h0 | simp only [List.tail_cons] at h0 | simp only [List.eraseIdx_cons_zero] at h0 | simp only [List.eraseIdx_cons_succ] at h0 | simp only [List.setIfInBounds_toArray] at h0)
  refine wp_region_lit ?_
  refine wpList_plainQ rfl (fun K Q' hK => ?_); go_simp
  refine h0.k_alloc (fun w1 h1 => ?_)
  refine hK _ _ ?_; clear hK K; try clear Q'
  refine wpList_plainQ rfl (fun K Q' hK => ?_); go_simp
  refine h1.k_alloc (fun w2 h2 => ?_)
  refine hK _ _ ?_; clear hK K; try clear Q'
  refine wpList_plainQ rfl (fun K Q' hK => ?_); go_simp
  refine h2.k_alloc (fun w3 h3 => ?_)
  refine hK _ _ ?_; clear hK K; try clear Q'
  refine wpList_nil ?_
  show Code.wp _ _ _ _ _
  refine wp_seq ?_
  repeat (first | simp only [List.nil_append] at h3 | simp only [List.cons_append] at h3 | simp only [List.set_cons_zero] at h3 | simp only [List.set_cons_succ] at h3 | simp only [List.eraseIdx_zero] at h3 | simp only [List.tail_cons] at h3 | simp only [List.eraseIdx_cons_zero] at h3 | simp only [List.eraseIdx_cons_succ] at h3 | simp only [List.setIfInBounds_toArray] at h3)
  refine wp_region_lit ?_
  iterate 1 (refine wpList_plainQ rfl (fun K Q' hK => ?_); go_simp; refine hK _ _ ?_; clear hK K; try clear Q')
  -- stops at: eff:call (Go.Op.call {'callee': (Go.Callee.value (Go.Operand.func 41)), 'args': [(Go.Operand.tmp 7), (Go.Operand.const (Go.Value.int Go.IntKind.i64 1))], 'argTypes': [25 slot 8
  refine wpList_plainQ rfl (fun K Q' hK => ?_); go_simp
  refine (made_ok H _ m _ _ h3.pre).mono ?_
  rintro e wA ⟨⟨v, rfl⟩, hpA⟩
  have h4 := h3.call hpA
  refine hK _ _ ?_; clear hK K; try clear Q'
  refine wpList_nil ?_
  show Code.wp _ _ _ _ _
  refine wp_seq ?_
  repeat (first | simp only [List.nil_append] at h4 | simp only [List.cons_append] at h4 | simp only [List.set_cons_zero] at h4 | simp only [List.set_cons_succ] at h4 | simp only [List.eraseIdx_zero] at h4 | simp only [List.tail_cons] at h4 | simp only [List.eraseIdx_cons_zero] at h4 | simp only [List.eraseIdx_cons_succ] at h4 | simp only [List.setIfInBounds_toArray] at h4)
  refine wp_region_lit ?_
  have c_1_0 := h4.cell 1 rfl 0 rfl
  have c_0_0 := h4.cell 0 rfl 0 rfl
  have c_0_1 := h4.cell 0 rfl 1 rfl
  iterate 3 (refine wpList_plainQ rfl (fun K Q' hK => ?_); go_simp; refine hK _ _ ?_; clear hK K; try clear Q')
  clear c_1_0 c_0_0 c_0_1
  refine wpList_plainQ rfl (fun K Q' hK => ?_); go_simp
  refine h4.k_alloc (fun w5 h5 => ?_)
  refine hK _ _ ?_; clear hK K; try clear Q'
  iterate 1 (refine wpList_plainQ rfl (fun K Q' hK => ?_); go_simp; refine hK _ _ ?_; clear hK K; try clear Q')
  have c_0 := h5.cell 2 rfl 0 rfl
  have f_0 := h5.free 2 rfl 0
  refine wpList_plainQ rfl (fun K Q' hK => ?_); go_simp
  clear c_0 f_0
  refine h5.k_set 2 rfl (fun w6 h6 => ?_)
  refine hK _ _ ?_; clear hK K; try clear Q'
  refine wpList_nil ?_
  show Code.wp _ _ _ _ _
  -- stops at: ret
  refine wp_ret ?_
  have r_2_0 := h6.cell 2 rfl 0 rfl
  first | show bodyPost _ _ _ _ _ _ | (simp only [Exit.then]; show bodyPost _ _ _ _ _ _) | (simp only [Exit.inBlock]; show bodyPost _ _ _ _ _ _) | (simp only [Exit.inBlock, Exit.then]; show bodyPost _ _ _ _ _ _) | (simp only [Exit.noGoto, Exit.inBlock, Exit.then]; show bodyPost _ _ _ _ _ _)
  refine bodyPost_ret (v := ?_) ?_ rfl ?_
  rotate_left
  · simp only [results, Tryz.results23]; go_simp; with_reducible rfl
  clear r_2_0
  obtain ⟨H3, h99, l99, e99⟩ := h6.settled 3 rfl
  exact ⟨_, H3, rfl, h99.post, _, qa, rfl, e99, hl.mono l99⟩

set_option maxRecDepth 100000 in
set_option maxHeartbeats 4000000 in
theorem rinsert_ok (H : GH) (w : World) (m : Option Nat) (c d : Int) (p : Option Addr) (x : El) (t : Hp) (hpre : Pre w H m c d) (hn : Hp.size t < 900000) (ht : RtR H p t) :
    Calls Tryz.prog 8 #[hV p, mV m, elV x] w fun e w' => ∃ r H', e = .returned (hV r) ∧ Post w H m w' H' (c + Hp.insC x t) (d + Hp.insD x t) ∧ RtR H' r (Hp.insert x t) := by
  match t, hn, ht with
  | none, hn, ht =>
    obtain rfl : p = none := ht
    go_enter Tryz.func8, Tryz.ntmps8
    have h0 := St.start hpre
    refine wp_seq ?_
    repeat (first | simp only [List.nil_append] at h0 | simp only [List.cons_append] at h0 | simp only [List.set_cons_zero] at h0 | simp only [List.set_cons_succ] at h0 | simp only [List.eraseIdx_zero] at h0 | simp only [List.tail_cons] at h0 | simp only [List.eraseIdx_cons_zero] at h0 | simp only [List.eraseIdx_cons_succ] at h0 | simp only [List.setIfInBounds_toArray] at h0)
    refine wp_region_lit ?_
    refine wpList_plainQ rfl (fun K Q' hK => ?_); go_simp
    refine h0.k_alloc (fun w1 h1 => ?_)
    refine hK _ _ ?_; clear hK K; try clear Q'
    refine wpList_plainQ rfl (fun K Q' hK => ?_); go_simp
    refine h1.k_alloc (fun w2 h2 => ?_)
    refine hK _ _ ?_; clear hK K; try clear Q'
    refine wpList_plainQ rfl (fun K Q' hK => ?_); go_simp
    refine h2.k_alloc (fun w3 h3 => ?_)
    refine hK _ _ ?_; clear hK K; try clear Q'
    refine wpList_nil ?_
    show Code.wp _ _ _ _ _
    refine wp_seq ?_
    refine wp_seq ?_
    repeat (first | simp only [List.nil_append] at h3 | simp only [List.cons_append] at h3 | simp only [List.set_cons_zero] at h3 | simp only [List.set_cons_succ] at h3 | simp only [List.eraseIdx_zero] at h3 | simp only [List.tail_cons] at h3 | simp only [List.eraseIdx_cons_zero] at h3 | simp only [List.eraseIdx_cons_succ] at h3 | simp only [List.setIfInBounds_toArray] at h3)
    refine wp_region_lit ?_
    have c_0_0 := h3.cell 0 rfl 0 rfl
    iterate 3 (refine wpList_plainQ rfl (fun K Q' hK => ?_); go_simp; refine hK _ _ ?_; clear hK K; try clear Q')
    clear c_0_0
    refine wpList_nil ?_
    show Code.wp _ _ _ _ _
    -- stops at: cond
    refine wp_cond_true (rfl) ?_
    refine wp_seq ?_
    refine wp_region_lit ?_
    have c_1_0 := h3.cell 1 rfl 0 rfl
    have c_1_1 := h3.cell 1 rfl 1 rfl
    iterate 3 (refine wpList_plainQ rfl (fun K Q' hK => ?_); go_simp; refine hK _ _ ?_; clear hK K; try clear Q')
    clear c_1_0 c_1_1
    -- stops at: eff:call (Go.Op.call {'callee': (Go.Callee.value (Go.Operand.func 23)), 'args': [(Go.Operand.tmp 11), (Go.Operand.tmp 12), (Go.Operand.tmp 13)], 'argTypes': [25, 32, 73] slot 14
    refine wpList_plainQ rfl (fun K Q' hK => ?_); go_simp
    refine (rmade_ok H _ m _ _ x none [] h3.pre (LsR.nil H)).mono ?_
    rintro e wC ⟨p9, H9, rfl, hpC, hC⟩
    have h4 := h3.call hpC
    refine hK _ _ ?_; clear hK K; try clear Q'
    have c_0 := h4.cell 2 rfl 0 rfl
    have f_0 := h4.free 2 rfl 0
    refine wpList_plainQ rfl (fun K Q' hK => ?_); go_simp
    clear c_0 f_0
    refine h4.k_set 2 rfl (fun w5 h5 => ?_)
    refine hK _ _ ?_; clear hK K; try clear Q'
    refine wpList_nil ?_
    show Code.wp _ _ _ _ _
    -- stops at: ret
    refine wp_ret ?_
    have r_2_0 := h5.cell 2 rfl 0 rfl
    first | show bodyPost _ _ _ _ _ _ | (simp only [Exit.then]; show bodyPost _ _ _ _ _ _) | (simp only [Exit.inBlock]; show bodyPost _ _ _ _ _ _) | (simp only [Exit.inBlock, Exit.then]; show bodyPost _ _ _ _ _ _) | (simp only [Exit.noGoto, Exit.inBlock, Exit.then]; show bodyPost _ _ _ _ _ _)
    refine bodyPost_ret (v := ?_) ?_ rfl ?_
    rotate_left
    · simp only [results, Tryz.results8]; go_simp; with_reducible rfl
    clear r_2_0
    refine ⟨p9, H9, rfl, ?_, hC⟩
    simpa [Hp.insC, Hp.insD] using h5.post
  | some (r0, l), hn, ht =>
    obtain ⟨b, qa, rfl, hb, hl⟩ := ht
    have hsz : Rw.size l < 900000 := by have : (Rw.els l).length + 1 < 900000 := hn; unfold Rw.size; omega
    cases hlt : El.lt x r0 with
    | true =>
      have heq : Hp.insert x (some (r0, l)) = some (x, Sk.insert Hp.ke r0 l) := by rw [Hp.insert_some, if_pos hlt]
      go_enter Tryz.func8, Tryz.ntmps8
      have h0 := St.start hpre
      refine wp_seq ?_
      repeat (first | simp only [List.nil_append] at h0 | simp only [List.cons_append] at h0 | simp only [List.set_cons_zero] at h0 | simp only [List.set_cons_succ] at h0 | simp only [List.eraseIdx_zero] at h0 | simp only [List.tail_cons] at h0 | simp only [List.eraseIdx_cons_zero] at h0 | simp only [List.eraseIdx_cons_succ] at h0 | simp only [List.setIfInBounds_toArray] at h0)
      refine wp_region_lit ?_
      refine wpList_plainQ rfl (fun K Q' hK => ?_); go_simp
      refine h0.k_alloc (fun w1 h1 => ?_)
      refine hK _ _ ?_; clear hK K; try clear Q'
      refine wpList_plainQ rfl (fun K Q' hK => ?_); go_simp
      refine h1.k_alloc (fun w2 h2 => ?_)
      refine hK _ _ ?_; clear hK K; try clear Q'
      refine wpList_plainQ rfl (fun K Q' hK => ?_); go_simp
      refine h2.k_alloc (fun w3 h3 => ?_)
      refine hK _ _ ?_; clear hK K; try clear Q'
      refine wpList_nil ?_
      show Code.wp _ _ _ _ _
      refine wp_seq ?_
      refine wp_seq ?_
      repeat (first | simp only [List.nil_append] at h3 | simp only [List.cons_append] at h3 | simp only [List.set_cons_zero] at h3 | simp only [List.set_cons_succ] at h3 | simp only [List.eraseIdx_zero] at h3 | simp only [List.tail_cons] at h3 | simp only [List.eraseIdx_cons_zero] at h3 | simp only [List.eraseIdx_cons_succ] at h3 | simp only [List.setIfInBounds_toArray] at h3)
      refine wp_region_lit ?_
      have c_0_0 := h3.cell 0 rfl 0 rfl
      iterate 3 (refine wpList_plainQ rfl (fun K Q' hK => ?_); go_simp; refine hK _ _ ?_; clear hK K; try clear Q')
      clear c_0_0
      refine wpList_nil ?_
      show Code.wp _ _ _ _ _
      -- stops at: cond
      refine wp_cond_false (rfl) ?_
      refine wp_skip ?_
      show Code.wp _ _ _ _ _
      refine wp_seq ?_
      refine wp_region_lit ?_
      have c_0_0 := h3.cell 0 rfl 0 rfl
      have c_hb_1 := h3.gh hb 1 rfl
      have c_hb_2 := h3.gh hb 2 rfl
      iterate 5 (refine wpList_plainQ rfl (fun K Q' hK => ?_); go_simp; refine hK _ _ ?_; clear hK K; try clear Q')
      clear c_0_0 c_hb_1 c_hb_2
      refine wpList_plainQ rfl (fun K Q' hK => ?_); go_simp
      refine h3.k_alloc (fun w4 h4 => ?_)
      refine hK _ _ ?_; clear hK K; try clear Q'
      have c_0 := h4.cell 3 rfl 0 rfl
      have f_0 := h4.free 3 rfl 0
      have c_1 := h4.cell 3 rfl 1 rfl
      have f_1 := h4.free 3 rfl 1
      refine wpList_plainQ rfl (fun K Q' hK => ?_); go_simp
      clear c_0 f_0 c_1 f_1
      refine (h4.set (i := 3) rfl 0 _).k_set 3 rfl (fun w5 h5 => ?_)
      refine hK _ _ ?_; clear hK K; try clear Q'
      refine wpList_nil ?_
      show Code.wp _ _ _ _ _
      refine wp_seq ?_
      refine wp_seq ?_
      repeat (first | simp only [List.nil_append] at h5 | simp only [List.cons_append] at h5 | simp only [List.set_cons_zero] at h5 | simp only [List.set_cons_succ] at h5 | simp only [List.eraseIdx_zero] at h5 | simp only [List.tail_cons] at h5 | simp only [List.eraseIdx_cons_zero] at h5 | simp only [List.eraseIdx_cons_succ] at h5 | simp only [List.setIfInBounds_toArray] at h5)
      refine wp_region_lit ?_
      have c_1_0 := h5.cell 1 rfl 0 rfl
      have c_1_1 := h5.cell 1 rfl 1 rfl
      have c_3_0 := h5.cell 3 rfl 0 rfl
      have c_3_1 := h5.cell 3 rfl 1 rfl
      iterate 3 (refine wpList_plainQ rfl (fun K Q' hK => ?_); go_simp; refine hK _ _ ?_; clear hK K; try clear Q')
      clear c_1_0 c_1_1 c_3_0 c_3_1
      -- stops at: eff:call (Go.Op.call {'callee': (Go.Callee.value (Go.Operand.func 24)), 'args': [(Go.Operand.tmp 20), (Go.Operand.tmp 21), (Go.Operand.tmp 22)], 'argTypes': [25, 32, 32] slot 23
      refine wpList_plainQ rfl (fun K Q' hK => ?_); go_simp
      refine (less_ok H _ m c d x r0 h5.pre).mono ?_
      rintro e wA ⟨H1, rfl, hpA⟩
      rw [hlt]
      have h6 := h5.call hpA
      have hb_6 := hpA.le _ _ hb
      refine hK _ _ ?_; clear hK K; try clear Q'
      refine wpList_nil ?_
      show Code.wp _ _ _ _ _
      -- stops at: cond
      refine wp_cond_true (rfl) ?_
      repeat (first | simp only [List.nil_append] at h6 | simp only [List.cons_append] at h6 | simp only [List.set_cons_zero] at h6 | simp only [List.set_cons_succ] at h6 | simp only [List.eraseIdx_zero] at h6 | simp only [List.tail_cons] at h6 | simp only [List.eraseIdx_cons_zero] at h6 | simp only [List.eraseIdx_cons_succ] at h6 | simp only [List.setIfInBounds_toArray] at h6)
      refine wp_region_lit ?_
      have c_1_0 := h6.cell 1 rfl 0 rfl
      have c_1_1 := h6.cell 1 rfl 1 rfl
      have c_3_0 := h6.cell 3 rfl 0 rfl
      have c_3_1 := h6.cell 3 rfl 1 rfl
      iterate 2 (refine wpList_plainQ rfl (fun K Q' hK => ?_); go_simp; refine hK _ _ ?_; clear hK K; try clear Q')
      clear c_1_0 c_1_1 c_3_0 c_3_1
      have c_0 := h6.cell 3 rfl 0 rfl
      have f_0 := h6.free 3 rfl 0
      have c_1 := h6.cell 3 rfl 1 rfl
      have f_1 := h6.free 3 rfl 1
      refine wpList_plainQ rfl (fun K Q' hK => ?_); go_simp
      clear c_0 f_0 c_1 f_1
      refine (h6.set (i := 3) rfl 0 _).k_set 3 rfl (fun w7 h7 => ?_)
      refine hK _ _ ?_; clear hK K; try clear Q'
      have c_0 := h7.cell 1 rfl 0 rfl
      have f_0 := h7.free 1 rfl 0
      have c_1 := h7.cell 1 rfl 1 rfl
      have f_1 := h7.free 1 rfl 1
      refine wpList_plainQ rfl (fun K Q' hK => ?_); go_simp
      clear c_0 f_0 c_1 f_1
      refine (h7.set (i := 1) rfl 0 _).k_set 1 rfl (fun w8 h8 => ?_)
      refine hK _ _ ?_; clear hK K; try clear Q'
      refine wpList_nil ?_
      show Code.wp _ _ _ _ _
      refine wp_seq ?_
      repeat (first | simp only [List.nil_append] at h8 | simp only [List.cons_append] at h8 | simp only [List.set_cons_zero] at h8 | simp only [List.set_cons_succ] at h8 | simp only [List.eraseIdx_zero] at h8 | simp only [List.tail_cons] at h8 | simp only [List.eraseIdx_cons_zero] at h8 | simp only [List.eraseIdx_cons_succ] at h8 | simp only [List.setIfInBounds_toArray] at h8)
      refine h8.region [0, 1, 3] [(0, true), (1, true), (2, true), (3, true), (4, true), (5, true), (6, true), (7, true), (8, true), (9, false), (10, false), (11, false)] (by kernel_rfl) (by kernel_rfl) (fun w9 h9 => ?_)
      refine wpOrd_hide (fun _ _ d _ _ h => by cases d <;> exact h) (fun QR hQn hQp => ?_)
      simp only [ordOps, List.map_cons, List.map_nil, List.getD_cons_zero, List.getD_cons_succ]
      iterate 9 (refine wpOrd_quiet (v := ?_) rfl (fun _ _ _ => hQp _ _ _ _ _) ?_ ?_; rotate_left; (intro w' hS; have c_3_0 := hS.cell 2 rfl 0 rfl; have c_3_1 := hS.cell 2 rfl 1 rfl; have c_0_0 := hS.cell 0 rfl 0 rfl; have c_hb_0 := hS.gh hb_6 0 rfl; have c_1_0 := hS.cell 1 rfl 0 rfl; have c_1_1 := hS.cell 1 rfl 1 rfl; (first | (go_simp; done) | (go_simp; with_reducible rfl))); simp only [Act.put, List.setIfInBounds_toArray, List.set_cons_zero, List.set_cons_succ])
      -- stops at: eff:call (Go.Op.call {'callee': (Go.Callee.value (Go.Operand.func 25)), 'args': [(Go.Operand.tmp 32), (Go.Operand.tmp 33), (Go.Operand.tmp 34)], 'argTypes': [73, 25, 32] slot 35
      -- stops at: eff:call (Go.Op.call {'callee': (Go.Callee.value (Go.Operand.func 25)), 'args': [(Go.Operand.tmp 32), (Go.Operand.tmp 33), (Go.Operand.tmp 34)], 'argTypes': [73, 25, 32] slot 35
      refine wpOrd_effQ rfl (fun K Q' hK => ?_); go_simp
      refine (skinsert_ok H1 _ m _ _ qa r0 l h9.pre hsz (fun _ _ => trivial) (hl.mono hpA.le)).mono ?_
      rintro e wB ⟨q2, H2, rfl, hpB, hB⟩
      have h10 := h9.call hpB
      have hb_10 := hpB.le _ _ hb_6
      refine hK _ _ (h10.sat' hpB.le [0, 1, 3] (by kernel_rfl)) ?_; clear hK K; try clear Q'
      -- stops at: eff:call (Go.Op.call {'callee': (Go.Callee.value (Go.Operand.func 23)), 'args': [(Go.Operand.tmp 26), (Go.Operand.tmp 27), (Go.Operand.tmp 35)], 'argTypes': [25, 32, 73] slot 36
      refine wpOrd_effQ rfl (fun K Q' hK => ?_); go_simp
      refine (rmade_ok H2 _ m _ _ x q2 _ h10.pre hB).mono ?_
      rintro e wC ⟨p9, H9, rfl, hpC, hC⟩
      have h11 := h10.call hpC
      have hb_11 := hpC.le _ _ hb_10
      refine hK _ _ (h11.sat' (GH.le.trans hpB.le hpC.le) [0, 1, 3] (by kernel_rfl)) ?_; clear hK K; try clear Q'
      have c_0 := h11.cell 2 rfl 0 rfl
      have f_0 := h11.free 2 rfl 0
      refine wpOrd_effQ rfl (fun K Q' hK => ?_); go_simp
      clear c_0 f_0
      refine h11.k_set 2 rfl (fun w12 h12 => ?_)
      refine hK _ _ (h12.sat' (GH.le.trans hpB.le hpC.le) [0, 1, 3] (by kernel_rfl)) ?_; clear hK K; try clear Q'
      refine wpOrd_nil (hQn _ _ ?_); clear hQn hQp QR
      show Code.wp _ _ _ _ _
      -- stops at: ret
      refine wp_ret ?_
      have r_2_0 := h12.cell 2 rfl 0 rfl
      first | show bodyPost _ _ _ _ _ _ | (simp only [Exit.then]; show bodyPost _ _ _ _ _ _) | (simp only [Exit.inBlock]; show bodyPost _ _ _ _ _ _) | (simp only [Exit.inBlock, Exit.then]; show bodyPost _ _ _ _ _ _) | (simp only [Exit.noGoto, Exit.inBlock, Exit.then]; show bodyPost _ _ _ _ _ _)
      refine bodyPost_ret (v := ?_) ?_ rfl ?_
      rotate_left
      · simp only [results, Tryz.results8]; go_simp; with_reducible rfl
      clear r_2_0
      refine ⟨p9, H9, rfl, ?_, by rw [heq]; exact hC⟩
      have hq := h12.post
      rw [show c + 1 + (Sk.insC l : Nat) = c + ((1 + Sk.insC l : Nat) : Int) by omega, show d + (Sk.insD l : Nat) + 1 = d + ((Sk.insD l + 1 : Nat) : Int) by omega] at hq
      exact hq
    | false =>
      have heq : Hp.insert x (some (r0, l)) = some (r0, Sk.insert Hp.ke x l) := by rw [Hp.insert_some, if_neg (by simp [hlt])]
      go_enter Tryz.func8, Tryz.ntmps8
      have h0 := St.start hpre
      refine wp_seq ?_
      repeat (first | simp only [List.nil_append] at h0 | simp only [List.cons_append] at h0 | simp only [List.set_cons_zero] at h0 | simp only [List.set_cons_succ] at h0 | simp only [List.eraseIdx_zero] at h0 | simp only [List.tail_cons] at h0 | simp only [List.eraseIdx_cons_zero] at h0 | simp only [List.eraseIdx_cons_succ] at h0 | simp only [List.setIfInBounds_toArray] at h0)
      refine wp_region_lit ?_
      refine wpList_plainQ rfl (fun K Q' hK => ?_); go_simp
      refine h0.k_alloc (fun w1 h1 => ?_)
      refine hK _ _ ?_; clear hK K; try clear Q'
      refine wpList_plainQ rfl (fun K Q' hK => ?_); go_simp
      refine h1.k_alloc (fun w2 h2 => ?_)
      refine hK _ _ ?_; clear hK K; try clear Q'
      refine wpList_plainQ rfl (fun K Q' hK => ?_); go_simp
      refine h2.k_alloc (fun w3 h3 => ?_)
      refine hK _ _ ?_; clear hK K; try clear Q'
      refine wpList_nil ?_
      show Code.wp _ _ _ _ _
      refine wp_seq ?_
      refine wp_seq ?_
      repeat (first | simp only [List.nil_append] at h3 | simp only [List.cons_append] at h3 | simp only [List.set_cons_zero] at h3 | simp only [List.set_cons_succ] at h3 | simp only [List.eraseIdx_zero] at h3 | simp only [List.tail_cons] at h3 | simp only [List.eraseIdx_cons_zero] at h3 | simp only [List.eraseIdx_cons_succ] at h3 | simp only [List.setIfInBounds_toArray] at h3)
      refine wp_region_lit ?_
      have c_0_0 := h3.cell 0 rfl 0 rfl
      iterate 3 (refine wpList_plainQ rfl (fun K Q' hK => ?_); go_simp; refine hK _ _ ?_; clear hK K; try clear Q')
      clear c_0_0
      refine wpList_nil ?_
      show Code.wp _ _ _ _ _
      -- stops at: cond
      refine wp_cond_false (rfl) ?_
      refine wp_skip ?_
      show Code.wp _ _ _ _ _
      refine wp_seq ?_
      refine wp_region_lit ?_
      have c_0_0 := h3.cell 0 rfl 0 rfl
      have c_hb_1 := h3.gh hb 1 rfl
      have c_hb_2 := h3.gh hb 2 rfl
      iterate 5 (refine wpList_plainQ rfl (fun K Q' hK => ?_); go_simp; refine hK _ _ ?_; clear hK K; try clear Q')
      clear c_0_0 c_hb_1 c_hb_2
      refine wpList_plainQ rfl (fun K Q' hK => ?_); go_simp
      refine h3.k_alloc (fun w4 h4 => ?_)
      refine hK _ _ ?_; clear hK K; try clear Q'
      have c_0 := h4.cell 3 rfl 0 rfl
      have f_0 := h4.free 3 rfl 0
      have c_1 := h4.cell 3 rfl 1 rfl
      have f_1 := h4.free 3 rfl 1
      refine wpList_plainQ rfl (fun K Q' hK => ?_); go_simp
      clear c_0 f_0 c_1 f_1
      refine (h4.set (i := 3) rfl 0 _).k_set 3 rfl (fun w5 h5 => ?_)
      refine hK _ _ ?_; clear hK K; try clear Q'
      refine wpList_nil ?_
      show Code.wp _ _ _ _ _
      refine wp_seq ?_
      refine wp_seq ?_
      repeat (first | simp only [List.nil_append] at h5 | simp only [List.cons_append] at h5 | simp only [List.set_cons_zero] at h5 | simp only [List.set_cons_succ] at h5 | simp only [List.eraseIdx_zero] at h5 | simp only [List.tail_cons] at h5 | simp only [List.eraseIdx_cons_zero] at h5 | simp only [List.eraseIdx_cons_succ] at h5 | simp only [List.setIfInBounds_toArray] at h5)
      refine wp_region_lit ?_
      have c_1_0 := h5.cell 1 rfl 0 rfl
      have c_1_1 := h5.cell 1 rfl 1 rfl
      have c_3_0 := h5.cell 3 rfl 0 rfl
      have c_3_1 := h5.cell 3 rfl 1 rfl
      iterate 3 (refine wpList_plainQ rfl (fun K Q' hK => ?_); go_simp; refine hK _ _ ?_; clear hK K; try clear Q')
      clear c_1_0 c_1_1 c_3_0 c_3_1
      -- stops at: eff:call (Go.Op.call {'callee': (Go.Callee.value (Go.Operand.func 24)), 'args': [(Go.Operand.tmp 20), (Go.Operand.tmp 21), (Go.Operand.tmp 22)], 'argTypes': [25, 32, 32] slot 23
      refine wpList_plainQ rfl (fun K Q' hK => ?_); go_simp
      refine (less_ok H _ m c d x r0 h5.pre).mono ?_
      rintro e wA ⟨H1, rfl, hpA⟩
      rw [hlt]
      have h6 := h5.call hpA
      have hb_6 := hpA.le _ _ hb
      refine hK _ _ ?_; clear hK K; try clear Q'
      refine wpList_nil ?_
      show Code.wp _ _ _ _ _
      -- stops at: cond
      refine wp_cond_false (rfl) ?_
      refine wp_skip ?_
      show Code.wp _ _ _ _ _
      refine wp_seq ?_
      repeat (first | simp only [List.nil_append] at h6 | simp only [List.cons_append] at h6 | simp only [List.set_cons_zero] at h6 | simp only [List.set_cons_succ] at h6 | simp only [List.eraseIdx_zero] at h6 | simp only [List.tail_cons] at h6 | simp only [List.eraseIdx_cons_zero] at h6 | simp only [List.eraseIdx_cons_succ] at h6 | simp only [List.setIfInBounds_toArray] at h6)
      refine h6.region [0, 1, 3] [(0, true), (1, true), (2, true), (3, true), (4, true), (5, true), (6, true), (7, true), (8, true), (9, false), (10, false), (11, false)] (by kernel_rfl) (by kernel_rfl) (fun w7 h7 => ?_)
      refine wpOrd_hide (fun _ _ d _ _ h => by cases d <;> exact h) (fun QR hQn hQp => ?_)
      simp only [ordOps, List.map_cons, List.map_nil, List.getD_cons_zero, List.getD_cons_succ]
      iterate 9 (refine wpOrd_quiet (v := ?_) rfl (fun _ _ _ => hQp _ _ _ _ _) ?_ ?_; rotate_left; (intro w' hS; have c_3_0 := hS.cell 2 rfl 0 rfl; have c_3_1 := hS.cell 2 rfl 1 rfl; have c_0_0 := hS.cell 0 rfl 0 rfl; have c_hb_0 := hS.gh hb_6 0 rfl; have c_1_0 := hS.cell 1 rfl 0 rfl; have c_1_1 := hS.cell 1 rfl 1 rfl; (first | (go_simp; done) | (go_simp; with_reducible rfl))); simp only [Act.put, List.setIfInBounds_toArray, List.set_cons_zero, List.set_cons_succ])
      -- stops at: eff:call (Go.Op.call {'callee': (Go.Callee.value (Go.Operand.func 25)), 'args': [(Go.Operand.tmp 32), (Go.Operand.tmp 33), (Go.Operand.tmp 34)], 'argTypes': [73, 25, 32] slot 35
      refine wpOrd_effQ rfl (fun K Q' hK => ?_); go_simp
      refine (skinsert_ok H1 _ m _ _ qa x l h7.pre hsz (fun _ _ => trivial) (hl.mono hpA.le)).mono ?_
      rintro e wB ⟨q2, H2, rfl, hpB, hB⟩
      have h8 := h7.call hpB
      have hb_8 := hpB.le _ _ hb_6
      refine hK _ _ (h8.sat' hpB.le [0, 1, 3] (by kernel_rfl)) ?_; clear hK K; try clear Q'
      -- stops at: eff:call (Go.Op.call {'callee': (Go.Callee.value (Go.Operand.func 23)), 'args': [(Go.Operand.tmp 26), (Go.Operand.tmp 27), (Go.Operand.tmp 35)], 'argTypes': [25, 32, 73] slot 36
      refine wpOrd_effQ rfl (fun K Q' hK => ?_); go_simp
      refine (rmade_ok H2 _ m _ _ r0 q2 _ h8.pre hB).mono ?_
      rintro e wC ⟨p9, H9, rfl, hpC, hC⟩
      have h9 := h8.call hpC
      have hb_9 := hpC.le _ _ hb_8
      refine hK _ _ (h9.sat' (GH.le.trans hpB.le hpC.le) [0, 1, 3] (by kernel_rfl)) ?_; clear hK K; try clear Q'
      have c_0 := h9.cell 2 rfl 0 rfl
      have f_0 := h9.free 2 rfl 0
      refine wpOrd_effQ rfl (fun K Q' hK => ?_); go_simp
      clear c_0 f_0
      refine h9.k_set 2 rfl (fun w10 h10 => ?_)
      refine hK _ _ (h10.sat' (GH.le.trans hpB.le hpC.le) [0, 1, 3] (by kernel_rfl)) ?_; clear hK K; try clear Q'
      refine wpOrd_nil (hQn _ _ ?_); clear hQn hQp QR
      show Code.wp _ _ _ _ _
      -- stops at: ret
      refine wp_ret ?_
      have r_2_0 := h10.cell 2 rfl 0 rfl
      first | show bodyPost _ _ _ _ _ _ | (simp only [Exit.then]; show bodyPost _ _ _ _ _ _) | (simp only [Exit.inBlock]; show bodyPost _ _ _ _ _ _) | (simp only [Exit.inBlock, Exit.then]; show bodyPost _ _ _ _ _ _) | (simp only [Exit.noGoto, Exit.inBlock, Exit.then]; show bodyPost _ _ _ _ _ _)
      refine bodyPost_ret (v := ?_) ?_ rfl ?_
      rotate_left
      · simp only [results, Tryz.results8]; go_simp; with_reducible rfl
      clear r_2_0
      refine ⟨p9, H9, rfl, ?_, by rw [heq]; exact hC⟩
      have hq := h10.post
      rw [show c + 1 + (Sk.insC l : Nat) = c + ((1 + Sk.insC l : Nat) : Int) by omega, show d + (Sk.insD l : Nat) + 1 = d + ((Sk.insD l + 1 : Nat) : Int) by omega] at hq
      exact hq

set_option maxRecDepth 100000 in
set_option maxHeartbeats 4000000 in
theorem rmeld_ok (H : GH) (w : World) (m : Option Nat) (c d : Int) (p q : Option Addr) (s t : Hp) (hpre : Pre w H m c d) (hn : Hp.size s + Hp.size t < 900000) (hs : RtR H p s) (ht : RtR H q t) :
    Calls Tryz.prog 10 #[hV p, mV m, hV q] w fun e w' => ∃ r H', e = .returned (hV r) ∧ Post w H m w' H' (c + Hp.meldC s t) (d + Hp.meldD s t) ∧ RtR H' r (Hp.meld s t) := by
  match s, t, hn, hs, ht with
  | none, t, hn, hs, ht =>
    obtain rfl : p = none := hs
    go_enter Tryz.func10, Tryz.ntmps10
    have h0 := St.start hpre
    refine wp_seq ?_
    repeat (first | simp only [List.nil_append] at h0 | simp only [List.cons_append] at h0 | simp only [List.set_cons_zero] at h0 | simp only [List.set_cons_succ] at h0 | simp only [List.eraseIdx_zero] at h0 | simp only [List.tail_cons] at h0 | simp only [List.eraseIdx_cons_zero] at h0 | simp only [List.eraseIdx_cons_succ] at h0 | simp only [List.setIfInBounds_toArray] at h0)
    refine wp_region_lit ?_
    refine wpList_plainQ rfl (fun K Q' hK => ?_); go_simp
    refine h0.k_alloc (fun w1 h1 => ?_)
    refine hK _ _ ?_; clear hK K; try clear Q'
    refine wpList_plainQ rfl (fun K Q' hK => ?_); go_simp
    refine h1.k_alloc (fun w2 h2 => ?_)
    refine hK _ _ ?_; clear hK K; try clear Q'
    refine wpList_plainQ rfl (fun K Q' hK => ?_); go_simp
    refine h2.k_alloc (fun w3 h3 => ?_)
    refine hK _ _ ?_; clear hK K; try clear Q'
    refine wpList_nil ?_
    show Code.wp _ _ _ _ _
    refine wp_seq ?_
    refine wp_block ?_
    refine wp_seq ?_
    repeat (first | simp only [List.nil_append] at h3 | simp only [List.cons_append] at h3 | simp only [List.set_cons_zero] at h3 | simp only [List.set_cons_succ] at h3 | simp only [List.eraseIdx_zero] at h3 | simp only [List.tail_cons] at h3 | simp only [List.eraseIdx_cons_zero] at h3 | simp only [List.eraseIdx_cons_succ] at h3 | simp only [List.setIfInBounds_toArray] at h3)
    refine wp_region_lit ?_
    have c_0_0 := h3.cell 0 rfl 0 rfl
    iterate 4 (refine wpList_plainQ rfl (fun K Q' hK => ?_); go_simp; refine hK _ _ ?_; clear hK K; try clear Q')
    clear c_0_0
    refine wpList_nil ?_
    show Code.wp _ _ _ _ _
    -- stops at: cond
    refine wp_cond_true (rfl) ?_
    refine wp_seq ?_
    refine wp_region_lit ?_
    have c_1_0 := h3.cell 1 rfl 0 rfl
    iterate 1 (refine wpList_plainQ rfl (fun K Q' hK => ?_); go_simp; refine hK _ _ ?_; clear hK K; try clear Q')
    clear c_1_0
    have c_0 := h3.cell 2 rfl 0 rfl
    have f_0 := h3.free 2 rfl 0
    refine wpList_plainQ rfl (fun K Q' hK => ?_); go_simp
    clear c_0 f_0
    refine h3.k_set 2 rfl (fun w4 h4 => ?_)
    refine hK _ _ ?_; clear hK K; try clear Q'
    refine wpList_nil ?_
    show Code.wp _ _ _ _ _
    -- stops at: ret
    refine wp_ret ?_
    have r_2_0 := h4.cell 2 rfl 0 rfl
    first | show bodyPost _ _ _ _ _ _ | (simp only [Exit.then]; show bodyPost _ _ _ _ _ _) | (simp only [Exit.inBlock]; show bodyPost _ _ _ _ _ _) | (simp only [Exit.inBlock, Exit.then]; show bodyPost _ _ _ _ _ _) | (simp only [Exit.noGoto, Exit.inBlock, Exit.then]; show bodyPost _ _ _ _ _ _)
    refine bodyPost_ret (v := ?_) ?_ rfl ?_
    rotate_left
    · simp only [results, Tryz.results10]; go_simp; with_reducible rfl
    clear r_2_0
    refine ⟨q, H, rfl, ?_, ht⟩
    simpa [Hp.meldC, Hp.meldD] using h4.post
  | some (r0, l), none, hn, hs, ht =>
    obtain rfl : q = none := ht
    have hs' := hs
    obtain ⟨b, qa, rfl, hb, hl⟩ := hs
    go_enter Tryz.func10, Tryz.ntmps10
    have h0 := St.start hpre
    refine wp_seq ?_
    repeat (first | simp only [List.nil_append] at h0 | simp only [List.cons_append] at h0 | simp only [List.set_cons_zero] at h0 | simp only [List.set_cons_succ] at h0 | simp only [List.eraseIdx_zero] at h0 | simp only [List.tail_cons] at h0 | simp only [List.eraseIdx_cons_zero] at h0 | simp only [List.eraseIdx_cons_succ] at h0 | simp only [List.setIfInBounds_toArray] at h0)
    refine wp_region_lit ?_
    refine wpList_plainQ rfl (fun K Q' hK => ?_); go_simp
    refine h0.k_alloc (fun w1 h1 => ?_)
    refine hK _ _ ?_; clear hK K; try clear Q'
    refine wpList_plainQ rfl (fun K Q' hK => ?_); go_simp
    refine h1.k_alloc (fun w2 h2 => ?_)
    refine hK _ _ ?_; clear hK K; try clear Q'
    refine wpList_plainQ rfl (fun K Q' hK => ?_); go_simp
    refine h2.k_alloc (fun w3 h3 => ?_)
    refine hK _ _ ?_; clear hK K; try clear Q'
    refine wpList_nil ?_
    show Code.wp _ _ _ _ _
    refine wp_seq ?_
    refine wp_block ?_
    refine wp_seq ?_
    repeat (first | simp only [List.nil_append] at h3 | simp only [List.cons_append] at h3 | simp only [List.set_cons_zero] at h3 | simp only [List.set_cons_succ] at h3 | simp only [List.eraseIdx_zero] at h3 | simp only [List.tail_cons] at h3 | simp only [List.eraseIdx_cons_zero] at h3 | simp only [List.eraseIdx_cons_succ] at h3 | simp only [List.setIfInBounds_toArray] at h3)
    refine wp_region_lit ?_
    have c_0_0 := h3.cell 0 rfl 0 rfl
    iterate 4 (refine wpList_plainQ rfl (fun K Q' hK => ?_); go_simp; refine hK _ _ ?_; clear hK K; try clear Q')
    clear c_0_0
    refine wpList_nil ?_
    show Code.wp _ _ _ _ _
    -- stops at: cond
    refine wp_cond_false (rfl) ?_
    refine wp_seq ?_
    refine wp_region_lit ?_
    have c_1_0 := h3.cell 1 rfl 0 rfl
    iterate 4 (refine wpList_plainQ rfl (fun K Q' hK => ?_); go_simp; refine hK _ _ ?_; clear hK K; try clear Q')
    clear c_1_0
    refine wpList_nil ?_
    show Code.wp _ _ _ _ _
    -- stops at: cond
    refine wp_cond_true (rfl) ?_
    refine wp_seq ?_
    refine wp_region_lit ?_
    have c_0_0 := h3.cell 0 rfl 0 rfl
    iterate 1 (refine wpList_plainQ rfl (fun K Q' hK => ?_); go_simp; refine hK _ _ ?_; clear hK K; try clear Q')
    clear c_0_0
    have c_0 := h3.cell 2 rfl 0 rfl
    have f_0 := h3.free 2 rfl 0
    refine wpList_plainQ rfl (fun K Q' hK => ?_); go_simp
    clear c_0 f_0
    refine h3.k_set 2 rfl (fun w4 h4 => ?_)
    refine hK _ _ ?_; clear hK K; try clear Q'
    refine wpList_nil ?_
    show Code.wp _ _ _ _ _
    -- stops at: ret
    refine wp_ret ?_
    have r_2_0 := h4.cell 2 rfl 0 rfl
    first | show bodyPost _ _ _ _ _ _ | (simp only [Exit.then]; show bodyPost _ _ _ _ _ _) | (simp only [Exit.inBlock]; show bodyPost _ _ _ _ _ _) | (simp only [Exit.inBlock, Exit.then]; show bodyPost _ _ _ _ _ _) | (simp only [Exit.noGoto, Exit.inBlock, Exit.then]; show bodyPost _ _ _ _ _ _)
    refine bodyPost_ret (v := ?_) ?_ rfl ?_
    rotate_left
    · simp only [results, Tryz.results10]; go_simp; with_reducible rfl
    clear r_2_0
    refine ⟨_, H, rfl, ?_, hs'⟩
    simpa [Hp.meldC, Hp.meldD] using h4.post
  | some (r0, l), some (s0, k), hn, hs, ht =>
    obtain ⟨b, qa, rfl, hb, hl⟩ := hs
    obtain ⟨b2, qb, rfl, hb2, hk⟩ := ht
    have hsz : (Rw.els l).length + (Rw.els k).length < 900000 := by have : (Rw.els l).length + 1 + ((Rw.els k).length + 1) < 900000 := hn; omega
    have hsz2 : Rw.size l + Rw.size k < 900000 := hsz
    cases hlt : El.lt s0 r0 with
    | true =>
      have heq : Hp.meld (some (r0, l)) (some (s0, k)) = some (s0, Sk.insert Hp.ke r0 (Sk.meld Hp.ke l k)) := by rw [Hp.meld_some, if_pos hlt]
      go_enter Tryz.func10, Tryz.ntmps10
      have h0 := St.start hpre
      refine wp_seq ?_
      repeat (first | simp only [List.nil_append] at h0 | simp only [List.cons_append] at h0 | simp only [List.set_cons_zero] at h0 | simp only [List.set_cons_succ] at h0 | simp only [List.eraseIdx_zero] at h0 | simp only [List.tail_cons] at h0 | simp only [List.eraseIdx_cons_zero] at h0 | simp only [List.eraseIdx_cons_succ] at h0 | simp only [List.setIfInBounds_toArray] at h0)
      refine wp_region_lit ?_
      refine wpList_plainQ rfl (fun K Q' hK => ?_); go_simp
      refine h0.k_alloc (fun w1 h1 => ?_)
      refine hK _ _ ?_; clear hK K; try clear Q'
      refine wpList_plainQ rfl (fun K Q' hK => ?_); go_simp
      refine h1.k_alloc (fun w2 h2 => ?_)
      refine hK _ _ ?_; clear hK K; try clear Q'
      refine wpList_plainQ rfl (fun K Q' hK => ?_); go_simp
      refine h2.k_alloc (fun w3 h3 => ?_)
      refine hK _ _ ?_; clear hK K; try clear Q'
      refine wpList_nil ?_
      show Code.wp _ _ _ _ _
      refine wp_seq ?_
      refine wp_block ?_
      refine wp_seq ?_
      repeat (first | simp only [List.nil_append] at h3 | simp only [List.cons_append] at h3 | simp only [List.set_cons_zero] at h3 | simp only [List.set_cons_succ] at h3 | simp only [List.eraseIdx_zero] at h3 | simp only [List.tail_cons] at h3 | simp only [List.eraseIdx_cons_zero] at h3 | simp only [List.eraseIdx_cons_succ] at h3 | simp only [List.setIfInBounds_toArray] at h3)
      refine wp_region_lit ?_
      have c_0_0 := h3.cell 0 rfl 0 rfl
      iterate 4 (refine wpList_plainQ rfl (fun K Q' hK => ?_); go_simp; refine hK _ _ ?_; clear hK K; try clear Q')
      clear c_0_0
      refine wpList_nil ?_
      show Code.wp _ _ _ _ _
      -- stops at: cond
      refine wp_cond_false (rfl) ?_
      refine wp_seq ?_
      refine wp_region_lit ?_
      have c_1_0 := h3.cell 1 rfl 0 rfl
      iterate 4 (refine wpList_plainQ rfl (fun K Q' hK => ?_); go_simp; refine hK _ _ ?_; clear hK K; try clear Q')
      clear c_1_0
      refine wpList_nil ?_
      show Code.wp _ _ _ _ _
      -- stops at: cond
      refine wp_cond_false (rfl) ?_
      refine wp_skip ?_
      show Code.wp _ _ _ _ _
      refine wp_seq ?_
      refine h3.regionT [0, 1] (.one 0 true (.one 1 true (.one 2 true (.one 3 true (.one 4 true (.one 5 true (.one 6 true (.one 7 true (.one 8 true (.one 9 true (.two (.one 10 false (.one 11 false (.one 12 false (.one 13 false .nil)))) (.one 11 false (.one 10 false (.one 12 false (.one 13 false .nil))))))))))))))) (by as_aux_lemma => kernel_rfl) (by as_aux_lemma => kernel_rfl) (fun w4 h4 => ?_)
      refine wpT_hide (fun _ _ d _ _ h => by cases d <;> exact h) (fun QR hQn hQp => ?_)
      dsimp only [OT.ops, List.getD_cons_zero, List.getD_cons_succ]
      iterate 10 (refine wpT_quiet (v := ?_) rfl (fun _ _ _ => hQp _ _ _ _ _) ?_ ?_; rotate_left; (intro w' hS; have c_0_0 := hS.cell 0 rfl 0 rfl; have c_hb_1 := hS.gh hb 1 rfl; have c_hb_2 := hS.gh hb 2 rfl; have c_1_0 := hS.cell 1 rfl 0 rfl; have c_hb2_1 := hS.gh hb2 1 rfl; have c_hb2_2 := hS.gh hb2 2 rfl; (first | (go_simp; done) | (go_simp; with_reducible rfl))); simp only [Act.put, List.setIfInBounds_toArray])
      refine wpT_two ?_ ?_
      -- stops at: fork 
      · skip
        as_aux_lemma =>
        refine wpT_effQ rfl (fun K Q' hK => ?_); go_simp
        refine h4.k_alloc (fun w5 h5 => ?_)
        refine hK _ _ (h5.sat' (GH.le_refl _) [0, 1] (by kernel_rfl)) ?_; clear hK K; try clear Q'
        refine wpT_effQ rfl (fun K Q' hK => ?_); go_simp
        refine h5.k_alloc (fun w6 h6 => ?_)
        refine hK _ _ (h6.sat' (GH.le_refl _) [0, 1] (by kernel_rfl)) ?_; clear hK K; try clear Q'
        have c_0 := h6.cell 3 rfl 0 rfl
        have f_0 := h6.free 3 rfl 0
        have c_1 := h6.cell 3 rfl 1 rfl
        have f_1 := h6.free 3 rfl 1
        refine wpT_effQ rfl (fun K Q' hK => ?_); go_simp
        clear c_0 f_0 c_1 f_1
        refine (h6.set (i := 3) rfl 0 _).k_set 3 rfl (fun w7 h7 => ?_)
        refine hK _ _ (h7.sat' (GH.le_refl _) [0, 1] (by kernel_rfl)) ?_; clear hK K; try clear Q'
        have c_0 := h7.cell 4 rfl 0 rfl
        have f_0 := h7.free 4 rfl 0
        have c_1 := h7.cell 4 rfl 1 rfl
        have f_1 := h7.free 4 rfl 1
        refine wpT_effQ rfl (fun K Q' hK => ?_); go_simp
        clear c_0 f_0 c_1 f_1
        refine (h7.set (i := 4) rfl 0 _).k_set 4 rfl (fun w8 h8 => ?_)
        refine hK _ _ (h8.sat' (GH.le_refl _) [0, 1] (by kernel_rfl)) ?_; clear hK K; try clear Q'
        refine wpT_nil (hQn _ _ ?_); clear hQn hQp QR
        show Code.wp _ _ _ _ _
        refine wp_seq ?_
        refine wp_seq ?_
        repeat (first | simp only [List.nil_append] at h8 | simp only [List.cons_append] at h8 | simp only [List.set_cons_zero] at h8 | simp only [List.set_cons_succ] at h8 | simp only [List.eraseIdx_zero] at h8 | simp only [List.tail_cons] at h8 | simp only [List.eraseIdx_cons_zero] at h8 | simp only [List.eraseIdx_cons_succ] at h8 | simp only [List.setIfInBounds_toArray] at h8)
        refine wp_region_lit ?_
        have c_4_0 := h8.cell 4 rfl 0 rfl
        have c_4_1 := h8.cell 4 rfl 1 rfl
        have c_3_0 := h8.cell 3 rfl 0 rfl
        have c_3_1 := h8.cell 3 rfl 1 rfl
        iterate 3 (refine wpList_plainQ rfl (fun K Q' hK => ?_); go_simp; refine hK _ _ ?_; clear hK K; try clear Q')
        clear c_4_0 c_4_1 c_3_0 c_3_1
        -- stops at: eff:call (Go.Op.call {'callee': (Go.Callee.value (Go.Operand.func 24)), 'args': [(Go.Operand.tmp 29), (Go.Operand.tmp 30), (Go.Operand.tmp 31)], 'argTypes': [25, 32, 32] slot 32
        refine wpList_plainQ rfl (fun K Q' hK => ?_); go_simp
        refine (less_ok H _ m c d s0 r0 h8.pre).mono ?_
        rintro e wA ⟨H1, rfl, hpA⟩
        rw [hlt]
        have h9 := h8.call hpA
        have hb_9 := hpA.le _ _ hb
        have hb2_9 := hpA.le _ _ hb2
        refine hK _ _ ?_; clear hK K; try clear Q'
        refine wpList_nil ?_
        show Code.wp _ _ _ _ _
        -- stops at: cond
        refine wp_cond_true (rfl) ?_
        repeat (first | simp only [List.nil_append] at h9 | simp only [List.cons_append] at h9 | simp only [List.set_cons_zero] at h9 | simp only [List.set_cons_succ] at h9 | simp only [List.eraseIdx_zero] at h9 | simp only [List.tail_cons] at h9 | simp only [List.eraseIdx_cons_zero] at h9 | simp only [List.eraseIdx_cons_succ] at h9 | simp only [List.setIfInBounds_toArray] at h9)
        refine wp_region_lit ?_
        have c_4_0 := h9.cell 4 rfl 0 rfl
        have c_4_1 := h9.cell 4 rfl 1 rfl
        have c_3_0 := h9.cell 3 rfl 0 rfl
        have c_3_1 := h9.cell 3 rfl 1 rfl
        iterate 2 (refine wpList_plainQ rfl (fun K Q' hK => ?_); go_simp; refine hK _ _ ?_; clear hK K; try clear Q')
        clear c_4_0 c_4_1 c_3_0 c_3_1
        have c_0 := h9.cell 3 rfl 0 rfl
        have f_0 := h9.free 3 rfl 0
        have c_1 := h9.cell 3 rfl 1 rfl
        have f_1 := h9.free 3 rfl 1
        refine wpList_plainQ rfl (fun K Q' hK => ?_); go_simp
        clear c_0 f_0 c_1 f_1
        refine (h9.set (i := 3) rfl 0 _).k_set 3 rfl (fun w10 h10 => ?_)
        refine hK _ _ ?_; clear hK K; try clear Q'
        have c_0 := h10.cell 4 rfl 0 rfl
        have f_0 := h10.free 4 rfl 0
        have c_1 := h10.cell 4 rfl 1 rfl
        have f_1 := h10.free 4 rfl 1
        refine wpList_plainQ rfl (fun K Q' hK => ?_); go_simp
        clear c_0 f_0 c_1 f_1
        refine (h10.set (i := 4) rfl 0 _).k_set 4 rfl (fun w11 h11 => ?_)
        refine hK _ _ ?_; clear hK K; try clear Q'
        refine wpList_nil ?_
        show Code.wp _ _ _ _ _
        refine wp_seq ?_
        repeat (first | simp only [List.nil_append] at h11 | simp only [List.cons_append] at h11 | simp only [List.set_cons_zero] at h11 | simp only [List.set_cons_succ] at h11 | simp only [List.eraseIdx_zero] at h11 | simp only [List.tail_cons] at h11 | simp only [List.eraseIdx_cons_zero] at h11 | simp only [List.eraseIdx_cons_succ] at h11 | simp only [List.setIfInBounds_toArray] at h11)
        refine h11.region [0, 1, 3, 4] [(0, true), (1, true), (2, true), (3, true), (4, true), (5, true), (6, true), (7, true), (8, true), (9, true), (10, true), (11, true), (12, true), (14, true), (15, true), (13, false), (16, false), (17, false), (18, false)] (by kernel_rfl) (by kernel_rfl) (fun w12 h12 => ?_)
        refine wpOrd_hide (fun _ _ d _ _ h => by cases d <;> exact h) (fun QR hQn hQp => ?_)
        simp only [ordOps, List.map_cons, List.map_nil, List.getD_cons_zero, List.getD_cons_succ]
        iterate 15 (refine wpOrd_quiet (v := ?_) rfl (fun _ _ _ => hQp _ _ _ _ _) ?_ ?_; rotate_left; (intro w' hS; have c_3_0 := hS.cell 2 rfl 0 rfl; have c_3_1 := hS.cell 2 rfl 1 rfl; have c_0_0 := hS.cell 0 rfl 0 rfl; have c_hb_0 := hS.gh hb_9 0 rfl; have c_1_0 := hS.cell 1 rfl 0 rfl; have c_hb2_0 := hS.gh hb2_9 0 rfl; have c_4_0 := hS.cell 3 rfl 0 rfl; have c_4_1 := hS.cell 3 rfl 1 rfl; (first | (go_simp; done) | (go_simp; with_reducible rfl))); simp only [Act.put, List.setIfInBounds_toArray, List.set_cons_zero, List.set_cons_succ])
        -- stops at: eff:call (Go.Op.call {'callee': (Go.Callee.value (Go.Operand.func 28)), 'args': [(Go.Operand.tmp 41), (Go.Operand.tmp 42), (Go.Operand.tmp 47)], 'argTypes': [73, 25, 73] slot 48
        -- stops at: eff:call (Go.Op.call {'callee': (Go.Callee.value (Go.Operand.func 28)), 'args': [(Go.Operand.tmp 41), (Go.Operand.tmp 42), (Go.Operand.tmp 47)], 'argTypes': [73, 25, 73] slot 48
        refine wpOrd_effQ rfl (fun K Q' hK => ?_); go_simp
        refine (skhmeld_ok H1 _ m _ _ qa qb l k h12.pre (by omega) (hl.mono hpA.le) (hk.mono hpA.le)).mono ?_
        rintro e wB ⟨q2, H2, rfl, hpB, hB⟩
        have h13 := h12.call hpB
        have hb_13 := hpB.le _ _ hb_9
        have hb2_13 := hpB.le _ _ hb2_9
        refine hK _ _ (h13.sat' hpB.le [0, 1, 3, 4] (by kernel_rfl)) ?_; clear hK K; try clear Q'
        -- stops at: eff:call (Go.Op.call {'callee': (Go.Callee.value (Go.Operand.func 25)), 'args': [(Go.Operand.tmp 48), (Go.Operand.tmp 49), (Go.Operand.tmp 50)], 'argTypes': [73, 25, 32] slot 51
        refine wpOrd_effQ rfl (fun K Q' hK => ?_); go_simp
        refine (skinsert_ok H2 _ m _ _ q2 r0 _ h13.pre (by unfold Rw.size; rw [(Sk.meld_perm kf l k).length_eq, List.length_append]; exact hsz) (fun _ _ => trivial) hB).mono ?_
        rintro e wD ⟨q3, H3, rfl, hpD, hD⟩
        have h14 := h13.call hpD
        have hb_14 := hpD.le _ _ hb_13
        have hb2_14 := hpD.le _ _ hb2_13
        refine hK _ _ (h14.sat' (GH.le.trans hpB.le hpD.le) [0, 1, 3, 4] (by kernel_rfl)) ?_; clear hK K; try clear Q'
        -- stops at: eff:call (Go.Op.call {'callee': (Go.Callee.value (Go.Operand.func 23)), 'args': [(Go.Operand.tmp 35), (Go.Operand.tmp 36), (Go.Operand.tmp 51)], 'argTypes': [25, 32, 73] slot 52
        refine wpOrd_effQ rfl (fun K Q' hK => ?_); go_simp
        refine (rmade_ok H3 _ m _ _ s0 q3 _ h14.pre hD).mono ?_
        rintro e wC ⟨p9, H9, rfl, hpC, hC⟩
        have h15 := h14.call hpC
        have hb_15 := hpC.le _ _ hb_14
        have hb2_15 := hpC.le _ _ hb2_14
        refine hK _ _ (h15.sat' (GH.le.trans (GH.le.trans hpB.le hpD.le) hpC.le) [0, 1, 3, 4] (by kernel_rfl)) ?_; clear hK K; try clear Q'
        have c_0 := h15.cell 2 rfl 0 rfl
        have f_0 := h15.free 2 rfl 0
        refine wpOrd_effQ rfl (fun K Q' hK => ?_); go_simp
        clear c_0 f_0
        refine h15.k_set 2 rfl (fun w16 h16 => ?_)
        refine hK _ _ (h16.sat' (GH.le.trans (GH.le.trans hpB.le hpD.le) hpC.le) [0, 1, 3, 4] (by kernel_rfl)) ?_; clear hK K; try clear Q'
        refine wpOrd_nil (hQn _ _ ?_); clear hQn hQp QR
        show Code.wp _ _ _ _ _
        -- stops at: ret
        refine wp_ret ?_
        have r_2_0 := h16.cell 2 rfl 0 rfl
        first | show bodyPost _ _ _ _ _ _ | (simp only [Exit.then]; show bodyPost _ _ _ _ _ _) | (simp only [Exit.inBlock]; show bodyPost _ _ _ _ _ _) | (simp only [Exit.inBlock, Exit.then]; show bodyPost _ _ _ _ _ _) | (simp only [Exit.noGoto, Exit.inBlock, Exit.then]; show bodyPost _ _ _ _ _ _)
        refine bodyPost_ret (v := ?_) ?_ rfl ?_
        rotate_left
        · simp only [results, Tryz.results10]; go_simp; with_reducible rfl
        clear r_2_0
        refine ⟨p9, H9, rfl, ?_, by rw [heq]; exact hC⟩
        have hq := h16.post
        rw [show c + 1 + (Sk.meldN kf l k : Nat) + (Sk.insC (Sk.meld kf l k) : Nat) = c + ((1 + Sk.meldN kf l k + Sk.insC (Sk.meld kf l k) : Nat) : Int) by omega, show d + (Sk.meldN kf l k : Nat) + (Sk.insD (Sk.meld kf l k) : Nat) + 1 = d + ((Sk.meldN kf l k + Sk.insD (Sk.meld kf l k) + 1 : Nat) : Int) by omega] at hq
        exact hq
      · skip
        as_aux_lemma =>
        refine wpT_effQ rfl (fun K Q' hK => ?_); go_simp
        refine h4.k_alloc (fun w17 h17 => ?_)
        refine hK _ _ (h17.sat' (GH.le_refl _) [0, 1] (by kernel_rfl)) ?_; clear hK K; try clear Q'
        refine wpT_effQ rfl (fun K Q' hK => ?_); go_simp
        refine h17.k_alloc (fun w18 h18 => ?_)
        refine hK _ _ (h18.sat' (GH.le_refl _) [0, 1] (by kernel_rfl)) ?_; clear hK K; try clear Q'
        have c_0 := h18.cell 4 rfl 0 rfl
        have f_0 := h18.free 4 rfl 0
        have c_1 := h18.cell 4 rfl 1 rfl
        have f_1 := h18.free 4 rfl 1
        refine wpT_effQ rfl (fun K Q' hK => ?_); go_simp
        clear c_0 f_0 c_1 f_1
        refine (h18.set (i := 4) rfl 0 _).k_set 4 rfl (fun w19 h19 => ?_)
        refine hK _ _ (h19.sat' (GH.le_refl _) [0, 1] (by kernel_rfl)) ?_; clear hK K; try clear Q'
        have c_0 := h19.cell 3 rfl 0 rfl
        have f_0 := h19.free 3 rfl 0
        have c_1 := h19.cell 3 rfl 1 rfl
        have f_1 := h19.free 3 rfl 1
        refine wpT_effQ rfl (fun K Q' hK => ?_); go_simp
        clear c_0 f_0 c_1 f_1
        refine (h19.set (i := 3) rfl 0 _).k_set 3 rfl (fun w20 h20 => ?_)
        refine hK _ _ (h20.sat' (GH.le_refl _) [0, 1] (by kernel_rfl)) ?_; clear hK K; try clear Q'
        refine wpT_nil (hQn _ _ ?_); clear hQn hQp QR
        show Code.wp _ _ _ _ _
        refine wp_seq ?_
        refine wp_seq ?_
        repeat (first | simp only [List.nil_append] at h20 | simp only [List.cons_append] at h20 | simp only [List.set_cons_zero] at h20 | simp only [List.set_cons_succ] at h20 | simp only [List.eraseIdx_zero] at h20 | simp only [List.tail_cons] at h20 | simp only [List.eraseIdx_cons_zero] at h20 | simp only [List.eraseIdx_cons_succ] at h20 | simp only [List.setIfInBounds_toArray] at h20)
        refine wp_region_lit ?_
        have c_3_0 := h20.cell 3 rfl 0 rfl
        have c_3_1 := h20.cell 3 rfl 1 rfl
        have c_4_0 := h20.cell 4 rfl 0 rfl
        have c_4_1 := h20.cell 4 rfl 1 rfl
        iterate 3 (refine wpList_plainQ rfl (fun K Q' hK => ?_); go_simp; refine hK _ _ ?_; clear hK K; try clear Q')
        clear c_3_0 c_3_1 c_4_0 c_4_1
        -- stops at: eff:call (Go.Op.call {'callee': (Go.Callee.value (Go.Operand.func 24)), 'args': [(Go.Operand.tmp 29), (Go.Operand.tmp 30), (Go.Operand.tmp 31)], 'argTypes': [25, 32, 32] slot 32
        refine wpList_plainQ rfl (fun K Q' hK => ?_); go_simp
        refine (less_ok H _ m c d s0 r0 h20.pre).mono ?_
        rintro e wA ⟨H1, rfl, hpA⟩
        rw [hlt]
        have h21 := h20.call hpA
        have hb_21 := hpA.le _ _ hb
        have hb2_21 := hpA.le _ _ hb2
        refine hK _ _ ?_; clear hK K; try clear Q'
        refine wpList_nil ?_
        show Code.wp _ _ _ _ _
        -- stops at: cond
        refine wp_cond_true (rfl) ?_
        repeat (first | simp only [List.nil_append] at h21 | simp only [List.cons_append] at h21 | simp only [List.set_cons_zero] at h21 | simp only [List.set_cons_succ] at h21 | simp only [List.eraseIdx_zero] at h21 | simp only [List.tail_cons] at h21 | simp only [List.eraseIdx_cons_zero] at h21 | simp only [List.eraseIdx_cons_succ] at h21 | simp only [List.setIfInBounds_toArray] at h21)
        refine wp_region_lit ?_
        have c_3_0 := h21.cell 3 rfl 0 rfl
        have c_3_1 := h21.cell 3 rfl 1 rfl
        have c_4_0 := h21.cell 4 rfl 0 rfl
        have c_4_1 := h21.cell 4 rfl 1 rfl
        iterate 2 (refine wpList_plainQ rfl (fun K Q' hK => ?_); go_simp; refine hK _ _ ?_; clear hK K; try clear Q')
        clear c_3_0 c_3_1 c_4_0 c_4_1
        have c_0 := h21.cell 4 rfl 0 rfl
        have f_0 := h21.free 4 rfl 0
        have c_1 := h21.cell 4 rfl 1 rfl
        have f_1 := h21.free 4 rfl 1
        refine wpList_plainQ rfl (fun K Q' hK => ?_); go_simp
        clear c_0 f_0 c_1 f_1
        refine (h21.set (i := 4) rfl 0 _).k_set 4 rfl (fun w22 h22 => ?_)
        refine hK _ _ ?_; clear hK K; try clear Q'
        have c_0 := h22.cell 3 rfl 0 rfl
        have f_0 := h22.free 3 rfl 0
        have c_1 := h22.cell 3 rfl 1 rfl
        have f_1 := h22.free 3 rfl 1
        refine wpList_plainQ rfl (fun K Q' hK => ?_); go_simp
        clear c_0 f_0 c_1 f_1
        refine (h22.set (i := 3) rfl 0 _).k_set 3 rfl (fun w23 h23 => ?_)
        refine hK _ _ ?_; clear hK K; try clear Q'
        refine wpList_nil ?_
        show Code.wp _ _ _ _ _
        refine wp_seq ?_
        repeat (first | simp only [List.nil_append] at h23 | simp only [List.cons_append] at h23 | simp only [List.set_cons_zero] at h23 | simp only [List.set_cons_succ] at h23 | simp only [List.eraseIdx_zero] at h23 | simp only [List.tail_cons] at h23 | simp only [List.eraseIdx_cons_zero] at h23 | simp only [List.eraseIdx_cons_succ] at h23 | simp only [List.setIfInBounds_toArray] at h23)
        refine h23.region [0, 1, 3, 4] [(0, true), (1, true), (2, true), (3, true), (4, true), (5, true), (6, true), (7, true), (8, true), (9, true), (10, true), (11, true), (12, true), (14, true), (15, true), (13, false), (16, false), (17, false), (18, false)] (by kernel_rfl) (by kernel_rfl) (fun w24 h24 => ?_)
        refine wpOrd_hide (fun _ _ d _ _ h => by cases d <;> exact h) (fun QR hQn hQp => ?_)
        simp only [ordOps, List.map_cons, List.map_nil, List.getD_cons_zero, List.getD_cons_succ]
        iterate 15 (refine wpOrd_quiet (v := ?_) rfl (fun _ _ _ => hQp _ _ _ _ _) ?_ ?_; rotate_left; (intro w' hS; have c_4_0 := hS.cell 3 rfl 0 rfl; have c_4_1 := hS.cell 3 rfl 1 rfl; have c_0_0 := hS.cell 0 rfl 0 rfl; have c_hb_0 := hS.gh hb_21 0 rfl; have c_1_0 := hS.cell 1 rfl 0 rfl; have c_hb2_0 := hS.gh hb2_21 0 rfl; have c_3_0 := hS.cell 2 rfl 0 rfl; have c_3_1 := hS.cell 2 rfl 1 rfl; (first | (go_simp; done) | (go_simp; with_reducible rfl))); simp only [Act.put, List.setIfInBounds_toArray, List.set_cons_zero, List.set_cons_succ])
        -- stops at: eff:call (Go.Op.call {'callee': (Go.Callee.value (Go.Operand.func 28)), 'args': [(Go.Operand.tmp 41), (Go.Operand.tmp 42), (Go.Operand.tmp 47)], 'argTypes': [73, 25, 73] slot 48
        -- stops at: eff:call (Go.Op.call {'callee': (Go.Callee.value (Go.Operand.func 28)), 'args': [(Go.Operand.tmp 41), (Go.Operand.tmp 42), (Go.Operand.tmp 47)], 'argTypes': [73, 25, 73] slot 48
        refine wpOrd_effQ rfl (fun K Q' hK => ?_); go_simp
        refine (skhmeld_ok H1 _ m _ _ qa qb l k h24.pre (by omega) (hl.mono hpA.le) (hk.mono hpA.le)).mono ?_
        rintro e wB ⟨q2, H2, rfl, hpB, hB⟩
        have h25 := h24.call hpB
        have hb_25 := hpB.le _ _ hb_21
        have hb2_25 := hpB.le _ _ hb2_21
        refine hK _ _ (h25.sat' hpB.le [0, 1, 3, 4] (by kernel_rfl)) ?_; clear hK K; try clear Q'
        -- stops at: eff:call (Go.Op.call {'callee': (Go.Callee.value (Go.Operand.func 25)), 'args': [(Go.Operand.tmp 48), (Go.Operand.tmp 49), (Go.Operand.tmp 50)], 'argTypes': [73, 25, 32] slot 51
        refine wpOrd_effQ rfl (fun K Q' hK => ?_); go_simp
        refine (skinsert_ok H2 _ m _ _ q2 r0 _ h25.pre (by unfold Rw.size; rw [(Sk.meld_perm kf l k).length_eq, List.length_append]; exact hsz) (fun _ _ => trivial) hB).mono ?_
        rintro e wD ⟨q3, H3, rfl, hpD, hD⟩
        have h26 := h25.call hpD
        have hb_26 := hpD.le _ _ hb_25
        have hb2_26 := hpD.le _ _ hb2_25
        refine hK _ _ (h26.sat' (GH.le.trans hpB.le hpD.le) [0, 1, 3, 4] (by kernel_rfl)) ?_; clear hK K; try clear Q'
        -- stops at: eff:call (Go.Op.call {'callee': (Go.Callee.value (Go.Operand.func 23)), 'args': [(Go.Operand.tmp 35), (Go.Operand.tmp 36), (Go.Operand.tmp 51)], 'argTypes': [25, 32, 73] slot 52
        refine wpOrd_effQ rfl (fun K Q' hK => ?_); go_simp
        refine (rmade_ok H3 _ m _ _ s0 q3 _ h26.pre hD).mono ?_
        rintro e wC ⟨p9, H9, rfl, hpC, hC⟩
        have h27 := h26.call hpC
        have hb_27 := hpC.le _ _ hb_26
        have hb2_27 := hpC.le _ _ hb2_26
        refine hK _ _ (h27.sat' (GH.le.trans (GH.le.trans hpB.le hpD.le) hpC.le) [0, 1, 3, 4] (by kernel_rfl)) ?_; clear hK K; try clear Q'
        have c_0 := h27.cell 2 rfl 0 rfl
        have f_0 := h27.free 2 rfl 0
        refine wpOrd_effQ rfl (fun K Q' hK => ?_); go_simp
        clear c_0 f_0
        refine h27.k_set 2 rfl (fun w28 h28 => ?_)
        refine hK _ _ (h28.sat' (GH.le.trans (GH.le.trans hpB.le hpD.le) hpC.le) [0, 1, 3, 4] (by kernel_rfl)) ?_; clear hK K; try clear Q'
        refine wpOrd_nil (hQn _ _ ?_); clear hQn hQp QR
        show Code.wp _ _ _ _ _
        -- stops at: ret
        refine wp_ret ?_
        have r_2_0 := h28.cell 2 rfl 0 rfl
        first | show bodyPost _ _ _ _ _ _ | (simp only [Exit.then]; show bodyPost _ _ _ _ _ _) | (simp only [Exit.inBlock]; show bodyPost _ _ _ _ _ _) | (simp only [Exit.inBlock, Exit.then]; show bodyPost _ _ _ _ _ _) | (simp only [Exit.noGoto, Exit.inBlock, Exit.then]; show bodyPost _ _ _ _ _ _)
        refine bodyPost_ret (v := ?_) ?_ rfl ?_
        rotate_left
        · simp only [results, Tryz.results10]; go_simp; with_reducible rfl
        clear r_2_0
        refine ⟨p9, H9, rfl, ?_, by rw [heq]; exact hC⟩
        have hq := h28.post
        rw [show c + 1 + (Sk.meldN kf l k : Nat) + (Sk.insC (Sk.meld kf l k) : Nat) = c + ((1 + Sk.meldN kf l k + Sk.insC (Sk.meld kf l k) : Nat) : Int) by omega, show d + (Sk.meldN kf l k : Nat) + (Sk.insD (Sk.meld kf l k) : Nat) + 1 = d + ((Sk.meldN kf l k + Sk.insD (Sk.meld kf l k) + 1 : Nat) : Int) by omega] at hq
        exact hq
    | false =>
      have heq : Hp.meld (some (r0, l)) (some (s0, k)) = some (r0, Sk.insert Hp.ke s0 (Sk.meld Hp.ke l k)) := by rw [Hp.meld_some, if_neg (by simp [hlt])]
      go_enter Tryz.func10, Tryz.ntmps10
      have h0 := St.start hpre
      refine wp_seq ?_
      repeat (first | simp only [List.nil_append] at h0 | simp only [List.cons_append] at h0 | simp only [List.set_cons_zero] at h0 | simp only [List.set_cons_succ] at h0 | simp only [List.eraseIdx_zero] at h0 | simp only [List.tail_cons] at h0 | simp only [List.eraseIdx_cons_zero] at h0 | simp only [List.eraseIdx_cons_succ] at h0 | simp only [List.setIfInBounds_toArray] at h0)
      refine wp_region_lit ?_
      refine wpList_plainQ rfl (fun K Q' hK => ?_); go_simp
      refine h0.k_alloc (fun w1 h1 => ?_)
      refine hK _ _ ?_; clear hK K; try clear Q'
      refine wpList_plainQ rfl (fun K Q' hK => ?_); go_simp
      refine h1.k_alloc (fun w2 h2 => ?_)
      refine hK _ _ ?_; clear hK K; try clear Q'
      refine wpList_plainQ rfl (fun K Q' hK => ?_); go_simp
      refine h2.k_alloc (fun w3 h3 => ?_)
      refine hK _ _ ?_; clear hK K; try clear Q'
      refine wpList_nil ?_
      show Code.wp _ _ _ _ _
      refine wp_seq ?_
      refine wp_block ?_
      refine wp_seq ?_
      repeat (first | simp only [List.nil_append] at h3 | simp only [List.cons_append] at h3 | simp only [List.set_cons_zero] at h3 | simp only [List.set_cons_succ] at h3 | simp only [List.eraseIdx_zero] at h3 | simp only [List.tail_cons] at h3 | simp only [List.eraseIdx_cons_zero] at h3 | simp only [List.eraseIdx_cons_succ] at h3 | simp only [List.setIfInBounds_toArray] at h3)
      refine wp_region_lit ?_
      have c_0_0 := h3.cell 0 rfl 0 rfl
      iterate 4 (refine wpList_plainQ rfl (fun K Q' hK => ?_); go_simp; refine hK _ _ ?_; clear hK K; try clear Q')
      clear c_0_0
      refine wpList_nil ?_
      show Code.wp _ _ _ _ _
      -- stops at: cond
      refine wp_cond_false (rfl) ?_
      refine wp_seq ?_
      refine wp_region_lit ?_
      have c_1_0 := h3.cell 1 rfl 0 rfl
      iterate 4 (refine wpList_plainQ rfl (fun K Q' hK => ?_); go_simp; refine hK _ _ ?_; clear hK K; try clear Q')
      clear c_1_0
      refine wpList_nil ?_
      show Code.wp _ _ _ _ _
      -- stops at: cond
      refine wp_cond_false (rfl) ?_
      refine wp_skip ?_
      show Code.wp _ _ _ _ _
      refine wp_seq ?_
      refine h3.regionT [0, 1] (.one 0 true (.one 1 true (.one 2 true (.one 3 true (.one 4 true (.one 5 true (.one 6 true (.one 7 true (.one 8 true (.one 9 true (.two (.one 10 false (.one 11 false (.one 12 false (.one 13 false .nil)))) (.one 11 false (.one 10 false (.one 12 false (.one 13 false .nil))))))))))))))) (by as_aux_lemma => kernel_rfl) (by as_aux_lemma => kernel_rfl) (fun w4 h4 => ?_)
      refine wpT_hide (fun _ _ d _ _ h => by cases d <;> exact h) (fun QR hQn hQp => ?_)
      dsimp only [OT.ops, List.getD_cons_zero, List.getD_cons_succ]
      iterate 10 (refine wpT_quiet (v := ?_) rfl (fun _ _ _ => hQp _ _ _ _ _) ?_ ?_; rotate_left; (intro w' hS; have c_0_0 := hS.cell 0 rfl 0 rfl; have c_hb_1 := hS.gh hb 1 rfl; have c_hb_2 := hS.gh hb 2 rfl; have c_1_0 := hS.cell 1 rfl 0 rfl; have c_hb2_1 := hS.gh hb2 1 rfl; have c_hb2_2 := hS.gh hb2 2 rfl; (first | (go_simp; done) | (go_simp; with_reducible rfl))); simp only [Act.put, List.setIfInBounds_toArray])
      refine wpT_two ?_ ?_
      -- stops at: fork 
      · skip
        as_aux_lemma =>
        refine wpT_effQ rfl (fun K Q' hK => ?_); go_simp
        refine h4.k_alloc (fun w5 h5 => ?_)
        refine hK _ _ (h5.sat' (GH.le_refl _) [0, 1] (by kernel_rfl)) ?_; clear hK K; try clear Q'
        refine wpT_effQ rfl (fun K Q' hK => ?_); go_simp
        refine h5.k_alloc (fun w6 h6 => ?_)
        refine hK _ _ (h6.sat' (GH.le_refl _) [0, 1] (by kernel_rfl)) ?_; clear hK K; try clear Q'
        have c_0 := h6.cell 3 rfl 0 rfl
        have f_0 := h6.free 3 rfl 0
        have c_1 := h6.cell 3 rfl 1 rfl
        have f_1 := h6.free 3 rfl 1
        refine wpT_effQ rfl (fun K Q' hK => ?_); go_simp
        clear c_0 f_0 c_1 f_1
        refine (h6.set (i := 3) rfl 0 _).k_set 3 rfl (fun w7 h7 => ?_)
        refine hK _ _ (h7.sat' (GH.le_refl _) [0, 1] (by kernel_rfl)) ?_; clear hK K; try clear Q'
        have c_0 := h7.cell 4 rfl 0 rfl
        have f_0 := h7.free 4 rfl 0
        have c_1 := h7.cell 4 rfl 1 rfl
        have f_1 := h7.free 4 rfl 1
        refine wpT_effQ rfl (fun K Q' hK => ?_); go_simp
        clear c_0 f_0 c_1 f_1
        refine (h7.set (i := 4) rfl 0 _).k_set 4 rfl (fun w8 h8 => ?_)
        refine hK _ _ (h8.sat' (GH.le_refl _) [0, 1] (by kernel_rfl)) ?_; clear hK K; try clear Q'
        refine wpT_nil (hQn _ _ ?_); clear hQn hQp QR
        show Code.wp _ _ _ _ _
        refine wp_seq ?_
        refine wp_seq ?_
        repeat (first | simp only [List.nil_append] at h8 | simp only [List.cons_append] at h8 | simp only [List.set_cons_zero] at h8 | simp only [List.set_cons_succ] at h8 | simp only [List.eraseIdx_zero] at h8 | simp only [List.tail_cons] at h8 | simp only [List.eraseIdx_cons_zero] at h8 | simp only [List.eraseIdx_cons_succ] at h8 | simp only [List.setIfInBounds_toArray] at h8)
        refine wp_region_lit ?_
        have c_4_0 := h8.cell 4 rfl 0 rfl
        have c_4_1 := h8.cell 4 rfl 1 rfl
        have c_3_0 := h8.cell 3 rfl 0 rfl
        have c_3_1 := h8.cell 3 rfl 1 rfl
        iterate 3 (refine wpList_plainQ rfl (fun K Q' hK => ?_); go_simp; refine hK _ _ ?_; clear hK K; try clear Q')
        clear c_4_0 c_4_1 c_3_0 c_3_1
        -- stops at: eff:call (Go.Op.call {'callee': (Go.Callee.value (Go.Operand.func 24)), 'args': [(Go.Operand.tmp 29), (Go.Operand.tmp 30), (Go.Operand.tmp 31)], 'argTypes': [25, 32, 32] slot 32
        refine wpList_plainQ rfl (fun K Q' hK => ?_); go_simp
        refine (less_ok H _ m c d s0 r0 h8.pre).mono ?_
        rintro e wA ⟨H1, rfl, hpA⟩
        rw [hlt]
        have h9 := h8.call hpA
        have hb_9 := hpA.le _ _ hb
        have hb2_9 := hpA.le _ _ hb2
        refine hK _ _ ?_; clear hK K; try clear Q'
        refine wpList_nil ?_
        show Code.wp _ _ _ _ _
        -- stops at: cond
        refine wp_cond_false (rfl) ?_
        refine wp_skip ?_
        show Code.wp _ _ _ _ _
        refine wp_seq ?_
        repeat (first | simp only [List.nil_append] at h9 | simp only [List.cons_append] at h9 | simp only [List.set_cons_zero] at h9 | simp only [List.set_cons_succ] at h9 | simp only [List.eraseIdx_zero] at h9 | simp only [List.tail_cons] at h9 | simp only [List.eraseIdx_cons_zero] at h9 | simp only [List.eraseIdx_cons_succ] at h9 | simp only [List.setIfInBounds_toArray] at h9)
        refine h9.region [0, 1, 3, 4] [(0, true), (1, true), (2, true), (3, true), (4, true), (5, true), (6, true), (7, true), (8, true), (9, true), (10, true), (11, true), (12, true), (14, true), (15, true), (13, false), (16, false), (17, false), (18, false)] (by kernel_rfl) (by kernel_rfl) (fun w10 h10 => ?_)
        refine wpOrd_hide (fun _ _ d _ _ h => by cases d <;> exact h) (fun QR hQn hQp => ?_)
        simp only [ordOps, List.map_cons, List.map_nil, List.getD_cons_zero, List.getD_cons_succ]
        iterate 15 (refine wpOrd_quiet (v := ?_) rfl (fun _ _ _ => hQp _ _ _ _ _) ?_ ?_; rotate_left; (intro w' hS; have c_3_0 := hS.cell 2 rfl 0 rfl; have c_3_1 := hS.cell 2 rfl 1 rfl; have c_0_0 := hS.cell 0 rfl 0 rfl; have c_hb_0 := hS.gh hb_9 0 rfl; have c_1_0 := hS.cell 1 rfl 0 rfl; have c_hb2_0 := hS.gh hb2_9 0 rfl; have c_4_0 := hS.cell 3 rfl 0 rfl; have c_4_1 := hS.cell 3 rfl 1 rfl; (first | (go_simp; done) | (go_simp; with_reducible rfl))); simp only [Act.put, List.setIfInBounds_toArray, List.set_cons_zero, List.set_cons_succ])
        -- stops at: eff:call (Go.Op.call {'callee': (Go.Callee.value (Go.Operand.func 28)), 'args': [(Go.Operand.tmp 41), (Go.Operand.tmp 42), (Go.Operand.tmp 47)], 'argTypes': [73, 25, 73] slot 48
        refine wpOrd_effQ rfl (fun K Q' hK => ?_); go_simp
        refine (skhmeld_ok H1 _ m _ _ qa qb l k h10.pre (by omega) (hl.mono hpA.le) (hk.mono hpA.le)).mono ?_
        rintro e wB ⟨q2, H2, rfl, hpB, hB⟩
        have h11 := h10.call hpB
        have hb_11 := hpB.le _ _ hb_9
        have hb2_11 := hpB.le _ _ hb2_9
        refine hK _ _ (h11.sat' hpB.le [0, 1, 3, 4] (by kernel_rfl)) ?_; clear hK K; try clear Q'
        -- stops at: eff:call (Go.Op.call {'callee': (Go.Callee.value (Go.Operand.func 25)), 'args': [(Go.Operand.tmp 48), (Go.Operand.tmp 49), (Go.Operand.tmp 50)], 'argTypes': [73, 25, 32] slot 51
        refine wpOrd_effQ rfl (fun K Q' hK => ?_); go_simp
        refine (skinsert_ok H2 _ m _ _ q2 s0 _ h11.pre (by unfold Rw.size; rw [(Sk.meld_perm kf l k).length_eq, List.length_append]; exact hsz) (fun _ _ => trivial) hB).mono ?_
        rintro e wD ⟨q3, H3, rfl, hpD, hD⟩
        have h12 := h11.call hpD
        have hb_12 := hpD.le _ _ hb_11
        have hb2_12 := hpD.le _ _ hb2_11
        refine hK _ _ (h12.sat' (GH.le.trans hpB.le hpD.le) [0, 1, 3, 4] (by kernel_rfl)) ?_; clear hK K; try clear Q'
        -- stops at: eff:call (Go.Op.call {'callee': (Go.Callee.value (Go.Operand.func 23)), 'args': [(Go.Operand.tmp 35), (Go.Operand.tmp 36), (Go.Operand.tmp 51)], 'argTypes': [25, 32, 73] slot 52
        refine wpOrd_effQ rfl (fun K Q' hK => ?_); go_simp
        refine (rmade_ok H3 _ m _ _ r0 q3 _ h12.pre hD).mono ?_
        rintro e wC ⟨p9, H9, rfl, hpC, hC⟩
        have h13 := h12.call hpC
        have hb_13 := hpC.le _ _ hb_12
        have hb2_13 := hpC.le _ _ hb2_12
        refine hK _ _ (h13.sat' (GH.le.trans (GH.le.trans hpB.le hpD.le) hpC.le) [0, 1, 3, 4] (by kernel_rfl)) ?_; clear hK K; try clear Q'
        have c_0 := h13.cell 2 rfl 0 rfl
        have f_0 := h13.free 2 rfl 0
        refine wpOrd_effQ rfl (fun K Q' hK => ?_); go_simp
        clear c_0 f_0
        refine h13.k_set 2 rfl (fun w14 h14 => ?_)
        refine hK _ _ (h14.sat' (GH.le.trans (GH.le.trans hpB.le hpD.le) hpC.le) [0, 1, 3, 4] (by kernel_rfl)) ?_; clear hK K; try clear Q'
        refine wpOrd_nil (hQn _ _ ?_); clear hQn hQp QR
        show Code.wp _ _ _ _ _
        -- stops at: ret
        refine wp_ret ?_
        have r_2_0 := h14.cell 2 rfl 0 rfl
        first | show bodyPost _ _ _ _ _ _ | (simp only [Exit.then]; show bodyPost _ _ _ _ _ _) | (simp only [Exit.inBlock]; show bodyPost _ _ _ _ _ _) | (simp only [Exit.inBlock, Exit.then]; show bodyPost _ _ _ _ _ _) | (simp only [Exit.noGoto, Exit.inBlock, Exit.then]; show bodyPost _ _ _ _ _ _)
        refine bodyPost_ret (v := ?_) ?_ rfl ?_
        rotate_left
        · simp only [results, Tryz.results10]; go_simp; with_reducible rfl
        clear r_2_0
        refine ⟨p9, H9, rfl, ?_, by rw [heq]; exact hC⟩
        have hq := h14.post
        rw [show c + 1 + (Sk.meldN kf l k : Nat) + (Sk.insC (Sk.meld kf l k) : Nat) = c + ((1 + Sk.meldN kf l k + Sk.insC (Sk.meld kf l k) : Nat) : Int) by omega, show d + (Sk.meldN kf l k : Nat) + (Sk.insD (Sk.meld kf l k) : Nat) + 1 = d + ((Sk.meldN kf l k + Sk.insD (Sk.meld kf l k) + 1 : Nat) : Int) by omega] at hq
        exact hq
      · skip
        as_aux_lemma =>
        refine wpT_effQ rfl (fun K Q' hK => ?_); go_simp
        refine h4.k_alloc (fun w15 h15 => ?_)
        refine hK _ _ (h15.sat' (GH.le_refl _) [0, 1] (by kernel_rfl)) ?_; clear hK K; try clear Q'
        refine wpT_effQ rfl (fun K Q' hK => ?_); go_simp
        refine h15.k_alloc (fun w16 h16 => ?_)
        refine hK _ _ (h16.sat' (GH.le_refl _) [0, 1] (by kernel_rfl)) ?_; clear hK K; try clear Q'
        have c_0 := h16.cell 4 rfl 0 rfl
        have f_0 := h16.free 4 rfl 0
        have c_1 := h16.cell 4 rfl 1 rfl
        have f_1 := h16.free 4 rfl 1
        refine wpT_effQ rfl (fun K Q' hK => ?_); go_simp
        clear c_0 f_0 c_1 f_1
        refine (h16.set (i := 4) rfl 0 _).k_set 4 rfl (fun w17 h17 => ?_)
        refine hK _ _ (h17.sat' (GH.le_refl _) [0, 1] (by kernel_rfl)) ?_; clear hK K; try clear Q'
        have c_0 := h17.cell 3 rfl 0 rfl
        have f_0 := h17.free 3 rfl 0
        have c_1 := h17.cell 3 rfl 1 rfl
        have f_1 := h17.free 3 rfl 1
        refine wpT_effQ rfl (fun K Q' hK => ?_); go_simp
        clear c_0 f_0 c_1 f_1
        refine (h17.set (i := 3) rfl 0 _).k_set 3 rfl (fun w18 h18 => ?_)
        refine hK _ _ (h18.sat' (GH.le_refl _) [0, 1] (by kernel_rfl)) ?_; clear hK K; try clear Q'
        refine wpT_nil (hQn _ _ ?_); clear hQn hQp QR
        show Code.wp _ _ _ _ _
        refine wp_seq ?_
        refine wp_seq ?_
        repeat (first | simp only [List.nil_append] at h18 | simp only [List.cons_append] at h18 | simp only [List.set_cons_zero] at h18 | simp only [List.set_cons_succ] at h18 | simp only [List.eraseIdx_zero] at h18 | simp only [List.tail_cons] at h18 | simp only [List.eraseIdx_cons_zero] at h18 | simp only [List.eraseIdx_cons_succ] at h18 | simp only [List.setIfInBounds_toArray] at h18)
        refine wp_region_lit ?_
        have c_3_0 := h18.cell 3 rfl 0 rfl
        have c_3_1 := h18.cell 3 rfl 1 rfl
        have c_4_0 := h18.cell 4 rfl 0 rfl
        have c_4_1 := h18.cell 4 rfl 1 rfl
        iterate 3 (refine wpList_plainQ rfl (fun K Q' hK => ?_); go_simp; refine hK _ _ ?_; clear hK K; try clear Q')
        clear c_3_0 c_3_1 c_4_0 c_4_1
        -- stops at: eff:call (Go.Op.call {'callee': (Go.Callee.value (Go.Operand.func 24)), 'args': [(Go.Operand.tmp 29), (Go.Operand.tmp 30), (Go.Operand.tmp 31)], 'argTypes': [25, 32, 32] slot 32
        refine wpList_plainQ rfl (fun K Q' hK => ?_); go_simp
        refine (less_ok H _ m c d s0 r0 h18.pre).mono ?_
        rintro e wA ⟨H1, rfl, hpA⟩
        rw [hlt]
        have h19 := h18.call hpA
        have hb_19 := hpA.le _ _ hb
        have hb2_19 := hpA.le _ _ hb2
        refine hK _ _ ?_; clear hK K; try clear Q'
        refine wpList_nil ?_
        show Code.wp _ _ _ _ _
        -- stops at: cond
        refine wp_cond_false (rfl) ?_
        refine wp_skip ?_
        show Code.wp _ _ _ _ _
        refine wp_seq ?_
        repeat (first | simp only [List.nil_append] at h19 | simp only [List.cons_append] at h19 | simp only [List.set_cons_zero] at h19 | simp only [List.set_cons_succ] at h19 | simp only [List.eraseIdx_zero] at h19 | simp only [List.tail_cons] at h19 | simp only [List.eraseIdx_cons_zero] at h19 | simp only [List.eraseIdx_cons_succ] at h19 | simp only [List.setIfInBounds_toArray] at h19)
        refine h19.region [0, 1, 3, 4] [(0, true), (1, true), (2, true), (3, true), (4, true), (5, true), (6, true), (7, true), (8, true), (9, true), (10, true), (11, true), (12, true), (14, true), (15, true), (13, false), (16, false), (17, false), (18, false)] (by kernel_rfl) (by kernel_rfl) (fun w20 h20 => ?_)
        refine wpOrd_hide (fun _ _ d _ _ h => by cases d <;> exact h) (fun QR hQn hQp => ?_)
        simp only [ordOps, List.map_cons, List.map_nil, List.getD_cons_zero, List.getD_cons_succ]
        iterate 15 (refine wpOrd_quiet (v := ?_) rfl (fun _ _ _ => hQp _ _ _ _ _) ?_ ?_; rotate_left; (intro w' hS; have c_4_0 := hS.cell 3 rfl 0 rfl; have c_4_1 := hS.cell 3 rfl 1 rfl; have c_0_0 := hS.cell 0 rfl 0 rfl; have c_hb_0 := hS.gh hb_19 0 rfl; have c_1_0 := hS.cell 1 rfl 0 rfl; have c_hb2_0 := hS.gh hb2_19 0 rfl; have c_3_0 := hS.cell 2 rfl 0 rfl; have c_3_1 := hS.cell 2 rfl 1 rfl; (first | (go_simp; done) | (go_simp; with_reducible rfl))); simp only [Act.put, List.setIfInBounds_toArray, List.set_cons_zero, List.set_cons_succ])
        -- stops at: eff:call (Go.Op.call {'callee': (Go.Callee.value (Go.Operand.func 28)), 'args': [(Go.Operand.tmp 41), (Go.Operand.tmp 42), (Go.Operand.tmp 47)], 'argTypes': [73, 25, 73] slot 48
        refine wpOrd_effQ rfl (fun K Q' hK => ?_); go_simp
        refine (skhmeld_ok H1 _ m _ _ qa qb l k h20.pre (by omega) (hl.mono hpA.le) (hk.mono hpA.le)).mono ?_
        rintro e wB ⟨q2, H2, rfl, hpB, hB⟩
        have h21 := h20.call hpB
        have hb_21 := hpB.le _ _ hb_19
        have hb2_21 := hpB.le _ _ hb2_19
        refine hK _ _ (h21.sat' hpB.le [0, 1, 3, 4] (by kernel_rfl)) ?_; clear hK K; try clear Q'
        -- stops at: eff:call (Go.Op.call {'callee': (Go.Callee.value (Go.Operand.func 25)), 'args': [(Go.Operand.tmp 48), (Go.Operand.tmp 49), (Go.Operand.tmp 50)], 'argTypes': [73, 25, 32] slot 51
        refine wpOrd_effQ rfl (fun K Q' hK => ?_); go_simp
        refine (skinsert_ok H2 _ m _ _ q2 s0 _ h21.pre (by unfold Rw.size; rw [(Sk.meld_perm kf l k).length_eq, List.length_append]; exact hsz) (fun _ _ => trivial) hB).mono ?_
        rintro e wD ⟨q3, H3, rfl, hpD, hD⟩
        have h22 := h21.call hpD
        have hb_22 := hpD.le _ _ hb_21
        have hb2_22 := hpD.le _ _ hb2_21
        refine hK _ _ (h22.sat' (GH.le.trans hpB.le hpD.le) [0, 1, 3, 4] (by kernel_rfl)) ?_; clear hK K; try clear Q'
        -- stops at: eff:call (Go.Op.call {'callee': (Go.Callee.value (Go.Operand.func 23)), 'args': [(Go.Operand.tmp 35), (Go.Operand.tmp 36), (Go.Operand.tmp 51)], 'argTypes': [25, 32, 73] slot 52
        refine wpOrd_effQ rfl (fun K Q' hK => ?_); go_simp
        refine (rmade_ok H3 _ m _ _ r0 q3 _ h22.pre hD).mono ?_
        rintro e wC ⟨p9, H9, rfl, hpC, hC⟩
        have h23 := h22.call hpC
        have hb_23 := hpC.le _ _ hb_22
        have hb2_23 := hpC.le _ _ hb2_22
        refine hK _ _ (h23.sat' (GH.le.trans (GH.le.trans hpB.le hpD.le) hpC.le) [0, 1, 3, 4] (by kernel_rfl)) ?_; clear hK K; try clear Q'
        have c_0 := h23.cell 2 rfl 0 rfl
        have f_0 := h23.free 2 rfl 0
        refine wpOrd_effQ rfl (fun K Q' hK => ?_); go_simp
        clear c_0 f_0
        refine h23.k_set 2 rfl (fun w24 h24 => ?_)
        refine hK _ _ (h24.sat' (GH.le.trans (GH.le.trans hpB.le hpD.le) hpC.le) [0, 1, 3, 4] (by kernel_rfl)) ?_; clear hK K; try clear Q'
        refine wpOrd_nil (hQn _ _ ?_); clear hQn hQp QR
        show Code.wp _ _ _ _ _
        -- stops at: ret
        refine wp_ret ?_
        have r_2_0 := h24.cell 2 rfl 0 rfl
        first | show bodyPost _ _ _ _ _ _ | (simp only [Exit.then]; show bodyPost _ _ _ _ _ _) | (simp only [Exit.inBlock]; show bodyPost _ _ _ _ _ _) | (simp only [Exit.inBlock, Exit.then]; show bodyPost _ _ _ _ _ _) | (simp only [Exit.noGoto, Exit.inBlock, Exit.then]; show bodyPost _ _ _ _ _ _)
        refine bodyPost_ret (v := ?_) ?_ rfl ?_
        rotate_left
        · simp only [results, Tryz.results10]; go_simp; with_reducible rfl
        clear r_2_0
        refine ⟨p9, H9, rfl, ?_, by rw [heq]; exact hC⟩
        have hq := h24.post
        rw [show c + 1 + (Sk.meldN kf l k : Nat) + (Sk.insC (Sk.meld kf l k) : Nat) = c + ((1 + Sk.meldN kf l k + Sk.insC (Sk.meld kf l k) : Nat) : Int) by omega, show d + (Sk.meldN kf l k : Nat) + (Sk.insD (Sk.meld kf l k) : Nat) + 1 = d + ((Sk.meldN kf l k + Sk.insD (Sk.meld kf l k) + 1 : Nat) : Int) by omega] at hq
        exact hq

set_option maxRecDepth 100000 in
theorem rmin_ok (H : GH) (w : World) (m : Option Nat) (c d : Int) (p : Option Addr) (t : Hp) (hpre : Pre w H m c d) (ht : RtR H p t) :
    Calls Tryz.prog 16 #[hV p, mV m] w fun e w' => ∃ H', e = .returned (.tuple #[elV ((Hp.min? t).getD (0, 0)), .bool (Hp.min? t).isSome]) ∧ Post w H m w' H' c d := by
  match t, ht with
  | none, ht =>
    obtain rfl : p = none := ht
    go_enter Tryz.func16, Tryz.ntmps16
    have h0 := St.start hpre
    refine wp_seq ?_
    repeat (first | simp only [List.nil_append] at h0 | simp only [List.cons_append] at h0 | simp only [List.set_cons_zero] at h0 | simp only [List.set_cons_succ] at h0 | simp only [List.eraseIdx_zero] at h0 | simp only [List.tail_cons] at h0 | simp only [List.eraseIdx_cons_zero] at h0 | simp only [List.eraseIdx_cons_succ] at h0 | simp only [List.setIfInBounds_toArray] at h0)
    refine wp_region_lit ?_
    refine wpList_plainQ rfl (fun K Q' hK => ?_); go_simp
    refine h0.k_alloc (fun w1 h1 => ?_)
    refine hK _ _ ?_; clear hK K; try clear Q'
    refine wpList_plainQ rfl (fun K Q' hK => ?_); go_simp
    refine h1.k_alloc (fun w2 h2 => ?_)
    refine hK _ _ ?_; clear hK K; try clear Q'
    iterate 1 (refine wpList_plainQ rfl (fun K Q' hK => ?_); go_simp; refine hK _ _ ?_; clear hK K; try clear Q')
    refine wpList_nil ?_
    show Code.wp _ _ _ _ _
    refine wp_seq ?_
    refine wp_seq ?_
    repeat (first | simp only [List.nil_append] at h2 | simp only [List.cons_append] at h2 | simp only [List.set_cons_zero] at h2 | simp only [List.set_cons_succ] at h2 | simp only [List.eraseIdx_zero] at h2 | simp only [List.tail_cons] at h2 | simp only [List.eraseIdx_cons_zero] at h2 | simp only [List.eraseIdx_cons_succ] at h2 | simp only [List.setIfInBounds_toArray] at h2)
    refine wp_region_lit ?_
    have c_0_0 := h2.cell 0 rfl 0 rfl
    iterate 3 (refine wpList_plainQ rfl (fun K Q' hK => ?_); go_simp; refine hK _ _ ?_; clear hK K; try clear Q')
    clear c_0_0
    refine wpList_nil ?_
    show Code.wp _ _ _ _ _
    -- stops at: cond
    refine wp_cond_true (rfl) ?_
    refine wp_seq ?_
    refine wp_region_lit ?_
    iterate 1 (refine wpList_plainQ rfl (fun K Q' hK => ?_); go_simp; refine hK _ _ ?_; clear hK K; try clear Q')
    have c_0 := h2.cell 1 rfl 0 rfl
    have f_0 := h2.free 1 rfl 0
    have c_1 := h2.cell 1 rfl 1 rfl
    have f_1 := h2.free 1 rfl 1
    refine wpList_plainQ rfl (fun K Q' hK => ?_); go_simp
    clear c_0 f_0 c_1 f_1
    refine (h2.set (i := 1) rfl 0 _).k_set 1 rfl (fun w3 h3 => ?_)
    refine hK _ _ ?_; clear hK K; try clear Q'
    iterate 1 (refine wpList_plainQ rfl (fun K Q' hK => ?_); go_simp; refine hK _ _ ?_; clear hK K; try clear Q')
    refine wpList_nil ?_
    show Code.wp _ _ _ _ _
    -- stops at: ret
    refine wp_ret ?_
    have r_1_0 := h3.cell 1 rfl 0 rfl
    have r_1_1 := h3.cell 1 rfl 1 rfl
    first | show bodyPost _ _ _ _ _ _ | (simp only [Exit.then]; show bodyPost _ _ _ _ _ _) | (simp only [Exit.inBlock]; show bodyPost _ _ _ _ _ _) | (simp only [Exit.inBlock, Exit.then]; show bodyPost _ _ _ _ _ _) | (simp only [Exit.noGoto, Exit.inBlock, Exit.then]; show bodyPost _ _ _ _ _ _)
    refine bodyPost_ret (v := ?_) ?_ rfl ?_
    rotate_left
    · simp only [results, Tryz.results16]; go_simp; with_reducible rfl
    clear r_1_0 r_1_1
    exact ⟨H, rfl, h3.post⟩
  | some (r0, l), ht =>
    obtain ⟨b, qa, rfl, hb, hl⟩ := ht
    go_enter Tryz.func16, Tryz.ntmps16
    have h0 := St.start hpre
    refine wp_seq ?_
    repeat (first | simp only [List.nil_append] at h0 | simp only [List.cons_append] at h0 | simp only [List.set_cons_zero] at h0 | simp only [List.set_cons_succ] at h0 | simp only [List.eraseIdx_zero] at h0 | simp only [List.tail_cons] at h0 | simp only [List.eraseIdx_cons_zero] at h0 | simp only [List.eraseIdx_cons_succ] at h0 | simp only [List.setIfInBounds_toArray] at h0)
    refine wp_region_lit ?_
    refine wpList_plainQ rfl (fun K Q' hK => ?_); go_simp
    refine h0.k_alloc (fun w1 h1 => ?_)
    refine hK _ _ ?_; clear hK K; try clear Q'
    refine wpList_plainQ rfl (fun K Q' hK => ?_); go_simp
    refine h1.k_alloc (fun w2 h2 => ?_)
    refine hK _ _ ?_; clear hK K; try clear Q'
    iterate 1 (refine wpList_plainQ rfl (fun K Q' hK => ?_); go_simp; refine hK _ _ ?_; clear hK K; try clear Q')
    refine wpList_nil ?_
    show Code.wp _ _ _ _ _
    refine wp_seq ?_
    refine wp_seq ?_
    repeat (first | simp only [List.nil_append] at h2 | simp only [List.cons_append] at h2 | simp only [List.set_cons_zero] at h2 | simp only [List.set_cons_succ] at h2 | simp only [List.eraseIdx_zero] at h2 | simp only [List.tail_cons] at h2 | simp only [List.eraseIdx_cons_zero] at h2 | simp only [List.eraseIdx_cons_succ] at h2 | simp only [List.setIfInBounds_toArray] at h2)
    refine wp_region_lit ?_
    have c_0_0 := h2.cell 0 rfl 0 rfl
    iterate 3 (refine wpList_plainQ rfl (fun K Q' hK => ?_); go_simp; refine hK _ _ ?_; clear hK K; try clear Q')
    clear c_0_0
    refine wpList_nil ?_
    show Code.wp _ _ _ _ _
    -- stops at: cond
    refine wp_cond_false (rfl) ?_
    refine wp_skip ?_
    show Code.wp _ _ _ _ _
    refine wp_seq ?_
    refine wp_region_lit ?_
    have c_0_0 := h2.cell 0 rfl 0 rfl
    have c_hb_1 := h2.gh hb 1 rfl
    have c_hb_2 := h2.gh hb 2 rfl
    iterate 5 (refine wpList_plainQ rfl (fun K Q' hK => ?_); go_simp; refine hK _ _ ?_; clear hK K; try clear Q')
    clear c_0_0 c_hb_1 c_hb_2
    have c_0 := h2.cell 1 rfl 0 rfl
    have f_0 := h2.free 1 rfl 0
    have c_1 := h2.cell 1 rfl 1 rfl
    have f_1 := h2.free 1 rfl 1
    refine wpList_plainQ rfl (fun K Q' hK => ?_); go_simp
    clear c_0 f_0 c_1 f_1
    refine (h2.set (i := 1) rfl 0 _).k_set 1 rfl (fun w3 h3 => ?_)
    refine hK _ _ ?_; clear hK K; try clear Q'
    iterate 1 (refine wpList_plainQ rfl (fun K Q' hK => ?_); go_simp; refine hK _ _ ?_; clear hK K; try clear Q')
    refine wpList_nil ?_
    show Code.wp _ _ _ _ _
    -- stops at: ret
    refine wp_ret ?_
    have r_1_0 := h3.cell 1 rfl 0 rfl
    have r_1_1 := h3.cell 1 rfl 1 rfl
    first | show bodyPost _ _ _ _ _ _ | (simp only [Exit.then]; show bodyPost _ _ _ _ _ _) | (simp only [Exit.inBlock]; show bodyPost _ _ _ _ _ _) | (simp only [Exit.inBlock, Exit.then]; show bodyPost _ _ _ _ _ _) | (simp only [Exit.noGoto, Exit.inBlock, Exit.then]; show bodyPost _ _ _ _ _ _)
    refine bodyPost_ret (v := ?_) ?_ rfl ?_
    rotate_left
    · simp only [results, Tryz.results16]; go_simp; with_reducible rfl
    clear r_1_0 r_1_1
    exact ⟨H, rfl, h3.post⟩

set_option maxRecDepth 100000 in
set_option maxHeartbeats 4000000 in
theorem rpop_ok (H : GH) (w : World) (m : Option Nat) (c d : Int) (p : Option Addr) (t : Hp) (hpre : Pre w H m c d) (hn : Hp.size t < 900000) (ht : RtR H p t) :
    Calls Tryz.prog 12 #[hV p, mV m] w fun e w' => ∃ r H', e = .returned (.tuple #[hV r, .bool (Hp.min? t).isSome]) ∧ Post w H m w' H' (c + Hp.popC t) (d + Hp.popD t) ∧ RtR H' r (Hp.pop t) := by
  match t, hn, ht with
  | none, hn, ht =>
    obtain rfl : p = none := ht
    go_enter Tryz.func12, Tryz.ntmps12
    have h0 := St.start hpre
    refine wp_seq ?_
    repeat (first | simp only [List.nil_append] at h0 | simp only [List.cons_append] at h0 | simp only [List.set_cons_zero] at h0 | simp only [List.set_cons_succ] at h0 | simp only [List.eraseIdx_zero] at h0 | simp only [List.tail_cons] at h0 | simp only [List.eraseIdx_cons_zero] at h0 | simp only [List.eraseIdx_cons_succ] at h0 | simp only [List.setIfInBounds_toArray] at h0)
    refine wp_region_lit ?_
    refine wpList_plainQ rfl (fun K Q' hK => ?_); go_simp
    refine h0.k_alloc (fun w1 h1 => ?_)
    refine hK _ _ ?_; clear hK K; try clear Q'
    refine wpList_plainQ rfl (fun K Q' hK => ?_); go_simp
    refine h1.k_alloc (fun w2 h2 => ?_)
    refine hK _ _ ?_; clear hK K; try clear Q'
    iterate 1 (refine wpList_plainQ rfl (fun K Q' hK => ?_); go_simp; refine hK _ _ ?_; clear hK K; try clear Q')
    refine wpList_nil ?_
    show Code.wp _ _ _ _ _
    refine wp_seq ?_
    refine wp_seq ?_
    repeat (first | simp only [List.nil_append] at h2 | simp only [List.cons_append] at h2 | simp only [List.set_cons_zero] at h2 | simp only [List.set_cons_succ] at h2 | simp only [List.eraseIdx_zero] at h2 | simp only [List.tail_cons] at h2 | simp only [List.eraseIdx_cons_zero] at h2 | simp only [List.eraseIdx_cons_succ] at h2 | simp only [List.setIfInBounds_toArray] at h2)
    refine wp_region_lit ?_
    have c_0_0 := h2.cell 0 rfl 0 rfl
    iterate 3 (refine wpList_plainQ rfl (fun K Q' hK => ?_); go_simp; refine hK _ _ ?_; clear hK K; try clear Q')
    clear c_0_0
    refine wpList_nil ?_
    show Code.wp _ _ _ _ _
    -- stops at: cond
    refine wp_cond_true (rfl) ?_
    refine wp_seq ?_
    refine wp_region_lit ?_
    have c_0_0 := h2.cell 0 rfl 0 rfl
    iterate 1 (refine wpList_plainQ rfl (fun K Q' hK => ?_); go_simp; refine hK _ _ ?_; clear hK K; try clear Q')
    clear c_0_0
    have c_0 := h2.cell 1 rfl 0 rfl
    have f_0 := h2.free 1 rfl 0
    refine wpList_plainQ rfl (fun K Q' hK => ?_); go_simp
    clear c_0 f_0
    refine h2.k_set 1 rfl (fun w3 h3 => ?_)
    refine hK _ _ ?_; clear hK K; try clear Q'
    iterate 1 (refine wpList_plainQ rfl (fun K Q' hK => ?_); go_simp; refine hK _ _ ?_; clear hK K; try clear Q')
    refine wpList_nil ?_
    show Code.wp _ _ _ _ _
    -- stops at: ret
    refine wp_ret ?_
    have r_1_0 := h3.cell 1 rfl 0 rfl
    first | show bodyPost _ _ _ _ _ _ | (simp only [Exit.then]; show bodyPost _ _ _ _ _ _) | (simp only [Exit.inBlock]; show bodyPost _ _ _ _ _ _) | (simp only [Exit.inBlock, Exit.then]; show bodyPost _ _ _ _ _ _) | (simp only [Exit.noGoto, Exit.inBlock, Exit.then]; show bodyPost _ _ _ _ _ _)
    refine bodyPost_ret (v := ?_) ?_ rfl ?_
    rotate_left
    · simp only [results, Tryz.results12]; go_simp; with_reducible rfl
    clear r_1_0
    refine ⟨none, H, rfl, ?_, rfl⟩
    simpa [Hp.popC, Hp.popD] using h3.post
  | some (r0, l), hn, ht =>
    obtain ⟨b, qa, rfl, hb, hl⟩ := ht
    have hsz : Rw.size l < 900000 := by have : (Rw.els l).length + 1 < 900000 := hn; unfold Rw.size; omega
    cases hm : Rw.min? kf l with
    | none =>
      go_enter Tryz.func12, Tryz.ntmps12
      have h0 := St.start hpre
      refine wp_seq ?_
      repeat (first | simp only [List.nil_append] at h0 | simp only [List.cons_append] at h0 | simp only [List.set_cons_zero] at h0 | simp only [List.set_cons_succ] at h0 | simp only [List.eraseIdx_zero] at h0 | simp only [List.tail_cons] at h0 | simp only [List.eraseIdx_cons_zero] at h0 | simp only [List.eraseIdx_cons_succ] at h0 | simp only [List.setIfInBounds_toArray] at h0)
      refine wp_region_lit ?_
      refine wpList_plainQ rfl (fun K Q' hK => ?_); go_simp
      refine h0.k_alloc (fun w1 h1 => ?_)
      refine hK _ _ ?_; clear hK K; try clear Q'
      refine wpList_plainQ rfl (fun K Q' hK => ?_); go_simp
      refine h1.k_alloc (fun w2 h2 => ?_)
      refine hK _ _ ?_; clear hK K; try clear Q'
      iterate 1 (refine wpList_plainQ rfl (fun K Q' hK => ?_); go_simp; refine hK _ _ ?_; clear hK K; try clear Q')
      refine wpList_nil ?_
      show Code.wp _ _ _ _ _
      refine wp_seq ?_
      refine wp_seq ?_
      repeat (first | simp only [List.nil_append] at h2 | simp only [List.cons_append] at h2 | simp only [List.set_cons_zero] at h2 | simp only [List.set_cons_succ] at h2 | simp only [List.eraseIdx_zero] at h2 | simp only [List.tail_cons] at h2 | simp only [List.eraseIdx_cons_zero] at h2 | simp only [List.eraseIdx_cons_succ] at h2 | simp only [List.setIfInBounds_toArray] at h2)
      refine wp_region_lit ?_
      have c_0_0 := h2.cell 0 rfl 0 rfl
      iterate 3 (refine wpList_plainQ rfl (fun K Q' hK => ?_); go_simp; refine hK _ _ ?_; clear hK K; try clear Q')
      clear c_0_0
      refine wpList_nil ?_
      show Code.wp _ _ _ _ _
      -- stops at: cond
      refine wp_cond_false (rfl) ?_
      refine wp_skip ?_
      show Code.wp _ _ _ _ _
      refine wp_seq ?_
      refine wp_region_lit ?_
      have c_0_0 := h2.cell 0 rfl 0 rfl
      have c_hb_0 := h2.gh hb 0 rfl
      iterate 6 (refine wpList_plainQ rfl (fun K Q' hK => ?_); go_simp; refine hK _ _ ?_; clear hK K; try clear Q')
      clear c_0_0 c_hb_0
      -- stops at: eff:call (Go.Op.call {'callee': (Go.Callee.value (Go.Operand.func 30)), 'args': [(Go.Operand.tmp 19), (Go.Operand.tmp 20)], 'argTypes': [73, 25]}) slot 21
      refine wpList_plainQ rfl (fun K Q' hK => ?_); go_simp
      refine (skmin_ok H _ m c d qa l h2.pre (by omega) hl).mono ?_
      rintro e wA ⟨H1, rfl, hpA⟩
      rw [hm]
      simp only [minV, Option.isSome]
      have h3 := h2.call hpA
      have hb_3 := hpA.le _ _ hb
      refine hK _ _ ?_; clear hK K; try clear Q'
      iterate 3 (refine wpList_plainQ rfl (fun K Q' hK => ?_); go_simp; refine hK _ _ ?_; clear hK K; try clear Q')
      refine wpList_plainQ rfl (fun K Q' hK => ?_); go_simp
      refine h3.k_alloc (fun w4 h4 => ?_)
      refine hK _ _ ?_; clear hK K; try clear Q'
      have c_0 := h4.cell 2 rfl 0 rfl
      have f_0 := h4.free 2 rfl 0
      have c_1 := h4.cell 2 rfl 1 rfl
      have f_1 := h4.free 2 rfl 1
      refine wpList_plainQ rfl (fun K Q' hK => ?_); go_simp
      clear c_0 f_0 c_1 f_1
      refine (h4.set (i := 2) rfl 0 _).k_set 2 rfl (fun w5 h5 => ?_)
      refine hK _ _ ?_; clear hK K; try clear Q'
      iterate 1 (refine wpList_plainQ rfl (fun K Q' hK => ?_); go_simp; refine hK _ _ ?_; clear hK K; try clear Q')
      refine wpList_nil ?_
      show Code.wp _ _ _ _ _
      refine wp_seq ?_
      refine wp_seq ?_
      repeat (first | simp only [List.nil_append] at h5 | simp only [List.cons_append] at h5 | simp only [List.set_cons_zero] at h5 | simp only [List.set_cons_succ] at h5 | simp only [List.eraseIdx_zero] at h5 | simp only [List.tail_cons] at h5 | simp only [List.eraseIdx_cons_zero] at h5 | simp only [List.eraseIdx_cons_succ] at h5 | simp only [List.setIfInBounds_toArray] at h5)
      refine wp_region_lit ?_
      iterate 2 (refine wpList_plainQ rfl (fun K Q' hK => ?_); go_simp; refine hK _ _ ?_; clear hK K; try clear Q')
      refine wpList_nil ?_
      show Code.wp _ _ _ _ _
      -- stops at: cond
      refine wp_cond_true (rfl) ?_
      refine wp_seq ?_
      refine wp_region_lit ?_
      iterate 1 (refine wpList_plainQ rfl (fun K Q' hK => ?_); go_simp; refine hK _ _ ?_; clear hK K; try clear Q')
      have c_0 := h5.cell 1 rfl 0 rfl
      have f_0 := h5.free 1 rfl 0
      refine wpList_plainQ rfl (fun K Q' hK => ?_); go_simp
      clear c_0 f_0
      refine h5.k_set 1 rfl (fun w6 h6 => ?_)
      refine hK _ _ ?_; clear hK K; try clear Q'
      iterate 1 (refine wpList_plainQ rfl (fun K Q' hK => ?_); go_simp; refine hK _ _ ?_; clear hK K; try clear Q')
      refine wpList_nil ?_
      show Code.wp _ _ _ _ _
      -- stops at: ret
      refine wp_ret ?_
      have r_1_0 := h6.cell 1 rfl 0 rfl
      first | show bodyPost _ _ _ _ _ _ | (simp only [Exit.then]; show bodyPost _ _ _ _ _ _) | (simp only [Exit.inBlock]; show bodyPost _ _ _ _ _ _) | (simp only [Exit.inBlock, Exit.then]; show bodyPost _ _ _ _ _ _) | (simp only [Exit.noGoto, Exit.inBlock, Exit.then]; show bodyPost _ _ _ _ _ _)
      refine bodyPost_ret (v := ?_) ?_ rfl ?_
      rotate_left
      · simp only [results, Tryz.results12]; go_simp; with_reducible rfl
      clear r_1_0
      obtain rfl : l = [] := Rw.min_none kf hm
      refine ⟨none, H1, rfl, ?_, rfl⟩
      simpa [Hp.popC, Hp.popD, Rw.min?, Rw.minT] using h6.post
    | some x =>
      have hpc : Hp.popC (some (r0, l)) = (l.length - 1) + Sk.popC kf l := by
        show (match Rw.min? Hp.ke l with | none => 0 | some _ => (l.length - 1) + Sk.popC Hp.ke l) = _
        rw [show Rw.min? Hp.ke l = some x from hm]
      have hpd : Hp.popD (some (r0, l)) = Sk.popD kf l + 1 := by
        show (match Rw.min? Hp.ke l with | none => 0 | some _ => Sk.popD Hp.ke l + 1) = _
        rw [show Rw.min? Hp.ke l = some x from hm]
      go_enter Tryz.func12, Tryz.ntmps12
      have h0 := St.start hpre
      refine wp_seq ?_
      repeat (first | simp only [List.nil_append] at h0 | simp only [List.cons_append] at h0 | simp only [List.set_cons_zero] at h0 | simp only [List.set_cons_succ] at h0 | simp only [List.eraseIdx_zero] at h0 | simp only [List.tail_cons] at h0 | simp only [List.eraseIdx_cons_zero] at h0 | simp only [List.eraseIdx_cons_succ] at h0 | simp only [List.setIfInBounds_toArray] at h0)
      refine wp_region_lit ?_
      refine wpList_plainQ rfl (fun K Q' hK => ?_); go_simp
      refine h0.k_alloc (fun w1 h1 => ?_)
      refine hK _ _ ?_; clear hK K; try clear Q'
      refine wpList_plainQ rfl (fun K Q' hK => ?_); go_simp
      refine h1.k_alloc (fun w2 h2 => ?_)
      refine hK _ _ ?_; clear hK K; try clear Q'
      iterate 1 (refine wpList_plainQ rfl (fun K Q' hK => ?_); go_simp; refine hK _ _ ?_; clear hK K; try clear Q')
      refine wpList_nil ?_
      show Code.wp _ _ _ _ _
      refine wp_seq ?_
      refine wp_seq ?_
      repeat (first | simp only [List.nil_append] at h2 | simp only [List.cons_append] at h2 | simp only [List.set_cons_zero] at h2 | simp only [List.set_cons_succ] at h2 | simp only [List.eraseIdx_zero] at h2 | simp only [List.tail_cons] at h2 | simp only [List.eraseIdx_cons_zero] at h2 | simp only [List.eraseIdx_cons_succ] at h2 | simp only [List.setIfInBounds_toArray] at h2)
      refine wp_region_lit ?_
      have c_0_0 := h2.cell 0 rfl 0 rfl
      iterate 3 (refine wpList_plainQ rfl (fun K Q' hK => ?_); go_simp; refine hK _ _ ?_; clear hK K; try clear Q')
      clear c_0_0
      refine wpList_nil ?_
      show Code.wp _ _ _ _ _
      -- stops at: cond
      refine wp_cond_false (rfl) ?_
      refine wp_skip ?_
      show Code.wp _ _ _ _ _
      refine wp_seq ?_
      refine wp_region_lit ?_
      have c_0_0 := h2.cell 0 rfl 0 rfl
      have c_hb_0 := h2.gh hb 0 rfl
      iterate 6 (refine wpList_plainQ rfl (fun K Q' hK => ?_); go_simp; refine hK _ _ ?_; clear hK K; try clear Q')
      clear c_0_0 c_hb_0
      -- stops at: eff:call (Go.Op.call {'callee': (Go.Callee.value (Go.Operand.func 30)), 'args': [(Go.Operand.tmp 19), (Go.Operand.tmp 20)], 'argTypes': [73, 25]}) slot 21
      refine wpList_plainQ rfl (fun K Q' hK => ?_); go_simp
      refine (skmin_ok H _ m c d qa l h2.pre (by omega) hl).mono ?_
      rintro e wA ⟨H1, rfl, hpA⟩
      rw [hm]
      simp only [minV, Option.isSome]
      have h3 := h2.call hpA
      have hb_3 := hpA.le _ _ hb
      refine hK _ _ ?_; clear hK K; try clear Q'
      iterate 3 (refine wpList_plainQ rfl (fun K Q' hK => ?_); go_simp; refine hK _ _ ?_; clear hK K; try clear Q')
      refine wpList_plainQ rfl (fun K Q' hK => ?_); go_simp
      refine h3.k_alloc (fun w4 h4 => ?_)
      refine hK _ _ ?_; clear hK K; try clear Q'
      have c_0 := h4.cell 2 rfl 0 rfl
      have f_0 := h4.free 2 rfl 0
      have c_1 := h4.cell 2 rfl 1 rfl
      have f_1 := h4.free 2 rfl 1
      refine wpList_plainQ rfl (fun K Q' hK => ?_); go_simp
      clear c_0 f_0 c_1 f_1
      refine (h4.set (i := 2) rfl 0 _).k_set 2 rfl (fun w5 h5 => ?_)
      refine hK _ _ ?_; clear hK K; try clear Q'
      iterate 1 (refine wpList_plainQ rfl (fun K Q' hK => ?_); go_simp; refine hK _ _ ?_; clear hK K; try clear Q')
      refine wpList_nil ?_
      show Code.wp _ _ _ _ _
      refine wp_seq ?_
      refine wp_seq ?_
      repeat (first | simp only [List.nil_append] at h5 | simp only [List.cons_append] at h5 | simp only [List.set_cons_zero] at h5 | simp only [List.set_cons_succ] at h5 | simp only [List.eraseIdx_zero] at h5 | simp only [List.tail_cons] at h5 | simp only [List.eraseIdx_cons_zero] at h5 | simp only [List.eraseIdx_cons_succ] at h5 | simp only [List.setIfInBounds_toArray] at h5)
      refine wp_region_lit ?_
      iterate 2 (refine wpList_plainQ rfl (fun K Q' hK => ?_); go_simp; refine hK _ _ ?_; clear hK K; try clear Q')
      refine wpList_nil ?_
      show Code.wp _ _ _ _ _
      -- stops at: cond
      refine wp_cond_false (rfl) ?_
      refine wp_skip ?_
      show Code.wp _ _ _ _ _
      refine wp_seq ?_
      refine wp_region_lit ?_
      have c_0_0 := h5.cell 0 rfl 0 rfl
      have c_hb_0 := h5.gh hb_3 0 rfl
      iterate 6 (refine wpList_plainQ rfl (fun K Q' hK => ?_); go_simp; refine hK _ _ ?_; clear hK K; try clear Q')
      clear c_0_0 c_hb_0
      -- stops at: eff:call (Go.Op.call {'callee': (Go.Callee.value (Go.Operand.func 31)), 'args': [(Go.Operand.tmp 32), (Go.Operand.tmp 33)], 'argTypes': [73, 25]}) slot 34
      refine wpList_plainQ rfl (fun K Q' hK => ?_); go_simp
      refine (skpop_ok H1 _ m _ _ qa l h5.pre hsz (hl.mono hpA.le)).mono ?_
      rintro e wB ⟨q2, H2, rfl, hpB, hB⟩
      rw [hm]
      simp only [Option.isSome]
      have h6 := h5.call hpB
      have hb_6 := hpB.le _ _ hb_3
      refine hK _ _ ?_; clear hK K; try clear Q'
      iterate 3 (refine wpList_plainQ rfl (fun K Q' hK => ?_); go_simp; refine hK _ _ ?_; clear hK K; try clear Q')
      refine wpList_plainQ rfl (fun K Q' hK => ?_); go_simp
      refine h6.k_alloc (fun w7 h7 => ?_)
      refine hK _ _ ?_; clear hK K; try clear Q'
      have c_0 := h7.cell 3 rfl 0 rfl
      have f_0 := h7.free 3 rfl 0
      refine wpList_plainQ rfl (fun K Q' hK => ?_); go_simp
      clear c_0 f_0
      refine h7.k_set 3 rfl (fun w8 h8 => ?_)
      refine hK _ _ ?_; clear hK K; try clear Q'
      iterate 1 (refine wpList_plainQ rfl (fun K Q' hK => ?_); go_simp; refine hK _ _ ?_; clear hK K; try clear Q')
      refine wpList_nil ?_
      show Code.wp _ _ _ _ _
      refine wp_seq ?_
      repeat (first | simp only [List.nil_append] at h8 | simp only [List.cons_append] at h8 | simp only [List.set_cons_zero] at h8 | simp only [List.set_cons_succ] at h8 | simp only [List.eraseIdx_zero] at h8 | simp only [List.tail_cons] at h8 | simp only [List.eraseIdx_cons_zero] at h8 | simp only [List.eraseIdx_cons_succ] at h8 | simp only [List.setIfInBounds_toArray] at h8)
      refine wp_region_lit ?_
      have c_2_0 := h8.cell 2 rfl 0 rfl
      have c_2_1 := h8.cell 2 rfl 1 rfl
      have c_3_0 := h8.cell 3 rfl 0 rfl
      iterate 3 (refine wpList_plainQ rfl (fun K Q' hK => ?_); go_simp; refine hK _ _ ?_; clear hK K; try clear Q')
      clear c_2_0 c_2_1 c_3_0
      -- stops at: eff:call (Go.Op.call {'callee': (Go.Callee.value (Go.Operand.func 23)), 'args': [(Go.Operand.tmp 37), (Go.Operand.tmp 38), (Go.Operand.tmp 39)], 'argTypes': [25, 32, 73] slot 40
      refine wpList_plainQ rfl (fun K Q' hK => ?_); go_simp
      refine (rmade_ok H2 _ m _ _ x q2 _ h8.pre hB).mono ?_
      rintro e wC ⟨p9, H9, rfl, hpC, hC⟩
      have h9 := h8.call hpC
      have hb_9 := hpC.le _ _ hb_6
      refine hK _ _ ?_; clear hK K; try clear Q'
      have c_0 := h9.cell 1 rfl 0 rfl
      have f_0 := h9.free 1 rfl 0
      refine wpList_plainQ rfl (fun K Q' hK => ?_); go_simp
      clear c_0 f_0
      refine h9.k_set 1 rfl (fun w10 h10 => ?_)
      refine hK _ _ ?_; clear hK K; try clear Q'
      iterate 1 (refine wpList_plainQ rfl (fun K Q' hK => ?_); go_simp; refine hK _ _ ?_; clear hK K; try clear Q')
      refine wpList_nil ?_
      show Code.wp _ _ _ _ _
      -- stops at: ret
      refine wp_ret ?_
      have r_1_0 := h10.cell 1 rfl 0 rfl
      first | show bodyPost _ _ _ _ _ _ | (simp only [Exit.then]; show bodyPost _ _ _ _ _ _) | (simp only [Exit.inBlock]; show bodyPost _ _ _ _ _ _) | (simp only [Exit.inBlock, Exit.then]; show bodyPost _ _ _ _ _ _) | (simp only [Exit.noGoto, Exit.inBlock, Exit.then]; show bodyPost _ _ _ _ _ _)
      refine bodyPost_ret (v := ?_) ?_ rfl ?_
      rotate_left
      · simp only [results, Tryz.results12]; go_simp; with_reducible rfl
      clear r_1_0
      refine ⟨p9, H9, rfl, ?_, by rw [Hp.pop_some r0 hm]; exact hC⟩
      rw [hpc, hpd]
      have hq := h10.post
      rw [show c + ((l.length - 1 : Nat) : Int) + (Sk.popC kf l : Nat) = c + ((l.length - 1 + Sk.popC kf l : Nat) : Int) by omega, show d + (Sk.popD kf l : Nat) + 1 = d + ((Sk.popD kf l + 1 : Nat) : Int) by omega] at hq
      exact hq

set_option maxRecDepth 100000 in
theorem rsize_ok (H : GH) (w : World) (p : Option Addr) (t : Hp) (hf : Fits w H) (hn : Hp.size t < 900000) (ht : RtR H p t) :
    Calls Tryz.prog 20 #[hV p] w fun e w' => ∃ H', e = .returned (.int .i64 (Hp.size t : Nat)) ∧ Post w H none w' H' 0 0 := by
  have hpre : Pre w H none 0 0 := Pre.none hf 0 0
  match t, hn, ht with
  | none, hn, ht =>
    obtain rfl : p = none := ht
    go_enter Tryz.func20, Tryz.ntmps20
    have h0 := St.start hpre
    refine wp_seq ?_
    repeat (first | simp only [List.nil_append] at h0 | simp only [List.cons_append] at h0 | simp only [List.set_cons_zero] at h0 | simp only [List.set_cons_succ] at h0 | simp only [List.eraseIdx_zero] at h0 | simp only [List.tail_cons] at h0 | simp only [List.eraseIdx_cons_zero] at h0 | simp only [List.eraseIdx_cons_succ] at h0 | simp only [List.setIfInBounds_toArray] at h0)
    refine wp_region_lit ?_
    refine wpList_plainQ rfl (fun K Q' hK => ?_); go_simp
    refine h0.k_alloc (fun w1 h1 => ?_)
    refine hK _ _ ?_; clear hK K; try clear Q'
    iterate 1 (refine wpList_plainQ rfl (fun K Q' hK => ?_); go_simp; refine hK _ _ ?_; clear hK K; try clear Q')
    refine wpList_nil ?_
    show Code.wp _ _ _ _ _
    refine wp_seq ?_
    refine wp_seq ?_
    repeat (first | simp only [List.nil_append] at h1 | simp only [List.cons_append] at h1 | simp only [List.set_cons_zero] at h1 | simp only [List.set_cons_succ] at h1 | simp only [List.eraseIdx_zero] at h1 | simp only [List.tail_cons] at h1 | simp only [List.eraseIdx_cons_zero] at h1 | simp only [List.eraseIdx_cons_succ] at h1 | simp only [List.setIfInBounds_toArray] at h1)
    refine wp_region_lit ?_
    have c_0_0 := h1.cell 0 rfl 0 rfl
    iterate 3 (refine wpList_plainQ rfl (fun K Q' hK => ?_); go_simp; refine hK _ _ ?_; clear hK K; try clear Q')
    clear c_0_0
    refine wpList_nil ?_
    show Code.wp _ _ _ _ _
    -- stops at: cond
    refine wp_cond_true (rfl) ?_
    refine wp_seq ?_
    refine wp_region_lit ?_
    iterate 1 (refine wpList_plainQ rfl (fun K Q' hK => ?_); go_simp; refine hK _ _ ?_; clear hK K; try clear Q')
    refine wpList_nil ?_
    show Code.wp _ _ _ _ _
    -- stops at: ret
    refine wp_ret ?_
    go_ret
    exact ⟨H, rfl, h1.post⟩
  | some (r0, l), hn, ht =>
    obtain ⟨b, qa, rfl, hb, hl⟩ := ht
    obtain ⟨s1, hs1⟩ : ∃ s, Hid (Rw.size l = s) := ⟨_, show _ = _ from rfl⟩
    obtain ⟨s2, hs2⟩ : ∃ s, Hid (Hp.size (some (r0, l)) = s) := ⟨_, show _ = _ from rfl⟩
    have h12 : s2 = s1 + 1 := by rw [← hs2.out, ← hs1.out]; rfl
    have hsz : s2 < 900000 := by rw [← hs2.out]; exact hn
    have e7 : IntKind.i64.wrap (1 + (s1 : Int)) = (s2 : Int) := by rw [IntWalk.i64_in _ (by omega)]; omega
    rw [hs2.out]
    clear h12
    go_enter Tryz.func20, Tryz.ntmps20
    have h0 := St.start hpre
    refine wp_seq ?_
    repeat (first | simp only [List.nil_append] at h0 | simp only [List.cons_append] at h0 | simp only [List.set_cons_zero] at h0 | simp only [List.set_cons_succ] at h0 | simp only [List.eraseIdx_zero] at h0 | simp only [List.tail_cons] at h0 | simp only [List.eraseIdx_cons_zero] at h0 | simp only [List.eraseIdx_cons_succ] at h0 | simp only [List.setIfInBounds_toArray] at h0)
    refine wp_region_lit ?_
    refine wpList_plainQ rfl (fun K Q' hK => ?_); go_simp
    refine h0.k_alloc (fun w1 h1 => ?_)
    refine hK _ _ ?_; clear hK K; try clear Q'
    iterate 1 (refine wpList_plainQ rfl (fun K Q' hK => ?_); go_simp; refine hK _ _ ?_; clear hK K; try clear Q')
    refine wpList_nil ?_
    show Code.wp _ _ _ _ _
    refine wp_seq ?_
    refine wp_seq ?_
    repeat (first | simp only [List.nil_append] at h1 | simp only [List.cons_append] at h1 | simp only [List.set_cons_zero] at h1 | simp only [List.set_cons_succ] at h1 | simp only [List.eraseIdx_zero] at h1 | simp only [List.tail_cons] at h1 | simp only [List.eraseIdx_cons_zero] at h1 | simp only [List.eraseIdx_cons_succ] at h1 | simp only [List.setIfInBounds_toArray] at h1)
    refine wp_region_lit ?_
    have c_0_0 := h1.cell 0 rfl 0 rfl
    iterate 3 (refine wpList_plainQ rfl (fun K Q' hK => ?_); go_simp; refine hK _ _ ?_; clear hK K; try clear Q')
    clear c_0_0
    refine wpList_nil ?_
    show Code.wp _ _ _ _ _
    -- stops at: cond
    refine wp_cond_false (rfl) ?_
    refine wp_skip ?_
    show Code.wp _ _ _ _ _
    refine wp_seq ?_
    refine wp_region_lit ?_
    have c_0_0 := h1.cell 0 rfl 0 rfl
    have c_hb_0 := h1.gh hb 0 rfl
    iterate 5 (refine wpList_plainQ rfl (fun K Q' hK => ?_); go_simp; refine hK _ _ ?_; clear hK K; try clear Q')
    clear c_0_0 c_hb_0
    -- stops at: eff:call (Go.Op.call {'callee': (Go.Callee.value (Go.Operand.func 39)), 'args': [(Go.Operand.tmp 10)], 'argTypes': [73]}) slot 11
    refine wpList_plainQ rfl (fun K Q' hK => ?_); go_simp
    refine (sksize_ok H _ qa l h1.fits (by have := hs1.out; have := hs2.out; have : Rw.size l + 1 = Hp.size (some (r0, l)) := rfl; omega) hl).mono ?_
    rintro e wB ⟨H2, rfl, hpB⟩
    rw [hs1.out]
    have h2 := h1.call0 hpB
    have hb_2 := hpB.le _ _ hb
    refine hK _ _ ?_; clear hK K; try clear Q'
    iterate 2 (refine wpList_plainQ rfl (fun K Q' hK => ?_); go_simp; refine hK _ _ ?_; clear hK K; try clear Q')
    refine wpList_nil ?_
    show Code.wp _ _ _ _ _
    -- stops at: ret
    refine wp_ret ?_
    go_ret
    exact ⟨H2, rfl, h2.post⟩

theorem Rw.text_len (l : List (Tr El)) (hfit : ∀ a ∈ Rw.els l, El.fits a) (hn : Rw.size l < 900000) : (Rw.text l).length ≤ 100000000 := by
  have hsum := text_sum l hfit
  cases l with
  | nil => simp [Rw.text]
  | cons t l =>
    rw [Rw.text, if_neg (by simp), List.map_cons, Lib.join_length]
    rw [List.map_cons] at hsum
    simp [Lib.lens] at hsum ⊢
    omega
/-- A heap's text. -/
def Hp.text : Hp → List UInt8
  | none => [46]
  | some (x, l) => El.text x ++ 32 :: Rw.text l
set_option maxRecDepth 100000 in
set_option maxHeartbeats 1000000 in
theorem rshow_ok (H : GH) (w : World) (p : Option Addr) (t : Hp) (hf : Fits w H) (htab : TabH H) (hn : Hp.size t < 900000) (hfit : ∀ a ∈ Hp.els t, El.fits a) (ht : RtR H p t) :
    Calls Tryz.prog 18 #[hV p] w fun e w' => ∃ H', e = .returned (.string ⟨(Hp.text t).toArray⟩) ∧ Post w H none w' H' 0 0 := by
  have hpre : Pre w H none 0 0 := Pre.none hf 0 0
  match t, hn, hfit, ht with
  | none, hn, hfit, ht =>
    obtain rfl : p = none := ht
    go_enter Tryz.func18, Tryz.ntmps18
    have h0 := St.start hpre
    refine wp_seq ?_
    repeat (first | simp only [List.nil_append] at h0 | simp only [List.cons_append] at h0 | simp only [List.set_cons_zero] at h0 | simp only [List.set_cons_succ] at h0 | simp only [List.eraseIdx_zero] at h0 | simp only [List.tail_cons] at h0 | simp only [List.eraseIdx_cons_zero] at h0 | simp only [List.eraseIdx_cons_succ] at h0 | simp only [List.setIfInBounds_toArray] at h0)
    refine wp_region_lit ?_
    refine wpList_plainQ rfl (fun K Q' hK => ?_); go_simp
    refine h0.k_alloc (fun w1 h1 => ?_)
    refine hK _ _ ?_; clear hK K; try clear Q'
    iterate 1 (refine wpList_plainQ rfl (fun K Q' hK => ?_); go_simp; refine hK _ _ ?_; clear hK K; try clear Q')
    refine wpList_nil ?_
    show Code.wp _ _ _ _ _
    refine wp_seq ?_
    refine wp_seq ?_
    repeat (first | simp only [List.nil_append] at h1 | simp only [List.cons_append] at h1 | simp only [List.set_cons_zero] at h1 | simp only [List.set_cons_succ] at h1 | simp only [List.eraseIdx_zero] at h1 | simp only [List.tail_cons] at h1 | simp only [List.eraseIdx_cons_zero] at h1 | simp only [List.eraseIdx_cons_succ] at h1 | simp only [List.setIfInBounds_toArray] at h1)
    refine wp_region_lit ?_
    have c_0_0 := h1.cell 0 rfl 0 rfl
    iterate 3 (refine wpList_plainQ rfl (fun K Q' hK => ?_); go_simp; refine hK _ _ ?_; clear hK K; try clear Q')
    clear c_0_0
    refine wpList_nil ?_
    show Code.wp _ _ _ _ _
    -- stops at: cond
    refine wp_cond_true (rfl) ?_
    refine wp_seq ?_
    refine wp_region_lit ?_
    iterate 1 (refine wpList_plainQ rfl (fun K Q' hK => ?_); go_simp; refine hK _ _ ?_; clear hK K; try clear Q')
    refine wpList_nil ?_
    show Code.wp _ _ _ _ _
    -- stops at: ret
    refine wp_ret ?_
    go_ret
    exact ⟨H, rfl, h1.post⟩
  | some (r0, l), hn, hfit, ht =>
    obtain ⟨b, qa, rfl, hb, hl⟩ := ht
    have hsz : Rw.size l < 900000 := by have : (Rw.els l).length + 1 < 900000 := hn; unfold Rw.size; omega
    have hx := hfit r0 (by simp [Hp.els])
    have hfl : ∀ a ∈ Rw.els l, El.fits a := fun a ha => hfit a (by simp [Hp.els, ha])
    have htl := El.text_len hx
    have hll := Rw.text_len l hfl hsz
    obtain ⟨tx, htx⟩ : ∃ s, Hid (El.text r0 = s) := ⟨_, show _ = _ from rfl⟩
    obtain ⟨tl, htll⟩ : ∃ s, Hid (Rw.text l = s) := ⟨_, show _ = _ from rfl⟩
    rw [htx.out] at htl
    rw [htll.out] at hll
    have l1 : ¬ 9223372036854775807 < tx.length + 1 := by omega
    have l2 : ¬ 9223372036854775807 < tx.length + 1 + tl.length := by omega
    have heq : Hp.text (some (r0, l)) = tx ++ 32 :: tl := by rw [← htx.out, ← htll.out]; rfl
    go_enter Tryz.func18, Tryz.ntmps18
    have h0 := St.start hpre
    refine wp_seq ?_
    repeat (first | simp only [List.nil_append] at h0 | simp only [List.cons_append] at h0 | simp only [List.set_cons_zero] at h0 | simp only [List.set_cons_succ] at h0 | simp only [List.eraseIdx_zero] at h0 | simp only [List.tail_cons] at h0 | simp only [List.eraseIdx_cons_zero] at h0 | simp only [List.eraseIdx_cons_succ] at h0 | simp only [List.setIfInBounds_toArray] at h0)
    refine wp_region_lit ?_
    refine wpList_plainQ rfl (fun K Q' hK => ?_); go_simp
    refine h0.k_alloc (fun w1 h1 => ?_)
    refine hK _ _ ?_; clear hK K; try clear Q'
    iterate 1 (refine wpList_plainQ rfl (fun K Q' hK => ?_); go_simp; refine hK _ _ ?_; clear hK K; try clear Q')
    refine wpList_nil ?_
    show Code.wp _ _ _ _ _
    refine wp_seq ?_
    refine wp_seq ?_
    repeat (first | simp only [List.nil_append] at h1 | simp only [List.cons_append] at h1 | simp only [List.set_cons_zero] at h1 | simp only [List.set_cons_succ] at h1 | simp only [List.eraseIdx_zero] at h1 | simp only [List.tail_cons] at h1 | simp only [List.eraseIdx_cons_zero] at h1 | simp only [List.eraseIdx_cons_succ] at h1 | simp only [List.setIfInBounds_toArray] at h1)
    refine wp_region_lit ?_
    have c_0_0 := h1.cell 0 rfl 0 rfl
    iterate 3 (refine wpList_plainQ rfl (fun K Q' hK => ?_); go_simp; refine hK _ _ ?_; clear hK K; try clear Q')
    clear c_0_0
    refine wpList_nil ?_
    show Code.wp _ _ _ _ _
    -- stops at: cond
    refine wp_cond_false (rfl) ?_
    refine wp_skip ?_
    show Code.wp _ _ _ _ _
    refine wp_seq ?_
    refine h1.region [0] [(0, true), (1, true), (2, true), (3, true), (4, true), (7, true), (8, true), (9, true), (10, true), (11, true), (5, false), (6, true), (12, false), (13, true), (14, true)] (by kernel_rfl) (by kernel_rfl) (fun w2 h2 => ?_)
    refine wpOrd_hide (fun _ _ d _ _ h => by cases d <;> exact h) (fun QR hQn hQp => ?_)
    simp only [ordOps, List.map_cons, List.map_nil, List.getD_cons_zero, List.getD_cons_succ]
    iterate 10 (refine wpOrd_quiet (v := ?_) rfl (fun _ _ _ => hQp _ _ _ _ _) ?_ ?_; rotate_left; (intro w' hS; have c_0_0 := hS.cell 0 rfl 0 rfl; have c_hb_1 := hS.gh hb 1 rfl; have c_hb_2 := hS.gh hb 2 rfl; have c_hb_0 := hS.gh hb 0 rfl; (first | (go_simp; done) | (go_simp; with_reducible rfl))); simp only [Act.put, List.setIfInBounds_toArray, List.set_cons_zero, List.set_cons_succ])
    -- stops at: eff:call (Go.Op.call {'callee': (Go.Callee.value (Go.Operand.func 35)), 'args': [(Go.Operand.tmp 10)], 'argTypes': [32]}) slot 11
    refine wpOrd_effQ rfl (fun K Q' hK => ?_); go_simp
    refine (etext_ok H _ r0 hx h2.fits htab).mono ?_
    rintro e wA ⟨rfl, hkA⟩
    rw [htx.out]
    have h3 := h2.callk hkA
    refine hK _ _ (h3.sat' (GH.le_refl _) [0] (by kernel_rfl)) ?_; clear hK K; try clear Q'
    iterate 1 (refine wpOrd_quiet (v := ?_) rfl (fun _ _ _ => hQp _ _ _ _ _) ?_ ?_; rotate_left; (intro w' hS; (first | (go_simp; done) | (go_simp; with_reducible rfl))); simp only [Act.put, List.setIfInBounds_toArray, List.set_cons_zero, List.set_cons_succ])
    -- stops at: eff:call (Go.Op.call {'callee': (Go.Callee.value (Go.Operand.func 36)), 'args': [(Go.Operand.tmp 17)], 'argTypes': [73]}) slot 18
    refine wpOrd_effQ rfl (fun K Q' hK => ?_); go_simp
    refine (skshow_ok H _ qa l h3.fits htab hsz hfl hl).mono ?_
    rintro e wB ⟨H2, rfl, hpB⟩
    rw [htll.out]
    have h4 := h3.call0 hpB
    have hb_4 := hpB.le _ _ hb
    refine hK _ _ (h4.sat' hpB.le [0] (by kernel_rfl)) ?_; clear hK K; try clear Q'
    iterate 2 (refine wpOrd_quiet (v := ?_) rfl (fun _ _ _ => hQp _ _ _ _ _) ?_ ?_; rotate_left; (intro w' hS; (first | (go_simp; done) | (go_simp; with_reducible rfl))); simp only [Act.put, List.setIfInBounds_toArray, List.set_cons_zero, List.set_cons_succ])
    refine wpOrd_nil (hQn _ _ ?_); clear hQn hQp QR
    show Code.wp _ _ _ _ _
    -- stops at: ret
    refine wp_ret ?_
    go_ret
    refine ⟨H2, ?_, h4.post⟩
    rw [heq]
    exact congrArg (fun s => Ending.returned (.string s)) (ByteArray.ext (by simp))
end Go.Proofs.YteigmfkkeofcaaaGreatDoor
