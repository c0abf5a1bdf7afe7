/-
The lists of *slagheap/rank.Tree[slagheap/api.Elem]: each of their functions does what its name says.
-/
import Derived.Test.YteigmfkkeofcaaaGreatDoorGbUon
import Derived.Test.YteigmfkkeofcaaaGreatDoorRows
namespace Go.Proofs.YteigmfkkeofcaaaGreatDoor.CTr
open Go Go.RowKit Go.Shelf
set_option linter.unusedVariables false
attribute [local go_sem] Oper.semAt_some

set_option maxHeartbeats 400000 in
theorem len_ok (H : GH) (w : World) (p : Option Addr) (vs : List Value) (hf : Fits w H) (hr : ConsRep 133 H p vs) :
    Calls Tryz.prog 76 #[.agg #[.pointer p]] w fun e w' => e = .returned (.int .i64 vs.length) ∧ Keep none w w' := by
  have hpre : Pre w H none 0 0 := Pre.none hf 0 0
  cases hr with
  | nil =>
    go_enter Tryz.func76, Tryz.ntmps76
    have h0 := St.start hpre
    refine wp_seq ?_
    refine wp_region_lit ?_
    refine wpList_plain rfl (fun K hK => ?_); go_simp
    refine h0.k_alloc (fun w1 h1 => ?_)
    refine hK _ _ ?_; clear hK K
    iterate 1 (refine wpList_plain rfl (fun K hK => ?_); go_simp; refine hK _ _ ?_; clear hK K)
    refine wpList_nil ?_
    show Code.wp _ _ _ _ _
    refine wp_seq ?_
    refine wp_seq ?_
    refine wp_region_lit ?_
    have c_0_0 := h1.cell 0 rfl 0 rfl
    iterate 3 (refine wpList_plain rfl (fun K hK => ?_); go_simp; refine hK _ _ ?_; clear hK K)
    clear c_0_0
    refine wpList_nil ?_
    show Code.wp _ _ _ _ _
    -- stops at: cond
    refine wp_cond_true (rfl) ?_
    refine wp_seq ?_
    refine wp_region_lit ?_
    iterate 1 (refine wpList_plain rfl (fun K hK => ?_); go_simp; refine hK _ _ ?_; clear hK K)
    refine wpList_nil ?_
    show Code.wp _ _ _ _ _
    -- stops at: ret
    refine wp_ret ?_
    go_ret
    exact ⟨rfl, h1.post.keep⟩
  | @cons b v p vs hb r =>
    go_enter Tryz.func76, Tryz.ntmps76
    have h0 := St.start hpre
    refine wp_seq ?_
    refine wp_region_lit ?_
    refine wpList_plain rfl (fun K hK => ?_); go_simp
    refine h0.k_alloc (fun w1 h1 => ?_)
    refine hK _ _ ?_; clear hK K
    iterate 1 (refine wpList_plain rfl (fun K hK => ?_); go_simp; refine hK _ _ ?_; clear hK K)
    refine wpList_nil ?_
    show Code.wp _ _ _ _ _
    refine wp_seq ?_
    refine wp_seq ?_
    refine wp_region_lit ?_
    have c_0_0 := h1.cell 0 rfl 0 rfl
    iterate 3 (refine wpList_plain rfl (fun K hK => ?_); go_simp; refine hK _ _ ?_; clear hK K)
    clear c_0_0
    refine wpList_nil ?_
    show Code.wp _ _ _ _ _
    -- stops at: cond
    refine wp_cond_false (rfl) ?_
    refine wp_skip ?_
    show Code.wp _ _ _ _ _
    refine wp_seq ?_
    refine wp_region_lit ?_
    have c_0_0 := h1.cell 0 rfl 0 rfl
    have c_hb_2 := h1.gh hb 2 rfl
    iterate 6 (refine wpList_plain rfl (fun K hK => ?_); go_simp; refine hK _ _ ?_; clear hK K)
    clear c_0_0 c_hb_2
    refine wpList_nil ?_
    show Code.wp _ _ _ _ _
    -- stops at: ret
    refine wp_ret ?_
    go_ret
    exact ⟨rfl, h1.post.keep⟩

set_option maxHeartbeats 400000 in
theorem first_nil (H : GH) (w : World) (hf : Fits w H) :
    Calls Tryz.prog 44 #[.agg #[.pointer none]] w fun e w' => e = .returned (.tuple #[(.pointer none), .bool false]) ∧ Keep none w w' := by
  have hpre : Pre w H none 0 0 := Pre.none hf 0 0
  go_enter Tryz.func44, Tryz.ntmps44
  have h0 := St.start hpre
  refine wp_seq ?_
  refine wp_region_lit ?_
  refine wpList_plain rfl (fun K hK => ?_); go_simp
  refine h0.k_alloc (fun w1 h1 => ?_)
  refine hK _ _ ?_; clear hK K
  iterate 2 (refine wpList_plain rfl (fun K hK => ?_); go_simp; refine hK _ _ ?_; clear hK K)
  refine wpList_nil ?_
  show Code.wp _ _ _ _ _
  refine wp_seq ?_
  refine wp_seq ?_
  refine wp_region_lit ?_
  have c_0_0 := h1.cell 0 rfl 0 rfl
  iterate 3 (refine wpList_plain rfl (fun K hK => ?_); go_simp; refine hK _ _ ?_; clear hK K)
  clear c_0_0
  refine wpList_nil ?_
  show Code.wp _ _ _ _ _
  -- stops at: cond
  refine wp_cond_true (rfl) ?_
  refine wp_seq ?_
  refine wp_region_lit ?_
  iterate 1 (refine wpList_plain rfl (fun K hK => ?_); go_simp; refine hK _ _ ?_; clear hK K)
  refine wpList_nil ?_
  show Code.wp _ _ _ _ _
  refine wp_seq ?_
  refine wp_region_lit ?_
  iterate 3 (refine wpList_plain rfl (fun K hK => ?_); go_simp; refine hK _ _ ?_; clear hK K)
  refine wpList_nil ?_
  show Code.wp _ _ _ _ _
  -- stops at: ret
  refine wp_ret ?_
  go_ret2
  exact ⟨rfl, h1.post.keep⟩

set_option maxHeartbeats 400000 in
theorem first_cons (H : GH) (w : World) (p : Option Addr) (v : Option Addr) (vs : List Value) (hf : Fits w H) (hr : ConsRep 133 H p (Value.pointer v :: vs)) :
    Calls Tryz.prog 44 #[.agg #[.pointer p]] w fun e w' => e = .returned (.tuple #[Value.pointer v, .bool true]) ∧ Keep none w w' := by
  have hpre : Pre w H none 0 0 := Pre.none hf 0 0
  cases hr with
  | @cons b _ p vs hb r =>
  go_enter Tryz.func44, Tryz.ntmps44
  have h0 := St.start hpre
  refine wp_seq ?_
  refine wp_region_lit ?_
  refine wpList_plain rfl (fun K hK => ?_); go_simp
  refine h0.k_alloc (fun w1 h1 => ?_)
  refine hK _ _ ?_; clear hK K
  iterate 2 (refine wpList_plain rfl (fun K hK => ?_); go_simp; refine hK _ _ ?_; clear hK K)
  refine wpList_nil ?_
  show Code.wp _ _ _ _ _
  refine wp_seq ?_
  refine wp_seq ?_
  refine wp_region_lit ?_
  have c_0_0 := h1.cell 0 rfl 0 rfl
  iterate 3 (refine wpList_plain rfl (fun K hK => ?_); go_simp; refine hK _ _ ?_; clear hK K)
  clear c_0_0
  refine wpList_nil ?_
  show Code.wp _ _ _ _ _
  -- stops at: cond
  refine wp_cond_false (rfl) ?_
  refine wp_skip ?_
  show Code.wp _ _ _ _ _
  refine wp_seq ?_
  refine wp_region_lit ?_
  have c_0_0 := h1.cell 0 rfl 0 rfl
  have c_hb_0 := h1.gh hb 0 rfl
  iterate 7 (refine wpList_plain rfl (fun K hK => ?_); go_simp; refine hK _ _ ?_; clear hK K)
  clear c_0_0 c_hb_0
  refine wpList_nil ?_
  show Code.wp _ _ _ _ _
  -- stops at: ret
  refine wp_ret ?_
  go_ret2
  exact ⟨rfl, h1.post.keep⟩

set_option maxHeartbeats 400000 in
theorem rest_ok (H : GH) (w : World) (p : Option Addr) (vs : List Value) (hf : Fits w H) (hr : ConsRep 133 H p vs) :
    Calls Tryz.prog 45 #[.agg #[.pointer p]] w fun e w' => ∃ q, e = .returned (.agg #[.pointer q]) ∧ Keep none w w' ∧ ConsRep 133 H q vs.tail := by
  have hpre : Pre w H none 0 0 := Pre.none hf 0 0
  cases hr with
  | nil =>
    go_enter Tryz.func45, Tryz.ntmps45
    have h0 := St.start hpre
    refine wp_seq ?_
    refine wp_region_lit ?_
    refine wpList_plain rfl (fun K hK => ?_); go_simp
    refine h0.k_alloc (fun w1 h1 => ?_)
    refine hK _ _ ?_; clear hK K
    refine wpList_plain rfl (fun K hK => ?_); go_simp
    refine h1.k_alloc (fun w2 h2 => ?_)
    refine hK _ _ ?_; clear hK K
    refine wpList_nil ?_
    show Code.wp _ _ _ _ _
    refine wp_seq ?_
    refine wp_seq ?_
    refine wp_region_lit ?_
    have c_0_0 := h2.cell 0 rfl 0 rfl
    iterate 3 (refine wpList_plain rfl (fun K hK => ?_); go_simp; refine hK _ _ ?_; clear hK K)
    clear c_0_0
    refine wpList_nil ?_
    show Code.wp _ _ _ _ _
    -- stops at: cond
    refine wp_cond_true (rfl) ?_
    refine wp_seq ?_
    refine wp_region_lit ?_
    have c_0_0 := h2.cell 0 rfl 0 rfl
    iterate 1 (refine wpList_plain rfl (fun K hK => ?_); go_simp; refine hK _ _ ?_; clear hK K)
    clear c_0_0
    have c_0 := h2.cell 1 rfl 0 rfl
    have f_0 := h2.free 1 rfl 0
    refine wpList_plain rfl (fun K hK => ?_); go_simp
    clear c_0 f_0
    refine h2.k_set 1 rfl (fun w3 h3 => ?_)
    refine hK _ _ ?_; clear hK K
    refine wpList_nil ?_
    show Code.wp _ _ _ _ _
    -- stops at: ret
    refine wp_ret ?_
    have r_1_0 := h3.cell 1 rfl 0 rfl
    first | show bodyPost _ _ _ _ _ _ | (simp only [Exit.then]; show bodyPost _ _ _ _ _ _) | (simp only [Exit.inBlock]; show bodyPost _ _ _ _ _ _) | (simp only [Exit.inBlock, Exit.then]; show bodyPost _ _ _ _ _ _) | (simp only [Exit.noGoto, Exit.inBlock, Exit.then]; show bodyPost _ _ _ _ _ _)
    refine bodyPost_ret (v := ?_) ?_ rfl ?_
    rotate_left
    · simp only [results, Tryz.results45]; go_simp; with_reducible rfl
    clear r_1_0
    exact ⟨_, rfl, h3.post.keep, .nil⟩
  | @cons b v p vs hb r =>
    go_enter Tryz.func45, Tryz.ntmps45
    have h0 := St.start hpre
    refine wp_seq ?_
    refine wp_region_lit ?_
    refine wpList_plain rfl (fun K hK => ?_); go_simp
    refine h0.k_alloc (fun w1 h1 => ?_)
    refine hK _ _ ?_; clear hK K
    refine wpList_plain rfl (fun K hK => ?_); go_simp
    refine h1.k_alloc (fun w2 h2 => ?_)
    refine hK _ _ ?_; clear hK K
    refine wpList_nil ?_
    show Code.wp _ _ _ _ _
    refine wp_seq ?_
    refine wp_seq ?_
    refine wp_region_lit ?_
    have c_0_0 := h2.cell 0 rfl 0 rfl
    iterate 3 (refine wpList_plain rfl (fun K hK => ?_); go_simp; refine hK _ _ ?_; clear hK K)
    clear c_0_0
    refine wpList_nil ?_
    show Code.wp _ _ _ _ _
    -- stops at: cond
    refine wp_cond_false (rfl) ?_
    refine wp_skip ?_
    show Code.wp _ _ _ _ _
    refine wp_seq ?_
    refine wp_region_lit ?_
    have c_0_0 := h2.cell 0 rfl 0 rfl
    have c_hb_1 := h2.gh hb 1 rfl
    iterate 6 (refine wpList_plain rfl (fun K hK => ?_); go_simp; refine hK _ _ ?_; clear hK K)
    clear c_0_0 c_hb_1
    have c_0 := h2.cell 1 rfl 0 rfl
    have f_0 := h2.free 1 rfl 0
    refine wpList_plain rfl (fun K hK => ?_); go_simp
    clear c_0 f_0
    refine h2.k_set 1 rfl (fun w3 h3 => ?_)
    refine hK _ _ ?_; clear hK K
    refine wpList_nil ?_
    show Code.wp _ _ _ _ _
    -- stops at: ret
    refine wp_ret ?_
    have r_1_0 := h3.cell 1 rfl 0 rfl
    first | show bodyPost _ _ _ _ _ _ | (simp only [Exit.then]; show bodyPost _ _ _ _ _ _) | (simp only [Exit.inBlock]; show bodyPost _ _ _ _ _ _) | (simp only [Exit.inBlock, Exit.then]; show bodyPost _ _ _ _ _ _) | (simp only [Exit.noGoto, Exit.inBlock, Exit.then]; show bodyPost _ _ _ _ _ _)
    refine bodyPost_ret (v := ?_) ?_ rfl ?_
    rotate_left
    · simp only [results, Tryz.results45]; go_simp; with_reducible rfl
    clear r_1_0
    exact ⟨_, rfl, h3.post.keep, r⟩

set_option maxRecDepth 100000 in
set_option maxHeartbeats 400000 in
theorem push_ok (H : GH) (w : World) (p : Option Addr) (vs : List Value) (v : Option Addr) (hn : vs.length < 1000000) (hf : Fits w H) (hr : ConsRep 133 H p vs) :
    Calls Tryz.prog 48 #[.agg #[.pointer p], Value.pointer v] w fun e w' => ∃ q H', e = .returned (.agg #[.pointer q]) ∧ Post w H none w' H' 0 0 ∧ ConsRep 133 H' q (Value.pointer v :: vs) := by
  have hpre : Pre w H none 0 0 := Pre.none hf 0 0
  have e1 : IntKind.i64.wrap (↑vs.length + 1) = (vs.length : Int) + 1 := IntWalk.i64_in _ (by omega)
  go_enter Tryz.func48, Tryz.ntmps48
  have h0 := St.start hpre
  refine wp_seq ?_
  refine wp_region_lit ?_
  refine wpList_plain rfl (fun K hK => ?_); go_simp
  refine h0.k_alloc (fun w1 h1 => ?_)
  refine hK _ _ ?_; clear hK K
  refine wpList_plain rfl (fun K hK => ?_); go_simp
  refine h1.k_alloc (fun w2 h2 => ?_)
  refine hK _ _ ?_; clear hK K
  refine wpList_nil ?_
  show Code.wp _ _ _ _ _
  refine wp_seq ?_
  refine h2.region [0] [(0, true), (1, true), (2, true), (3, true), (4, false), (5, true), (6, true), (7, false), (8, true), (9, false)] (by kernel_rfl) (by kernel_rfl) (fun w3 h3 => ?_)
  simp only [ordOps, List.map_cons, List.map_nil, List.getD_cons_zero, List.getD_cons_succ]
  iterate 4 (refine wpOrd_quiet (v := ?_) rfl (fun _ _ _ h => h) ?_ ?_; rotate_left; (intro w' hS; have c_0_0 := hS.cell 0 rfl 0 rfl; (first | (go_simp; done) | (go_simp; with_reducible rfl))); simp only [Act.put, List.setIfInBounds_toArray, List.set_cons_zero, List.set_cons_succ])
  -- stops at: eff:call (Go.Op.call {'callee': (Go.Callee.value (Go.Operand.func 76)), 'args': [(Go.Operand.tmp 8)], 'argTypes': [71]}) slot 9
  refine wpOrd_eff rfl (fun K hK => ?_); go_simp
  refine (len_ok H _ _ vs h3.fits hr).mono ?_
  rintro e w9 ⟨rfl, hk9⟩
  have h4 := h3.callk hk9
  refine hK _ _ (h4.sat' (GH.le_refl _) [0] (by kernel_rfl)) ?_; clear hK K
  iterate 2 (refine wpOrd_quiet (v := ?_) rfl (fun _ _ _ h => h) ?_ ?_; rotate_left; (intro w' hS; (first | (go_simp; done) | (go_simp; with_reducible rfl))); simp only [Act.put, List.setIfInBounds_toArray, List.set_cons_zero, List.set_cons_succ])
  refine wpOrd_eff rfl (fun K hK => ?_); go_simp
  refine h4.k_alloc (fun w5 h5 => ?_)
  refine hK _ _ (h5.sat' (GH.le_refl _) [0] (by kernel_rfl)) ?_; clear hK K
  iterate 1 (refine wpOrd_quiet (v := ?_) rfl (fun _ _ _ h => h) ?_ ?_; rotate_left; (intro w' hS; (first | (go_simp; done) | (go_simp; with_reducible rfl))); simp only [Act.put, List.setIfInBounds_toArray, List.set_cons_zero, List.set_cons_succ])
  have c_0 := h5.cell 1 rfl 0 rfl
  have f_0 := h5.free 1 rfl 0
  refine wpOrd_eff rfl (fun K hK => ?_); go_simp
  clear c_0 f_0
  refine h5.k_set 1 rfl (fun w6 h6 => ?_)
  refine hK _ _ (h6.sat' (GH.le_refl _) [0] (by kernel_rfl)) ?_; clear hK K
  refine wpOrd_nil ?_
  show Code.wp _ _ _ _ _
  -- stops at: ret
  refine wp_ret ?_
  have r_1_0 := h6.cell 1 rfl 0 rfl
  first | show bodyPost _ _ _ _ _ _ | (simp only [Exit.then]; show bodyPost _ _ _ _ _ _) | (simp only [Exit.inBlock]; show bodyPost _ _ _ _ _ _) | (simp only [Exit.inBlock, Exit.then]; show bodyPost _ _ _ _ _ _) | (simp only [Exit.noGoto, Exit.inBlock, Exit.then]; show bodyPost _ _ _ _ _ _)
  refine bodyPost_ret (v := ?_) ?_ rfl ?_
  rotate_left
  · simp only [results, Tryz.results48]; go_simp; with_reducible rfl
  clear r_1_0
  have h99 := h6.settle 2 rfl
  exact ⟨_, _, rfl, h99.post, .cons (GH.add_self _ _ _) (hr.mono h99.le)⟩

set_option maxRecDepth 100000 in
set_option maxHeartbeats 400000 in
theorem drop_ok (H : GH) (w : World) (p : Option Addr) (vs : List Value) (n : Int) (hn : Hid (n ≤ 9223372036854775807)) (hf : Fits w H) (hr : ConsRep 133 H p vs) :
    Calls Tryz.prog 47 #[.agg #[.pointer p], .int .i64 n] w fun e w' => ∃ q, e = .returned (.agg #[.pointer q]) ∧ Keep none w w' ∧ ConsRep 133 H q (vs.drop n.toNat) := by
  have hpre : Pre w H none 0 0 := Pre.none hf 0 0
  go_enter Tryz.func47, Tryz.ntmps47
  have h0 := St.start hpre
  refine wp_seq ?_
  refine wp_region_lit ?_
  refine wpList_plain rfl (fun K hK => ?_); go_simp
  refine h0.k_alloc (fun w1 h1 => ?_)
  refine hK _ _ ?_; clear hK K
  refine wpList_plain rfl (fun K hK => ?_); go_simp
  refine h1.k_alloc (fun w2 h2 => ?_)
  refine hK _ _ ?_; clear hK K
  refine wpList_nil ?_
  show Code.wp _ _ _ _ _
  refine wp_seq ?_
  refine wp_block ?_
  -- stops at: loop
  go_loopw [1] (fun v1 wr => ∃ (k : Nat) (q : Option Addr), (k : Int) ≤ max n 0 ∧ k ≤ vs.length ∧ v1 = .int .i64 (n - k) ∧ St w H none 0 0 wr H [(w.heap.size, .cells #[.pointer q] 71), (w1.heap.size, .cells #[.pointer none] 71)] [] ∧ ConsRep 133 H q (vs.drop k)) (fun v1 _ => (intOf v1).toNat)
  case atStart => exact ⟨0, p, by omega, by omega, by simp, h2, by simpa using hr⟩
  case round =>
    obtain ⟨k, q, hk1, hk2, rfl, hs, hq⟩ := hrel
    have hp := hs.pre0
    obtain ⟨ds, hd⟩ : ∃ ds, Hid (vs.drop k = ds) := ⟨_, rfl⟩
    rw [hd.out] at hq
    by_cases hlt : (k : Int) < n
    · cases hq with
      | nil =>
        refine wp_seq ?_
        refine wp_seq ?_
        refine wp_region_lit ?_
        iterate 3 (refine wpList_plain rfl (fun K hK => ?_); go_simp; refine hK _ _ ?_; clear hK K)
        have c_0_0 := hs.cell 0 rfl 0 rfl
        first | go_skip | (iterate 3 (refine wpList_step (o := { dst := _, op := _, type := _, pos := _, after := _, guard := some (2, true) }) (fun K hK => ?_); go_simp; refine hK _ _ ?_; clear hK K)) | skip
        clear c_0_0
        iterate 1 (refine wpList_plain rfl (fun K hK => ?_); go_simp; refine hK _ _ ?_; clear hK K)
        refine wpList_nil ?_
        show Code.wp _ _ _ _ _
        -- stops at: cond
        refine wp_cond_false (rfl) ?_
        refine wp_exit ?_
        show Code.wp _ _ _ _ _
        refine wp_seq ?_
        refine wp_region_lit ?_
        have c_0_0 := hs.cell 0 rfl 0 rfl
        iterate 1 (refine wpList_plain rfl (fun K hK => ?_); go_simp; refine hK _ _ ?_; clear hK K)
        clear c_0_0
        have c_0 := hs.cell 1 rfl 0 rfl
        have f_0 := hs.free 1 rfl 0
        refine wpList_plain rfl (fun K hK => ?_); go_simp
        clear c_0 f_0
        refine hs.k_set 1 rfl (fun w3 h3 => ?_)
        refine hK _ _ ?_; clear hK K
        refine wpList_nil ?_
        show Code.wp _ _ _ _ _
        -- stops at: ret
        refine wp_ret ?_
        have r_1_0 := h3.cell 1 rfl 0 rfl
        first | show bodyPost _ _ _ _ _ _ | (simp only [Exit.then]; show bodyPost _ _ _ _ _ _) | (simp only [Exit.inBlock]; show bodyPost _ _ _ _ _ _) | (simp only [Exit.inBlock, Exit.then]; show bodyPost _ _ _ _ _ _) | (simp only [Exit.noGoto, Exit.inBlock, Exit.then]; show bodyPost _ _ _ _ _ _)
        refine bodyPost_ret (v := ?_) ?_ rfl ?_
        rotate_left
        · simp only [results, Tryz.results47]; go_simp; with_reducible rfl
        clear r_1_0
        refine ⟨_, rfl, h3.post.keep, ?_⟩
        rw [show vs.drop n.toNat = [] from List.drop_eq_nil_of_le (by have := congrArg List.length hd.out; simp at this; omega)]
        exact .nil
      | @cons b v q' vs' hb r =>
        have e1 : IntKind.i64.wrap (n - ↑k - 1) = n - ↑k - 1 := IntWalk.i64_in _ (by have := hn.out; omega)
        refine wp_seq ?_
        refine wp_seq ?_
        refine wp_region_lit ?_
        iterate 3 (refine wpList_plain rfl (fun K hK => ?_); go_simp; refine hK _ _ ?_; clear hK K)
        have c_0_0 := hs.cell 0 rfl 0 rfl
        first | go_skip | (iterate 3 (refine wpList_step (o := { dst := _, op := _, type := _, pos := _, after := _, guard := some (2, true) }) (fun K hK => ?_); go_simp; refine hK _ _ ?_; clear hK K)) | skip
        clear c_0_0
        iterate 1 (refine wpList_plain rfl (fun K hK => ?_); go_simp; refine hK _ _ ?_; clear hK K)
        refine wpList_nil ?_
        show Code.wp _ _ _ _ _
        -- stops at: cond
        refine wp_cond_true (rfl) ?_
        refine wp_skip ?_
        show Code.wp _ _ _ _ _
        refine wp_seq ?_
        refine wp_block ?_
        refine wp_region_lit ?_
        have c_0_0 := hs.cell 0 rfl 0 rfl
        iterate 1 (refine wpList_plain rfl (fun K hK => ?_); go_simp; refine hK _ _ ?_; clear hK K)
        clear c_0_0
        -- stops at: eff:call (Go.Op.call {'callee': (Go.Callee.value (Go.Operand.func 45)), 'args': [(Go.Operand.tmp 14)], 'argTypes': [71]}) slot 15
        refine wpList_plain rfl (fun K hK => ?_); go_simp
        refine (rest_ok H _ _ (v :: vs') hs.fits (.cons hb r)).mono ?_
        rintro e w9 ⟨q2, rfl, hk9, hq2⟩
        have h4 := hs.callk hk9
        refine hK _ _ ?_; clear hK K
        have c_0 := h4.cell 0 rfl 0 rfl
        have f_0 := h4.free 0 rfl 0
        refine wpList_plain rfl (fun K hK => ?_); go_simp
        clear c_0 f_0
        refine h4.k_set 0 rfl (fun w5 h5 => ?_)
        refine hK _ _ ?_; clear hK K
        refine wpList_nil ?_
        show Code.wp _ _ _ _ _
        refine wp_region_lit ?_
        iterate 3 (refine wpList_plain rfl (fun K hK => ?_); go_simp; refine hK _ _ ?_; clear hK K)
        refine wpList_nil ?_
        -- stops at: end ('roundend',)
        show _ ∧ _
        go_roundw
        case rel =>
          have hl := congrArg List.length hd.out
          simp at hl
          refine ⟨k + 1, q2, by omega, by omega, ?_, h5, ?_⟩
          · rw [show n - ((k + 1 : Nat) : Int) = n - k - 1 by omega]
          · have e := congrArg List.tail hd.out
            simp at e
            rw [e]; exact hq2
        case measure => simp [intOf]; omega
    · skip
      refine wp_seq ?_
      refine wp_seq ?_
      refine wp_region_lit ?_
      iterate 3 (refine wpList_plain rfl (fun K hK => ?_); go_simp; refine hK _ _ ?_; clear hK K)
      have c_0_0 := hs.cell 0 rfl 0 rfl
      first | go_skip | (iterate 3 (refine wpList_step (o := { dst := _, op := _, type := _, pos := _, after := _, guard := some (2, true) }) (fun K hK => ?_); go_simp; refine hK _ _ ?_; clear hK K)) | skip
      clear c_0_0
      iterate 1 (refine wpList_plain rfl (fun K hK => ?_); go_simp; refine hK _ _ ?_; clear hK K)
      refine wpList_nil ?_
      show Code.wp _ _ _ _ _
      -- stops at: cond
      refine wp_cond_false (rfl) ?_
      refine wp_exit ?_
      show Code.wp _ _ _ _ _
      refine wp_seq ?_
      refine wp_region_lit ?_
      have c_0_0 := hs.cell 0 rfl 0 rfl
      iterate 1 (refine wpList_plain rfl (fun K hK => ?_); go_simp; refine hK _ _ ?_; clear hK K)
      clear c_0_0
      have c_0 := hs.cell 1 rfl 0 rfl
      have f_0 := hs.free 1 rfl 0
      refine wpList_plain rfl (fun K hK => ?_); go_simp
      clear c_0 f_0
      refine hs.k_set 1 rfl (fun w6 h6 => ?_)
      refine hK _ _ ?_; clear hK K
      refine wpList_nil ?_
      show Code.wp _ _ _ _ _
      -- stops at: ret
      refine wp_ret ?_
      have r_1_0 := h6.cell 1 rfl 0 rfl
      first | show bodyPost _ _ _ _ _ _ | (simp only [Exit.then]; show bodyPost _ _ _ _ _ _) | (simp only [Exit.inBlock]; show bodyPost _ _ _ _ _ _) | (simp only [Exit.inBlock, Exit.then]; show bodyPost _ _ _ _ _ _) | (simp only [Exit.noGoto, Exit.inBlock, Exit.then]; show bodyPost _ _ _ _ _ _)
      refine bodyPost_ret (v := ?_) ?_ rfl ?_
      rotate_left
      · simp only [results, Tryz.results47]; go_simp; with_reducible rfl
      clear r_1_0
      refine ⟨_, rfl, h6.post.keep, ?_⟩
      rw [show n.toNat = k by omega, hd.out]
      exact hq

set_option maxRecDepth 100000 in
set_option maxHeartbeats 1000000 in
theorem each1_in (n : Nat) (hn : 1 ≤ n) (l Bn : Nat) (H : GH) (p0 : Option Addr) (xs : List (Option Addr)) (J Jx : List (Option Addr) → World → Prop)
    (hY : ∀ pre x W, J pre W → pre.length < xs.length → YieldAt Fence.wide (n - 1) Tryz.prog l #[Value.pointer x] W fun e W' =>
      (e = .returned (.bool true) ∧ J (pre ++ [x]) W' ∧ KeepsH H W W') ∨ (e = .returned (.bool false) ∧ Jx (pre ++ [x]) W'))
    (W : World) (hBn : W.cell? ⟨Bn, 0, none⟩ = some (.pointer p0)) (hf : Fits W H) (hL : ConsRep 133 H p0 (xs.map Value.pointer)) (h0 : J [] W) :
    CallsIn Fence.wide n Tryz.prog 98 #[.func (.yield l) #[] #[], .pointer (some ⟨Bn, 0, none⟩)] W fun e W' => (∃ v, e = .returned v) ∧
      ((∃ ys, ys = xs ∧ J ys W') ∨ (∃ pre, pre <+: xs ∧ Jx pre W')) := by
  refine callsIn_of_wp Tryz.func98 rfl trivial ?_ rfl
  simp only [Tryz.ntmps98, List.size_toArray, List.length_cons, List.length_nil, Nat.reduceAdd, Nat.reduceSub, Array.replicate_succ, Array.replicate_zero, List.push_toArray, List.append_toArray, List.nil_append, List.cons_append]
  gi_wp2
  gi_loopw [3] (fun p wr => ∃ (pre rest : List (Option Addr)) (q : Option Addr), p = .pointer q ∧ Hid (xs = pre ++ rest) ∧ ConsRep 133 H q (rest.map Value.pointer) ∧ Fits wr H ∧ J pre wr)
    (fun p _ => consLeft 133 H p)
  case atStart =>
    exact ⟨[], xs, p0, rfl, rfl, hL, hf, h0⟩
  case round =>
    obtain ⟨pre, rest, q, rfl, hx, hl, hfr, hJs⟩ := hrel
    cases rest with
    | nil =>
      obtain rfl : q = none := by cases hl; rfl
      gi_wp2
      go_end0
      exact ⟨⟨_, rfl⟩, .inl ⟨pre, by have := hx.out; simp at this; exact this.symm, hJs⟩⟩
    | cons x rest =>
      have hl' := hl
      cases hl with
      | @cons b _ q' _ hb hr =>
      have hv : wr.cell? ⟨b, 0, none⟩ = some (Value.pointer x) := by rw [blk_cell (hfr _ _ hb)]; rfl
      obtain ⟨fn, tmps, assign, body, hy, hR⟩ := hY pre x wr hJs (by rw [hx.out]; simp)
      gi_wp2
      refine hR.mono ?_
      rintro e W3 (⟨rfl, hJ3, hk3⟩ | ⟨rfl, hJx3⟩)
      · have hq3 : W3.cell? ⟨b, 1, none⟩ = some (.pointer q') := by rw [blk_cell (hk3 hfr _ _ hb)]; rfl
        gi_wp2
        go_roundw
        case rel => exact ⟨pre ++ [x], rest, q', rfl, by have := hx.out; show xs = _; simp [this], hr, hk3 hfr, hJ3⟩
        case measure =>
          have e1 := consLeft_eq hr
          have e2 := consLeft_eq hl'
          simp only [List.map_cons, List.length_cons] at e2
          simp
          rw [e1, e2]
          simp
      · gi_wp2
        refine bodyPost_ret (results_none rfl _ _ _) rfl ?_
        exact ⟨⟨_, rfl⟩, .inr ⟨pre ++ [x], ⟨rest, by have := hx.out; simp [this]⟩, hJx3⟩⟩

set_option maxRecDepth 100000 in
set_option maxHeartbeats 400000 in
theorem each_ok (H : GH) (w : World) (p : Option Addr) (hf : Fits w H) :
    Calls Tryz.prog 82 #[.agg #[.pointer p]] w fun e w' => ∃ b, e = .returned (.func (.func 98) #[] #[.pointer (some ⟨b, 0, none⟩)]) ∧ Keep none w w' ∧ w.heap.size ≤ b ∧ w'.heap[b]? = some (.cells #[.pointer p] 71) := by
  have hpre : Pre w H none 0 0 := Pre.none hf 0 0
  go_enter Tryz.func82, Tryz.ntmps82
  have h0 := St.start hpre
  refine wp_seq ?_
  refine wp_region_lit ?_
  refine wpList_plain rfl (fun K hK => ?_); go_simp
  refine h0.k_alloc (fun w1 h1 => ?_)
  refine hK _ _ ?_; clear hK K
  iterate 1 (refine wpList_plain rfl (fun K hK => ?_); go_simp; refine hK _ _ ?_; clear hK K)
  refine wpList_nil ?_
  show Code.wp _ _ _ _ _
  refine wp_seq ?_
  refine wp_region_lit ?_
  iterate 2 (refine wpList_plain rfl (fun K hK => ?_); go_simp; refine hK _ _ ?_; clear hK K)
  refine wpList_nil ?_
  show Code.wp _ _ _ _ _
  -- stops at: ret
  refine wp_ret ?_
  go_ret
  exact ⟨_, rfl, h1.post.keep, Nat.le_refl _, h1.at (i := 0) rfl⟩

theorem einfo : ElemInfo Tryz.prog 107 94 (.pointer none) 1 8 :=
  ⟨Tryz.underlying107, info_parts (by kernel_rfl), rfl, by decide⟩

/-- A loop over such a list: one walk of its assignment and one of its body. -/
theorem range_cons {Q : Exit → Act → World → Prop} {a : Act} {w : World} {g : Operand} {t : Tmp} {assign body : Code} (H : GH) (p0 : Option Addr) (xs : List (Option Addr)) (Bn : Nat)
    (hg : a.eval g = .func (.func 98) #[] #[.pointer (some ⟨Bn, 0, none⟩)]) (hB : w.heap[Bn]? = some (.cells #[.pointer p0] 71)) (hf : Fits w H) (hL : ConsRep 133 H p0 (xs.map Value.pointer))
    (I : List (Option Addr) → World → Prop) (hI : OwnFrom w.heap.size I) (h0 : I [] w) (a1 : Option Addr → Act)
    (hassign : ∀ (l : Nat) (x : Option Addr) (W : World) (K : Act → World → Prop), K (a1 x) W →
      assign.wpIn (Fence.wide.inRound l) 7 Tryz.prog (Exit.then K (fun _ _ _ => False)) { tmps := a.tmps.setIfInBounds t (Value.pointer x), defers := [] } W)
    (hbody : ∀ (l : Nat) (pre : List (Option Addr)) (x : Option Addr) (W : World), pre.length < xs.length → I pre W → body.wpIn (Fence.wide.inRound l) 7 Tryz.prog (ownPostG w.heap.size (KeepsH H) I (fun _ _ _ => False) (pre ++ [x]) W) (a1 x) W)
    (hdone : ∀ (D : Nat) (W : World), w.heap.size ≤ D → I xs W → W.heap[D]? = some (.deferred (some [])) → Q .normal { a with defers := { target := .collected D, args := #[] } :: a.defers } W) :
    (Code.rangeFunc g #[t] assign body).wp Tryz.prog Q a w := by
  refine (wpIn_wide (n := 9)).1 ?_
  refine wpIn_rangeFunc_ownH rfl (by omega) hg trivial (enters_of Tryz.func98 (by kernel_rfl) rfl) (encs := fun x => #[Value.pointer x]) (Kp := KeepsH H) (S := fun ys => ys = xs) (Sp := fun pre => pre <+: xs) (N := xs.length) (w0 := w) ?_
    (fun h k x => k (h x)) ?_ (Below.refl _ _) (fun _ => rfl) I (fun _ _ _ => False) hI (fun _ _ _ _ _ hs _ _ => hs) h0 (fun x a' _ => a' = a1 x) (fun _ _ _ _ _ _ hs _ _ => hs) (fun l pre x W K hi hK => ?_) (fun l pre x a' W _ _ hi hx hlt => hx ▸ hbody l pre x W hlt hi) (fun D ys W hD hS hi hK => hdone D W hD (hS ▸ hi) hK) (fun D c pre W _ _ h _ => h.elim)
  · intro l J Jx W hW _ _ hY h0
    exact each1_in 8 (by omega) l Bn H p0 xs J Jx hY W (by rw [hW.cell (p := ⟨Bn, 0, none⟩) (blk_lt hB), blk_cell hB]; rfl) (fun b o e => by rw [hW.block b (hf.lt e)]; exact hf b o e) hL h0
  · intro W l o o' hl hlo _ _ hF b ob e
    have hb := hf.lt e
    rw [World.putObj_heap_other (by omega)]
    exact hF b ob e
  · have e : (#[t].zip #[Value.pointer x]).foldl (fun t (p, v) => t.setIfInBounds p v) a.tmps = a.tmps.setIfInBounds t (Value.pointer x) := by simp
    rw [e]
    exact hassign l x W K (hK _ _ (KeepsFrom.refl _ _) (fun h => h) hi rfl)

set_option maxRecDepth 100000 in
set_option maxHeartbeats 1000000 in
theorem all_ok (H : GH) (w : World) (p : Option Addr) (xs : List (Option Addr)) (hn : xs.length < 1000000) (hf : Fits w H) (hL : ConsRep 133 H p (xs.map Value.pointer)) :
    Calls Tryz.prog 54 #[.agg #[.pointer p]] w fun e w' => ∃ v, e = .returned v ∧ St w H none 0 0 w' H [] [⟨v, 94, 1, xs.length, xs.map Value.pointer⟩] := by
  have hpre : Pre w H none 0 0 := Pre.none hf 0 0
  refine (callsIn_wide (n := 9)).1 ?_
  refine callsIn_of_wp_marks Tryz.func54 rfl trivial ?_ rfl
  simp only [Tryz.ntmps54, List.size_toArray, List.length_cons, List.length_nil, Nat.reduceAdd, Nat.reduceSub, Array.replicate_succ, Array.replicate_zero, List.push_toArray, List.append_toArray, List.nil_append, List.cons_append]
  refine wpIn_wide.2 ?_
  have h0 := St.start hpre
  refine wp_seq ?_
  refine wp_region_lit ?_
  refine wpList_plain rfl (fun K hK => ?_); go_simp
  refine h0.k_alloc (fun w1 h1 => ?_)
  refine hK _ _ ?_; clear hK K
  iterate 1 (refine wpList_plain rfl (fun K hK => ?_); go_simp; refine hK _ _ ?_; clear hK K)
  refine wpList_nil ?_
  show Code.wp _ _ _ _ _
  refine wp_seq ?_
  refine wp_region_lit ?_
  refine wpList_plain rfl (fun K hK => ?_); go_simp
  refine h1.k_alloc (fun w2 h2 => ?_)
  refine hK _ _ ?_; clear hK K
  refine wpList_nil ?_
  show Code.wp _ _ _ _ _
  refine wp_seq ?_
  refine wp_seq ?_
  refine wp_region_lit ?_
  have c_0_0 := h2.cell 0 rfl 0 rfl
  iterate 1 (refine wpList_plain rfl (fun K hK => ?_); go_simp; refine hK _ _ ?_; clear hK K)
  clear c_0_0
  -- stops at: eff:call (Go.Op.call {'callee': (Go.Callee.value (Go.Operand.func 82)), 'args': [(Go.Operand.tmp 5)], 'argTypes': [71]}) slot 6
  refine wpList_plain rfl (fun K hK => ?_); go_simp
  refine (each_ok H _ _ h2.fits).mono ?_
  rintro e wA ⟨bA, rfl, hkA, hbA, hoA⟩
  have hA := h2.callnew hkA hbA hoA rfl
  refine hK _ _ ?_; clear hK K
  refine wpList_nil ?_
  show Code.wp _ _ _ _ _
  refine wp_block ?_
  -- stops at: rangeFunc
  have hH : ∀ b o, H b = some o → b < wA.heap.size := fun b o e => hA.fits.lt e
  refine range_cons H p xs bA rfl (hA.at (i := 2) rfl) hA.fits hL (fun pre W => ∃ v, St w H none 0 0 W H [(w.heap.size, .cells #[.pointer p] 71), (w1.heap.size, .cells #[v] 107), (bA, .cells #[.pointer p] 71)] [⟨v, 94, 1, pre.length, pre.map Value.pointer⟩])
    (fun s A B row ⟨v, hs⟩ hg hr => ⟨v, hs.grown hg hr hA.keep.size hH⟩) ⟨_, hA.row0 _ _⟩
    (fun x => { tmps := #[.agg #[.pointer p], .pointer (some ⟨w.heap.size, 0, none⟩), .slice none 0 0, .pointer (some ⟨w1.heap.size, 0, none⟩), Value.pointer x, .agg #[.pointer p], .func (.func 98) #[] #[.pointer (some ⟨bA, 0, none⟩)], Value.pointer x, undef, undef, undef, undef, undef], defers := [] })
    (fun l x W K hK => ?_) (fun l pre x W hlt hi => ?_) (fun D W hD hi hK => ?_)
  · simp only [List.setIfInBounds_toArray, List.set_cons_zero, List.set_cons_succ]
    gi_wp2
    exact hK
  · obtain ⟨v, hi⟩ := hi
    refine wpIn_block ?_
    refine wpIn_region_lit ?_
    have c_1_0 := hi.cell 1 rfl 0 rfl
    iterate 2 (refine wpListIn_plain rfl (fun K hK => ?_); go_simp; refine hK _ _ ?_; clear hK K)
    clear c_1_0
    refine wpListIn_plain rfl (fun K hK => ?_); go_simp
    refine hi.k_alloc' (fun w3 h3 o3 => ?_)
    refine hK _ _ ?_; clear hK K
    -- stops at: eff:Builtin.append (Go.Op.call {'callee': (Go.Callee.builtin Go.Builtin.append), 'args': [(Go.Operand.tmp 8), (Go.Operand.tmp 10)], 'argTypes': [107, 107]}) slot 11
    refine wpListIn_plain rfl (fun K hK => ?_)
    refine h3.opIn_append 0 rfl rfl einfo rfl [Value.pointer x] rfl rfl (fun j u hj => ?_) (by simp [Value.oneCell']) (by omega) (by unfold maxLen; omega) (fun v' wB hB oB hnB => ?_)
    · match j, hj with
      | 0, hj => exact h3.cell 3 rfl 0 hj
    obtain ⟨g', cap', rfl⟩ := hB.row_some 0 rfl (by omega)
    refine hK _ _ ?_; clear hK K
    have c_0 := hB.cell 1 rfl 0 rfl
    have f_0 := hB.free 1 rfl 0
    refine wpListIn_plain rfl (fun K hK => ?_); go_simp
    clear c_0 f_0
    refine hB.k_set' 1 rfl (fun w4 h4 o4 => ?_)
    refine hK _ _ ?_; clear hK K
    refine wpListIn_nil ?_
    -- stops at: end ('bodyend',)
    refine ⟨((o3.trans oB).trans o4).from _, fun _ => h4.fits, .slice (some ⟨g', 0, none⟩) (pre.length + 1) cap', ?_⟩
    rw [show (pre ++ [x]).length = pre.length + 1 by simp, show (pre ++ [x]).map Value.pointer = pre.map Value.pointer ++ [Value.pointer x] by simp]
    exact h4.take 3
  · obtain ⟨v, hi⟩ := hi
    show Code.wp _ _ _ _ _
    refine wp_seq ?_
    refine wp_region_lit ?_
    have c_1_0 := hi.cell 1 rfl 0 rfl
    iterate 2 (refine wpList_plain rfl (fun K hK => ?_); go_simp; refine hK _ _ ?_; clear hK K)
    clear c_1_0
    refine wpList_nil ?_
    show Code.wp _ _ _ _ _
    -- stops at: ret
    refine wp_ret ?_
    refine ⟨by simp, .inl ⟨_, _, rfl, run_takeDeferred hK, ?_⟩⟩
    refine ⟨_, results_tmp rfl _ _ _, ?_⟩
    exact ⟨_, rfl, (hi.grown (grownBy_putObj' W D _) (fun r e => by cases e; exact ⟨hD, _, hK, rfl⟩) hA.keep.size hH).take 0⟩
set_option maxRecDepth 100000 in
set_option maxHeartbeats 1000000 in
theorem of_ok (H : GH) (w : World) (v : Value) (xs : List (Option Addr)) (hn : xs.length < 1000000) (hf : Fits w H) (hr : SliceRep H 1 v xs.length (xs.map Value.pointer)) :
    Calls Tryz.prog 55 #[v] w fun e w' => ∃ q H', e = .returned (.agg #[.pointer q]) ∧ Post w H none w' H' 0 0 ∧ ConsRep 133 H' q (xs.map Value.pointer) := by
  have hpre : Pre w H none 0 0 := Pre.none hf 0 0
  obtain ⟨a, cap, rfl, hc1, hc2⟩ := hr.nil_or
  unfold maxLen at hc2
  have e0 : IntKind.i64.wrap (↑xs.length - 1) = (xs.length : Int) - 1 := IntWalk.i64_in _ (by omega)
  go_enter Tryz.func55, Tryz.ntmps55
  have h0 := St.start hpre
  refine wp_seq ?_
  refine wp_region_lit ?_
  refine wpList_plain rfl (fun K hK => ?_); go_simp
  refine h0.k_alloc (fun w1 h1 => ?_)
  refine hK _ _ ?_; clear hK K
  refine wpList_nil ?_
  show Code.wp _ _ _ _ _
  refine wp_seq ?_
  refine wp_region_lit ?_
  iterate 1 (refine wpList_plain rfl (fun K hK => ?_); go_simp; refine hK _ _ ?_; clear hK K)
  refine wpList_plain rfl (fun K hK => ?_); go_simp
  refine h1.k_alloc (fun w2 h2 => ?_)
  refine hK _ _ ?_; clear hK K
  have c_0 := h2.cell 1 rfl 0 rfl
  have f_0 := h2.free 1 rfl 0
  refine wpList_plain rfl (fun K hK => ?_); go_simp
  clear c_0 f_0
  refine h2.k_set 1 rfl (fun w3 h3 => ?_)
  refine hK _ _ ?_; clear hK K
  refine wpList_nil ?_
  show Code.wp _ _ _ _ _
  refine wp_seq ?_
  refine wp_seq ?_
  refine wp_region_lit ?_
  iterate 4 (refine wpList_plain rfl (fun K hK => ?_); go_simp; refine hK _ _ ?_; clear hK K)
  refine wpList_nil ?_
  show Code.wp _ _ _ _ _
  refine wp_block ?_
  -- stops at: loop
  go_loopw [4] (fun v4 wr => ∃ (k : Nat) (q : Option Addr) (H' : GH), k ≤ xs.length ∧ v4 = .int .i64 ((k : Int) - 1) ∧ St w H none 0 0 wr H' [(w.heap.size, .cells #[.pointer none] 71), (w1.heap.size, .cells #[.pointer q] 71)] [] ∧ ConsRep 133 H' q ((xs.map Value.pointer).drop k)) (fun v4 _ => (intOf v4 + 1).toNat)
  case atStart => exact ⟨xs.length, none, H, by omega, rfl, h3, by rw [List.drop_of_length_le (by simp)]; exact .nil⟩
  case round =>
    obtain ⟨k, q, H1, hk1, rfl, hs, hq⟩ := hrel
    by_cases hk : 0 < k
    · obtain ⟨b, off, cap2, ee, _⟩ := hr.ne_nil (by omega)
      simp only [Value.slice.injEq, true_and] at ee
      obtain ⟨rfl, rfl⟩ := ee
      obtain ⟨j, rfl⟩ : ∃ j, k = j + 1 := ⟨k - 1, by omega⟩
      rw [show ((j + 1 : Nat) : Int) - 1 = (j : Int) by omega] at *
      have hj : j < xs.length := by omega
      have hr1 := hr.mono hs.le
      have e1 : IntKind.i64.wrap ((j : Int) - 1) = (j : Int) - 1 := IntWalk.i64_in _ (by omega)
      have hx : (xs.map Value.pointer)[j]? = some (Value.pointer xs[j]) := by simp [hj]
      refine wp_seq ?_
      refine wp_seq ?_
      refine wp_region_lit ?_
      iterate 2 (refine wpList_plain rfl (fun K hK => ?_); go_simp; refine hK _ _ ?_; clear hK K)
      refine wpList_nil ?_
      show Code.wp _ _ _ _ _
      -- stops at: cond
      refine wp_cond_true (rfl) ?_
      refine wp_skip ?_
      show Code.wp _ _ _ _ _
      refine wp_seq ?_
      refine wp_block ?_
      refine hs.region [] [(1, true), (2, true), (3, true), (4, true), (0, false), (5, false), (6, false)] (by kernel_rfl) (by kernel_rfl) (fun w4 h4 => ?_)
      simp only [ordOps, List.map_cons, List.map_nil, List.getD_cons_zero, List.getD_cons_succ]
      iterate 3 (refine wpOrd_quiet (v := ?_) rfl (fun _ _ _ h => h) ?_ ?_; rotate_left; (intro w' hS; (first | (go_simp; done) | (go_simp; with_reducible rfl))); simp only [Act.put, List.setIfInBounds_toArray, List.set_cons_zero, List.set_cons_succ])
      -- stops at: load (Go.Op.load 94 (Go.Operand.tmp 16)) slot 17
      iterate 1 (refine wpOrd_quiet (v := ?_) rfl (fun _ _ _ h => h) ?_ ?_; rotate_left; (intro w' hS; have ce := hr1.cell hS.1 j hx; (first | (go_simp; done) | (go_simp; with_reducible rfl))); simp only [Act.put, List.setIfInBounds_toArray, List.set_cons_zero, List.set_cons_succ])
      have c_1_0 := h4.cell 1 rfl 0 rfl
      refine wpOrd_eff rfl (fun K hK => ?_); go_simp
      refine hK _ _ (h4.sat' (GH.le_refl _) [] (by kernel_rfl)) ?_; clear hK K
      clear c_1_0
      -- stops at: eff:call (Go.Op.call {'callee': (Go.Callee.value (Go.Operand.func 48)), 'args': [(Go.Operand.tmp 13), (Go.Operand.tmp 17)], 'argTypes': [71, 94]}) slot 18
      refine wpOrd_eff rfl (fun K hK => ?_); go_simp
      refine (push_ok _ _ _ _ _ (by simp; omega) h4.fits hq).mono ?_
      rintro e wA ⟨q2, H2, rfl, hp2, hq2⟩
      have h5 := h4.call0 hp2
      refine hK _ _ (h5.sat' hp2.le [] (by kernel_rfl)) ?_; clear hK K
      have c_0 := h5.cell 1 rfl 0 rfl
      have f_0 := h5.free 1 rfl 0
      refine wpOrd_eff rfl (fun K hK => ?_); go_simp
      clear c_0 f_0
      refine h5.k_set 1 rfl (fun w6 h6 => ?_)
      refine hK _ _ (h6.sat' hp2.le [] (by kernel_rfl)) ?_; clear hK K
      refine wpOrd_nil ?_
      show Code.wp _ _ _ _ _
      refine wp_region_lit ?_
      iterate 3 (refine wpList_plain rfl (fun K hK => ?_); go_simp; refine hK _ _ ?_; clear hK K)
      refine wpList_nil ?_
      -- stops at: end ('roundend',)
      show _ ∧ _
      go_roundw
      case rel =>
        refine ⟨j, q2, H2, by omega, by simp, h6, ?_⟩
        have e3 : (xs.map Value.pointer).drop j = Value.pointer xs[j] :: (xs.map Value.pointer).drop (j + 1) := by rw [List.drop_eq_getElem_cons (by simpa using hj)]; simp
        rw [e3]; exact hq2
      case measure => simp [intOf]
    · obtain rfl : k = 0 := by omega
      refine wp_seq ?_
      refine wp_seq ?_
      refine wp_region_lit ?_
      iterate 2 (refine wpList_plain rfl (fun K hK => ?_); go_simp; refine hK _ _ ?_; clear hK K)
      refine wpList_nil ?_
      show Code.wp _ _ _ _ _
      -- stops at: cond
      refine wp_cond_false (rfl) ?_
      refine wp_exit ?_
      show Code.wp _ _ _ _ _
      refine wp_seq ?_
      refine wp_region_lit ?_
      have c_1_0 := hs.cell 1 rfl 0 rfl
      iterate 1 (refine wpList_plain rfl (fun K hK => ?_); go_simp; refine hK _ _ ?_; clear hK K)
      clear c_1_0
      have c_0 := hs.cell 0 rfl 0 rfl
      have f_0 := hs.free 0 rfl 0
      refine wpList_plain rfl (fun K hK => ?_); go_simp
      clear c_0 f_0
      refine hs.k_set 0 rfl (fun w7 h7 => ?_)
      refine hK _ _ ?_; clear hK K
      refine wpList_nil ?_
      show Code.wp _ _ _ _ _
      -- stops at: ret
      refine wp_ret ?_
      have r_0_0 := h7.cell 0 rfl 0 rfl
      first | show bodyPost _ _ _ _ _ _ | (simp only [Exit.then]; show bodyPost _ _ _ _ _ _) | (simp only [Exit.inBlock]; show bodyPost _ _ _ _ _ _) | (simp only [Exit.inBlock, Exit.then]; show bodyPost _ _ _ _ _ _) | (simp only [Exit.noGoto, Exit.inBlock, Exit.then]; show bodyPost _ _ _ _ _ _)
      refine bodyPost_ret (v := ?_) ?_ rfl ?_
      rotate_left
      · simp only [results, Tryz.results55]; go_simp; with_reducible rfl
      clear r_0_0
      exact ⟨_, _, rfl, h7.post, by simpa using hq⟩
end Go.Proofs.YteigmfkkeofcaaaGreatDoor.CTr
