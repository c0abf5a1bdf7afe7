/-
Skew heaps: the least thing, taking it out.
-/
import Derived.Test.YteigmfkkeofcaaaGreatDoorOjSkew
namespace Go.Proofs.YteigmfkkeofcaaaGreatDoor
open Go Go.RowKit
set_option linter.unusedVariables false

/-- The least thing as a value. -/
def minV (o : Option El) : Value := match o with
  | some x => elV x
  | none => (.agg #[.int .i64 0, .int .i64 0])
set_option maxRecDepth 100000 in
set_option maxHeartbeats 2000000 in
theorem skmin_ok (H : GH) (w : World) (m : Option Nat) (c d : Int) (p : Option Addr) (l : List (Tr El)) (hpre : Pre w H m c d) (hn : Rw.size l < 1000000) (hl : LsR H p l) :
    Calls Tryz.prog 30 #[hV p, mV m] w fun e w' => ∃ H', e = .returned (.tuple #[minV (Rw.min? kf l), .bool (Rw.min? kf l).isSome]) ∧ Post w H m w' H' (c + (l.length - 1 : Nat)) d := by
  obtain ⟨ps, hcons, hrow⟩ := hl
  have hlb : ps.length < 1000000 := by have := hrow.1; have := Rw.length_le l; omega
  cases l with
  | nil =>
    obtain rfl := hrow.nil_of
    go_enter Tryz.func30, Tryz.ntmps30
    have h0 := St.start hpre
    refine wp_seq ?_
    repeat (first | simp only [List.nil_append] at h0 | simp only [List.cons_append] at h0 | simp only [List.set_cons_zero] at h0 | simp only [List.set_cons_succ] at h0 | simp only [List.eraseIdx_zero] at h0 | simp only [List.tail_cons] at h0 | simp only [List.eraseIdx_cons_zero] at h0 | simp only [List.eraseIdx_cons_succ] at h0 | simp only [List.setIfInBounds_toArray] at h0)
    refine wp_region_lit ?_
    refine wpList_plainQ rfl (fun K Q' hK => ?_); go_simp
    refine h0.k_alloc (fun w1 h1 => ?_)
    refine hK _ _ ?_; clear hK K; try clear Q'
    refine wpList_plainQ rfl (fun K Q' hK => ?_); go_simp
    refine h1.k_alloc (fun w2 h2 => ?_)
    refine hK _ _ ?_; clear hK K; try clear Q'
    iterate 1 (refine wpList_plainQ rfl (fun K Q' hK => ?_); go_simp; refine hK _ _ ?_; clear hK K; try clear Q')
    refine wpList_nil ?_
    show Code.wp _ _ _ _ _
    refine wp_seq ?_
    repeat (first | simp only [List.nil_append] at h2 | simp only [List.cons_append] at h2 | simp only [List.set_cons_zero] at h2 | simp only [List.set_cons_succ] at h2 | simp only [List.eraseIdx_zero] at h2 | simp only [List.tail_cons] at h2 | simp only [List.eraseIdx_cons_zero] at h2 | simp only [List.eraseIdx_cons_succ] at h2 | simp only [List.setIfInBounds_toArray] at h2)
    refine wp_region_lit ?_
    have c_0_0 := h2.cell 0 rfl 0 rfl
    iterate 2 (refine wpList_plainQ rfl (fun K Q' hK => ?_); go_simp; refine hK _ _ ?_; clear hK K; try clear Q')
    clear c_0_0
    -- stops at: eff:call (Go.Op.call {'callee': (Go.Callee.value (Go.Operand.func 54)), 'args': [(Go.Operand.tmp 9)], 'argTypes': [71]}) slot 10
    refine wpList_plainQ rfl (fun K Q' hK => ?_); go_simp
    refine (CTr.all_ok H _ p [] hlb h2.fits hcons).mono ?_
    rintro e wB ⟨v, rfl, hpB⟩
    obtain ⟨H5, h55, rA, leA⟩ := (h2.callrow hpB).settleRow 0 rfl
    skip
    obtain ⟨aA, cA, rfl, _, _⟩ := rA.nil_or
    refine hK _ _ ?_; clear hK K; try clear Q'
    iterate 1 (refine wpList_plainQ rfl (fun K Q' hK => ?_); go_simp; refine hK _ _ ?_; clear hK K; try clear Q')
    refine wpList_nil ?_
    show Code.wp _ _ _ _ _
    refine wp_seq ?_
    refine wp_seq ?_
    repeat (first | simp only [List.nil_append] at h55 | simp only [List.cons_append] at h55 | simp only [List.set_cons_zero] at h55 | simp only [List.set_cons_succ] at h55 | simp only [List.eraseIdx_zero] at h55 | simp only [List.tail_cons] at h55 | simp only [List.eraseIdx_cons_zero] at h55 | simp only [List.eraseIdx_cons_succ] at h55 | simp only [List.setIfInBounds_toArray] at h55)
    refine wp_region_lit ?_
    iterate 3 (refine wpList_plainQ rfl (fun K Q' hK => ?_); go_simp; refine hK _ _ ?_; clear hK K; try clear Q')
    refine wpList_nil ?_
    show Code.wp _ _ _ _ _
    -- stops at: cond
    refine wp_cond_true (rfl) ?_
    refine wp_seq ?_
    refine wp_region_lit ?_
    refine wpList_plainQ rfl (fun K Q' hK => ?_); go_simp
    refine h55.k_alloc (fun w4 h4 => ?_)
    refine hK _ _ ?_; clear hK K; try clear Q'
    refine wpList_nil ?_
    show Code.wp _ _ _ _ _
    refine wp_seq ?_
    repeat (first | simp only [List.nil_append] at h4 | simp only [List.cons_append] at h4 | simp only [List.set_cons_zero] at h4 | simp only [List.set_cons_succ] at h4 | simp only [List.eraseIdx_zero] at h4 | simp only [List.tail_cons] at h4 | simp only [List.eraseIdx_cons_zero] at h4 | simp only [List.eraseIdx_cons_succ] at h4 | simp only [List.setIfInBounds_toArray] at h4)
    refine wp_region_lit ?_
    have c_2_0 := h4.cell 2 rfl 0 rfl
    have c_2_1 := h4.cell 2 rfl 1 rfl
    iterate 1 (refine wpList_plainQ rfl (fun K Q' hK => ?_); go_simp; refine hK _ _ ?_; clear hK K; try clear Q')
    clear c_2_0 c_2_1
    have c_0 := h4.cell 1 rfl 0 rfl
    have f_0 := h4.free 1 rfl 0
    have c_1 := h4.cell 1 rfl 1 rfl
    have f_1 := h4.free 1 rfl 1
    refine wpList_plainQ rfl (fun K Q' hK => ?_); go_simp
    clear c_0 f_0 c_1 f_1
    refine (h4.set (i := 1) rfl 0 _).k_set 1 rfl (fun w5 h5 => ?_)
    refine hK _ _ ?_; clear hK K; try clear Q'
    iterate 1 (refine wpList_plainQ rfl (fun K Q' hK => ?_); go_simp; refine hK _ _ ?_; clear hK K; try clear Q')
    refine wpList_nil ?_
    show Code.wp _ _ _ _ _
    -- stops at: ret
    refine wp_ret ?_
    have r_1_0 := h5.cell 1 rfl 0 rfl
    have r_1_1 := h5.cell 1 rfl 1 rfl
    first | show bodyPost _ _ _ _ _ _ | (simp only [Exit.then]; show bodyPost _ _ _ _ _ _) | (simp only [Exit.inBlock]; show bodyPost _ _ _ _ _ _) | (simp only [Exit.inBlock, Exit.then]; show bodyPost _ _ _ _ _ _) | (simp only [Exit.noGoto, Exit.inBlock, Exit.then]; show bodyPost _ _ _ _ _ _)
    refine bodyPost_ret (v := ?_) ?_ rfl ?_
    rotate_left
    · simp only [results, Tryz.results30]; go_simp; with_reducible rfl
    clear r_1_0 r_1_1
    refine ⟨H5, rfl, ?_⟩
    simpa using h5.post
  | cons t0 l0 =>
    obtain ⟨bst, hbst⟩ : ∃ b, Hid (Rw.least kf (t0 :: l0) = b) := ⟨_, show _ = _ from rfl⟩
    obtain ⟨tb, htb⟩ := Rw.minT_some (l := t0 :: l0) (by simp)
    have hmin : Rw.min? kf (t0 :: l0) = some tb.x := by unfold Rw.min? Rw.minT; rw [htb]; rfl
    have hbl : bst < ps.length := by have := hbst.out; have := Rw.least_lt kf (l := t0 :: l0) (by simp); have := hrow.1; omega
    obtain ⟨pb, hpb⟩ : ∃ pb, ps[bst]? = some pb := ⟨ps[bst], by simp⟩
    rw [hbst.out] at htb
    have trb := hrow.2 _ _ _ hpb htb
    have gb : (ps.map Value.pointer)[bst]? = some (.pointer pb) := by simp [hpb]
    obtain ⟨nn, hnn⟩ : ∃ nn, Hid (ps.length = nn) := ⟨_, show _ = _ from rfl⟩
    have d1 : ((nn : Int) == 0) = false := beq_eq_false_iff_ne.2 (by have := hnn.out; omega)
    have hbn : bst < nn := by have := hnn.out; omega
    go_enter Tryz.func30, Tryz.ntmps30
    have h0 := St.start hpre
    refine wp_seq ?_
    repeat (first | simp only [List.nil_append] at h0 | simp only [List.cons_append] at h0 | simp only [List.set_cons_zero] at h0 | simp only [List.set_cons_succ] at h0 | simp only [List.eraseIdx_zero] at h0 | simp only [List.tail_cons] at h0 | simp only [List.eraseIdx_cons_zero] at h0 | simp only [List.eraseIdx_cons_succ] at h0 | simp only [List.setIfInBounds_toArray] at h0)
    refine wp_region_lit ?_
    refine wpList_plainQ rfl (fun K Q' hK => ?_); go_simp
    refine h0.k_alloc (fun w1 h1 => ?_)
    refine hK _ _ ?_; clear hK K; try clear Q'
    refine wpList_plainQ rfl (fun K Q' hK => ?_); go_simp
    refine h1.k_alloc (fun w2 h2 => ?_)
    refine hK _ _ ?_; clear hK K; try clear Q'
    iterate 1 (refine wpList_plainQ rfl (fun K Q' hK => ?_); go_simp; refine hK _ _ ?_; clear hK K; try clear Q')
    refine wpList_nil ?_
    show Code.wp _ _ _ _ _
    refine wp_seq ?_
    repeat (first | simp only [List.nil_append] at h2 | simp only [List.cons_append] at h2 | simp only [List.set_cons_zero] at h2 | simp only [List.set_cons_succ] at h2 | simp only [List.eraseIdx_zero] at h2 | simp only [List.tail_cons] at h2 | simp only [List.eraseIdx_cons_zero] at h2 | simp only [List.eraseIdx_cons_succ] at h2 | simp only [List.setIfInBounds_toArray] at h2)
    refine wp_region_lit ?_
    have c_0_0 := h2.cell 0 rfl 0 rfl
    iterate 2 (refine wpList_plainQ rfl (fun K Q' hK => ?_); go_simp; refine hK _ _ ?_; clear hK K; try clear Q')
    clear c_0_0
    -- stops at: eff:call (Go.Op.call {'callee': (Go.Callee.value (Go.Operand.func 54)), 'args': [(Go.Operand.tmp 9)], 'argTypes': [71]}) slot 10
    refine wpList_plainQ rfl (fun K Q' hK => ?_); go_simp
    refine (CTr.all_ok H _ p ps hlb h2.fits hcons).mono ?_
    rintro e wB ⟨v, rfl, hpB⟩
    obtain ⟨H5, h55, rA, leA⟩ := (h2.callrow hpB).settleRow 0 rfl
    rw [hnn.out] at rA
    obtain ⟨aA, cA, rfl, _, _⟩ := rA.nil_or
    refine hK _ _ ?_; clear hK K; try clear Q'
    iterate 1 (refine wpList_plainQ rfl (fun K Q' hK => ?_); go_simp; refine hK _ _ ?_; clear hK K; try clear Q')
    refine wpList_nil ?_
    show Code.wp _ _ _ _ _
    refine wp_seq ?_
    refine wp_seq ?_
    repeat (first | simp only [List.nil_append] at h55 | simp only [List.cons_append] at h55 | simp only [List.set_cons_zero] at h55 | simp only [List.set_cons_succ] at h55 | simp only [List.eraseIdx_zero] at h55 | simp only [List.tail_cons] at h55 | simp only [List.eraseIdx_cons_zero] at h55 | simp only [List.eraseIdx_cons_succ] at h55 | simp only [List.setIfInBounds_toArray] at h55)
    refine wp_region_lit ?_
    iterate 3 (refine wpList_plainQ rfl (fun K Q' hK => ?_); go_simp; refine hK _ _ ?_; clear hK K; try clear Q')
    refine wpList_nil ?_
    show Code.wp _ _ _ _ _
    -- stops at: cond
    obtain ⟨b9, o9, cap9, e9, _⟩ := rA.ne_nil (by omega)
    simp only [Value.slice.injEq, true_and] at e9
    obtain ⟨rfl, rfl⟩ := e9
    refine wp_cond_false (rfl) ?_
    refine wp_skip ?_
    show Code.wp _ _ _ _ _
    refine wp_seq ?_
    refine wp_region_lit ?_
    iterate 3 (refine wpList_plainQ rfl (fun K Q' hK => ?_); go_simp; refine hK _ _ ?_; clear hK K; try clear Q')
    -- stops at: eff:call (Go.Op.call {'callee': (Go.Callee.value (Go.Operand.func 59)), 'args': [(Go.Operand.tmp 16), (Go.Operand.tmp 17)], 'argTypes': [25, 107]}) slot 18
    refine wpList_plainQ rfl (fun K Q' hK => ?_); go_simp
    refine (skleast_ok H5 _ m _ _ ps _ t0 l0 h55.pre hn (by rw [hnn.out]; exact rA) (hrow.mono leA)).mono ?_
    rintro e wC ⟨H6, rfl, hpC⟩
    rw [hbst.out]
    have h4 := h55.call hpC
    refine hK _ _ ?_; clear hK K; try clear Q'
    iterate 1 (refine wpList_plainQ rfl (fun K Q' hK => ?_); go_simp; refine hK _ _ ?_; clear hK K; try clear Q')
    -- stops at: load (Go.Op.load 94 (Go.Operand.tmp 19)) slot 20
    have ce := rA.cell (h4.fits.le hpC.le) _ gb
    iterate 1 (refine wpList_plainQ rfl (fun K Q' hK => ?_); go_simp; refine hK _ _ ?_; clear hK K; try clear Q')
    clear ce
    -- stops at: eff:call (Go.Op.call {'callee': (Go.Callee.value (Go.Operand.func 60)), 'args': [(Go.Operand.tmp 20)], 'argTypes': [94]}) slot 21
    refine wpList_plainQ rfl (fun K Q' hK => ?_); go_simp
    refine (root_ok H6 _ pb tb h4.fits ((trb.mono leA).mono hpC.le)).mono ?_
    rintro e wD ⟨rfl, hkD⟩
    have h5 := h4.callk hkD
    refine hK _ _ ?_; clear hK K; try clear Q'
    iterate 2 (refine wpList_plainQ rfl (fun K Q' hK => ?_); go_simp; refine hK _ _ ?_; clear hK K; try clear Q')
    have c_0 := h5.cell 1 rfl 0 rfl
    have f_0 := h5.free 1 rfl 0
    have c_1 := h5.cell 1 rfl 1 rfl
    have f_1 := h5.free 1 rfl 1
    refine wpList_plainQ rfl (fun K Q' hK => ?_); go_simp
    clear c_0 f_0 c_1 f_1
    refine (h5.set (i := 1) rfl 0 _).k_set 1 rfl (fun w6 h6 => ?_)
    refine hK _ _ ?_; clear hK K; try clear Q'
    iterate 1 (refine wpList_plainQ rfl (fun K Q' hK => ?_); go_simp; refine hK _ _ ?_; clear hK K; try clear Q')
    refine wpList_nil ?_
    show Code.wp _ _ _ _ _
    -- stops at: ret
    refine wp_ret ?_
    have r_1_0 := h6.cell 1 rfl 0 rfl
    have r_1_1 := h6.cell 1 rfl 1 rfl
    first | show bodyPost _ _ _ _ _ _ | (simp only [Exit.then]; show bodyPost _ _ _ _ _ _) | (simp only [Exit.inBlock]; show bodyPost _ _ _ _ _ _) | (simp only [Exit.inBlock, Exit.then]; show bodyPost _ _ _ _ _ _) | (simp only [Exit.noGoto, Exit.inBlock, Exit.then]; show bodyPost _ _ _ _ _ _)
    refine bodyPost_ret (v := ?_) ?_ rfl ?_
    rotate_left
    · simp only [results, Tryz.results30]; go_simp; with_reducible rfl
    clear r_1_0 r_1_1
    refine ⟨H6, by rw [hmin]; rfl, ?_⟩
    simpa using h6.post

set_option maxRecDepth 100000 in
set_option maxHeartbeats 8000000 in
theorem skpop_ok (H : GH) (w : World) (m : Option Nat) (c d : Int) (p : Option Addr) (l : List (Tr El)) (hpre : Pre w H m c d) (hn : Rw.size l < 900000) (hl : LsR H p l) :
    Calls Tryz.prog 31 #[hV p, mV m] w fun e w' => ∃ r H', e = .returned (.tuple #[hV r, .bool (Rw.min? kf l).isSome]) ∧ Post w H m w' H' (c + Sk.popC kf l) (d + Sk.popD kf l) ∧ LsR H' r (Sk.pop kf l) := by
  obtain ⟨ps, hcons, hrow⟩ := hl
  have hlb : ps.length < 1000000 := by have := hrow.1; have := Rw.length_le l; omega
  cases l with
  | nil =>
    obtain rfl := hrow.nil_of
    go_enter Tryz.func31, Tryz.ntmps31
    have h0 := St.start hpre
    refine wp_seq ?_
    repeat (first | simp only [List.nil_append] at h0 | simp only [List.cons_append] at h0 | simp only [List.set_cons_zero] at h0 | simp only [List.set_cons_succ] at h0 | simp only [List.eraseIdx_zero] at h0 | simp only [List.tail_cons] at h0 | simp only [List.eraseIdx_cons_zero] at h0 | simp only [List.eraseIdx_cons_succ] at h0 | simp only [List.setIfInBounds_toArray] at h0)
    refine wp_region_lit ?_
    refine wpList_plainQ rfl (fun K Q' hK => ?_); go_simp
    refine h0.k_alloc (fun w1 h1 => ?_)
    refine hK _ _ ?_; clear hK K; try clear Q'
    refine wpList_plainQ rfl (fun K Q' hK => ?_); go_simp
    refine h1.k_alloc (fun w2 h2 => ?_)
    refine hK _ _ ?_; clear hK K; try clear Q'
    iterate 1 (refine wpList_plainQ rfl (fun K Q' hK => ?_); go_simp; refine hK _ _ ?_; clear hK K; try clear Q')
    refine wpList_nil ?_
    show Code.wp _ _ _ _ _
    refine wp_seq ?_
    repeat (first | simp only [List.nil_append] at h2 | simp only [List.cons_append] at h2 | simp only [List.set_cons_zero] at h2 | simp only [List.set_cons_succ] at h2 | simp only [List.eraseIdx_zero] at h2 | simp only [List.tail_cons] at h2 | simp only [List.eraseIdx_cons_zero] at h2 | simp only [List.eraseIdx_cons_succ] at h2 | simp only [List.setIfInBounds_toArray] at h2)
    refine wp_region_lit ?_
    have c_0_0 := h2.cell 0 rfl 0 rfl
    iterate 2 (refine wpList_plainQ rfl (fun K Q' hK => ?_); go_simp; refine hK _ _ ?_; clear hK K; try clear Q')
    clear c_0_0
    -- stops at: eff:call (Go.Op.call {'callee': (Go.Callee.value (Go.Operand.func 54)), 'args': [(Go.Operand.tmp 15)], 'argTypes': [71]}) slot 16
    refine wpList_plainQ rfl (fun K Q' hK => ?_); go_simp
    refine (CTr.all_ok H _ p [] hlb h2.fits hcons).mono ?_
    rintro e wB ⟨v, rfl, hpB⟩
    obtain ⟨H5, h55, rA, leA⟩ := (h2.callrow hpB).settleRow 0 rfl
    skip
    obtain ⟨aA, cA, rfl, _, _⟩ := rA.nil_or
    refine hK _ _ ?_; clear hK K; try clear Q'
    iterate 1 (refine wpList_plainQ rfl (fun K Q' hK => ?_); go_simp; refine hK _ _ ?_; clear hK K; try clear Q')
    refine wpList_nil ?_
    show Code.wp _ _ _ _ _
    refine wp_seq ?_
    refine wp_seq ?_
    repeat (first | simp only [List.nil_append] at h55 | simp only [List.cons_append] at h55 | simp only [List.set_cons_zero] at h55 | simp only [List.set_cons_succ] at h55 | simp only [List.eraseIdx_zero] at h55 | simp only [List.tail_cons] at h55 | simp only [List.eraseIdx_cons_zero] at h55 | simp only [List.eraseIdx_cons_succ] at h55 | simp only [List.setIfInBounds_toArray] at h55)
    refine wp_region_lit ?_
    iterate 3 (refine wpList_plainQ rfl (fun K Q' hK => ?_); go_simp; refine hK _ _ ?_; clear hK K; try clear Q')
    refine wpList_nil ?_
    show Code.wp _ _ _ _ _
    -- stops at: cond
    refine wp_cond_true (rfl) ?_
    refine wp_seq ?_
    refine wp_region_lit ?_
    iterate 1 (refine wpList_plainQ rfl (fun K Q' hK => ?_); go_simp; refine hK _ _ ?_; clear hK K; try clear Q')
    have c_0 := h55.cell 1 rfl 0 rfl
    have f_0 := h55.free 1 rfl 0
    refine wpList_plainQ rfl (fun K Q' hK => ?_); go_simp
    clear c_0 f_0
    refine h55.k_set 1 rfl (fun w4 h4 => ?_)
    refine hK _ _ ?_; clear hK K; try clear Q'
    iterate 1 (refine wpList_plainQ rfl (fun K Q' hK => ?_); go_simp; refine hK _ _ ?_; clear hK K; try clear Q')
    refine wpList_nil ?_
    show Code.wp _ _ _ _ _
    -- stops at: ret
    refine wp_ret ?_
    have r_1_0 := h4.cell 1 rfl 0 rfl
    first | show bodyPost _ _ _ _ _ _ | (simp only [Exit.then]; show bodyPost _ _ _ _ _ _) | (simp only [Exit.inBlock]; show bodyPost _ _ _ _ _ _) | (simp only [Exit.inBlock, Exit.then]; show bodyPost _ _ _ _ _ _) | (simp only [Exit.noGoto, Exit.inBlock, Exit.then]; show bodyPost _ _ _ _ _ _)
    refine bodyPost_ret (v := ?_) ?_ rfl ?_
    rotate_left
    · simp only [results, Tryz.results31]; go_simp; with_reducible rfl
    clear r_1_0
    refine ⟨none, H5, rfl, ?_, LsR.nil _⟩
    simpa [Sk.popC, Sk.popD, Rw.minT] using h4.post
  | cons t0 l0 =>
    as_aux_lemma =>
    obtain ⟨bst, hbst⟩ : ∃ b, Hid (Rw.least kf (t0 :: l0) = b) := ⟨_, show _ = _ from rfl⟩
    obtain ⟨tb, htb⟩ := Rw.minT_some (l := t0 :: l0) (by simp)
    have hminT : Rw.minT kf (t0 :: l0) = some tb := htb
    have hmin : Rw.min? kf (t0 :: l0) = some tb.x := by unfold Rw.min?; rw [hminT]; rfl
    obtain ⟨rest, hrest⟩ : ∃ r, Hid ((t0 :: l0).eraseIdx bst = r) := ⟨_, show _ = _ from rfl⟩
    obtain ⟨aft, haft⟩ : ∃ r, Hid (Sk.after kf tb rest = r) := ⟨_, show _ = _ from rfl⟩
    have hpop : Sk.pop kf (t0 :: l0) = Sk.inserts kf aft tb.b := by unfold Sk.pop; rw [hminT]; simp only; rw [hbst.out, hrest.out, haft.out]
    have hpopC : Sk.popC kf (t0 :: l0) = l0.length + Sk.afterN kf tb rest + Sk.insertsC kf aft tb.b := by unfold Sk.popC; rw [hminT]; simp only; rw [hbst.out, hrest.out, haft.out]; rfl
    have hpopD : Sk.popD kf (t0 :: l0) = Sk.afterN kf tb rest + Sk.insertsD kf aft tb.b := by unfold Sk.popD; rw [hminT]; simp only; rw [hbst.out, hrest.out, haft.out]
    have hbl : bst < ps.length := by have := hbst.out; have := Rw.least_lt kf (l := t0 :: l0) (by simp); have := hrow.1; omega
    obtain ⟨pb, hpb⟩ : ∃ pb, ps[bst]? = some pb := ⟨ps[bst], by simp⟩
    rw [hbst.out] at htb
    have trb := hrow.2 _ _ _ hpb htb
    have her := trb.er
    have hps : Hid (1 + tb.b.length + Rw.size tb.k.toL.reverse + Rw.size rest < 900000) := by
      have h1 := (Rw.els_perm (Rw.minT_perm kf hminT)).length_eq
      rw [hbst.out, hrest.out, Rw.els_cons, List.length_append] at h1
      have h2 := (Rw.els_perm (List.reverse_perm tb.k.toL)).length_eq
      rw [Rw.toL_els] at h2
      have h3 : tb.els.length = 1 + (tb.b.length + tb.k.els.length) := by simp [Tr.els]; omega
      show _ < _
      unfold Rw.size at *
      omega
    have hasz : Hid (Rw.size aft + tb.b.length < 900000) := by
      have h1 := (Sk.after_perm kf tb rest).length_eq
      rw [haft.out, List.length_append] at h1
      have h2 := (Rw.els_perm (List.reverse_perm tb.k.toL)).length_eq
      rw [Rw.toL_els] at h2
      have := hps.out
      show _ < _
      unfold Rw.size at *
      omega
    have htbs : tb.size < 1000000 := by have := size_mem htb; omega
    have gb : (ps.map Value.pointer)[bst]? = some (.pointer pb) := by simp [hpb]
    obtain ⟨nn, hnn⟩ : ∃ nn, Hid (ps.length = nn) := ⟨_, show _ = _ from rfl⟩
    have d1 : ((nn : Int) == 0) = false := beq_eq_false_iff_ne.2 (by have := hnn.out; omega)
    have hbn : bst < nn := by have := hnn.out; omega
    obtain ⟨b1, hb1⟩ : ∃ b1, Hid (b1 = bst + 1) := ⟨_, rfl⟩
    have e8 : IntKind.i64.wrap ((bst : Int) + 1) = (b1 : Int) := by have := hb1.out; rw [IntWalk.i64_in _ (by omega)]; omega
    go_enter Tryz.func31, Tryz.ntmps31
    have h0 := St.start hpre
    refine wp_seq ?_
    repeat (first | simp only [List.nil_append] at h0 | simp only [List.cons_append] at h0 | simp only [List.set_cons_zero] at h0 | simp only [List.set_cons_succ] at h0 | simp only [List.eraseIdx_zero] at h0 | simp only [List.tail_cons] at h0 | simp only [List.eraseIdx_cons_zero] at h0 | simp only [List.eraseIdx_cons_succ] at h0 | simp only [List.setIfInBounds_toArray] at h0)
    refine wp_region_lit ?_
    refine wpList_plainQ rfl (fun K Q' hK => ?_); go_simp
    refine h0.k_alloc (fun w1 h1 => ?_)
    refine hK _ _ ?_; clear hK K; try clear Q'
    refine wpList_plainQ rfl (fun K Q' hK => ?_); go_simp
    refine h1.k_alloc (fun w2 h2 => ?_)
    refine hK _ _ ?_; clear hK K; try clear Q'
    iterate 1 (refine wpList_plainQ rfl (fun K Q' hK => ?_); go_simp; refine hK _ _ ?_; clear hK K; try clear Q')
    refine wpList_nil ?_
    show Code.wp _ _ _ _ _
    refine wp_seq ?_
    repeat (first | simp only [List.nil_append] at h2 | simp only [List.cons_append] at h2 | simp only [List.set_cons_zero] at h2 | simp only [List.set_cons_succ] at h2 | simp only [List.eraseIdx_zero] at h2 | simp only [List.tail_cons] at h2 | simp only [List.eraseIdx_cons_zero] at h2 | simp only [List.eraseIdx_cons_succ] at h2 | simp only [List.setIfInBounds_toArray] at h2)
    refine wp_region_lit ?_
    have c_0_0 := h2.cell 0 rfl 0 rfl
    iterate 2 (refine wpList_plainQ rfl (fun K Q' hK => ?_); go_simp; refine hK _ _ ?_; clear hK K; try clear Q')
    clear c_0_0
    -- stops at: eff:call (Go.Op.call {'callee': (Go.Callee.value (Go.Operand.func 54)), 'args': [(Go.Operand.tmp 15)], 'argTypes': [71]}) slot 16
    refine wpList_plainQ rfl (fun K Q' hK => ?_); go_simp
    refine (CTr.all_ok H _ p ps hlb h2.fits hcons).mono ?_
    rintro e wB ⟨v, rfl, hpB⟩
    have hBr := h2.callrow hpB
    obtain ⟨g, cA, rfl⟩ := hBr.row_some 0 rfl (by omega)
    rw [hnn.out] at hBr ⊢
    refine hK _ _ ?_; clear hK K; try clear Q'
    iterate 1 (refine wpList_plainQ rfl (fun K Q' hK => ?_); go_simp; refine hK _ _ ?_; clear hK K; try clear Q')
    refine wpList_nil ?_
    show Code.wp _ _ _ _ _
    refine wp_seq ?_
    refine wp_seq ?_
    repeat (first | simp only [List.nil_append] at hBr | simp only [List.cons_append] at hBr | simp only [List.set_cons_zero] at hBr | simp only [List.set_cons_succ] at hBr | simp only [List.eraseIdx_zero] at hBr | simp only [List.tail_cons] at hBr | simp only [List.eraseIdx_cons_zero] at hBr | simp only [List.eraseIdx_cons_succ] at hBr | simp only [List.setIfInBounds_toArray] at hBr)
    refine wp_region_lit ?_
    iterate 3 (refine wpList_plainQ rfl (fun K Q' hK => ?_); go_simp; refine hK _ _ ?_; clear hK K; try clear Q')
    refine wpList_nil ?_
    show Code.wp _ _ _ _ _
    -- stops at: cond
    refine wp_cond_false (rfl) ?_
    refine wp_skip ?_
    show Code.wp _ _ _ _ _
    refine wp_seq ?_
    refine wp_region_lit ?_
    iterate 2 (refine wpList_plainQ rfl (fun K Q' hK => ?_); go_simp; refine hK _ _ ?_; clear hK K; try clear Q')
    -- stops at: eff:call (Go.Op.call {'callee': (Go.Callee.value (Go.Operand.func 59)), 'args': [(Go.Operand.tmp 21), (Go.Operand.tmp 22)], 'argTypes': [25, 107]}) slot 23
    obtain ⟨Hp1, hs1, rA, leA⟩ := hBr.settleRow 0 rfl
    refine wpList_plainQ rfl (fun K Q' hK => ?_); go_simp
    refine (skleast_ok Hp1 _ m _ _ ps _ t0 l0 hs1.pre (by omega) (by rw [hnn.out]; exact rA) (hrow.mono leA)).mono ?_
    rintro e wC ⟨H6, rfl, hpC'⟩
    have hpC := hpC'.peek (c := c) (d := d) leA hBr.pre.apart
    rw [hbst.out]
    have h3 := hBr.call hpC
    refine hK _ _ ?_; clear hK K; try clear Q'
    iterate 1 (refine wpList_plainQ rfl (fun K Q' hK => ?_); go_simp; refine hK _ _ ?_; clear hK K; try clear Q')
    refine wpList_nil ?_
    show Code.wp _ _ _ _ _
    refine wp_seq ?_
    repeat (first | simp only [List.nil_append] at h3 | simp only [List.cons_append] at h3 | simp only [List.set_cons_zero] at h3 | simp only [List.set_cons_succ] at h3 | simp only [List.eraseIdx_zero] at h3 | simp only [List.tail_cons] at h3 | simp only [List.eraseIdx_cons_zero] at h3 | simp only [List.eraseIdx_cons_succ] at h3 | simp only [List.setIfInBounds_toArray] at h3)
    refine wp_region_lit ?_
    iterate 3 (refine wpList_plainQ rfl (fun K Q' hK => ?_); go_simp; refine hK _ _ ?_; clear hK K; try clear Q')
    -- stops at: load (Go.Op.load 94 (Go.Operand.tmp 26)) slot 27
    have ce := h3.rowcell 0 rfl _ gb
    iterate 1 (refine wpList_plainQ rfl (fun K Q' hK => ?_); go_simp; refine hK _ _ ?_; clear hK K; try clear Q')
    clear ce
    iterate 1 (refine wpList_plainQ rfl (fun K Q' hK => ?_); go_simp; refine hK _ _ ?_; clear hK K; try clear Q')
    refine wpList_nil ?_
    show Code.wp _ _ _ _ _
    refine wp_seq ?_
    refine wp_region_lit ?_
    iterate 1 (refine wpList_plainQ rfl (fun K Q' hK => ?_); go_simp; refine hK _ _ ?_; clear hK K; try clear Q')
    -- stops at: eff:call (Go.Op.call {'callee': (Go.Callee.value (Go.Operand.func 61)), 'args': [(Go.Operand.tmp 28)], 'argTypes': [94]}) slot 29
    refine wpList_plainQ rfl (fun K Q' hK => ?_); go_simp
    refine (kids_ok H _ pb tb htbs h3.fits trb).mono ?_
    rintro e wD ⟨v2, ks, rfl, hpD, hks⟩
    have hD := h3.callrow hpD
    have hksl : ks.length < 1000000 := by have := hks.1; have := RT.toL_length tb.k; have := Tr.rank_lt tb; unfold Tr.rank at this; omega
    refine hK _ _ ?_; clear hK K; try clear Q'
    iterate 1 (refine wpList_plainQ rfl (fun K Q' hK => ?_); go_simp; refine hK _ _ ?_; clear hK K; try clear Q')
    refine wpList_nil ?_
    show Code.wp _ _ _ _ _
    refine wp_seq ?_
    repeat (first | simp only [List.nil_append] at hD | simp only [List.cons_append] at hD | simp only [List.set_cons_zero] at hD | simp only [List.set_cons_succ] at hD | simp only [List.eraseIdx_zero] at hD | simp only [List.tail_cons] at hD | simp only [List.eraseIdx_cons_zero] at hD | simp only [List.eraseIdx_cons_succ] at hD | simp only [List.setIfInBounds_toArray] at hD)
    refine wp_region_lit ?_
    iterate 1 (refine wpList_plainQ rfl (fun K Q' hK => ?_); go_simp; refine hK _ _ ?_; clear hK K; try clear Q')
    -- stops at: eff:call (Go.Op.call {'callee': (Go.Callee.value (Go.Operand.func 62)), 'args': [(Go.Operand.tmp 30)], 'argTypes': [107]}) slot 31
    refine wpList_plainQ rfl (fun K Q' hK => ?_); go_simp
    refine (reverse_ok hD 1 hksl rfl).mono ?_
    rintro e wE ⟨⟨u, rfl⟩, hE⟩
    refine hK _ _ ?_; clear hK K; try clear Q'
    refine wpList_nil ?_
    show Code.wp _ _ _ _ _
    refine wp_seq ?_
    repeat (first | simp only [List.nil_append] at hE | simp only [List.cons_append] at hE | simp only [List.set_cons_zero] at hE | simp only [List.set_cons_succ] at hE | simp only [List.eraseIdx_zero] at hE | simp only [List.tail_cons] at hE | simp only [List.eraseIdx_cons_zero] at hE | simp only [List.eraseIdx_cons_succ] at hE | simp only [List.setIfInBounds_toArray] at hE)
    refine wp_region_lit ?_
    iterate 5 (refine wpList_plainQ rfl (fun K Q' hK => ?_); go_simp; refine hK _ _ ?_; clear hK K; try clear Q')
    -- stops at: eff:call (Go.Op.call {'callee': (Go.Callee.value (Go.Operand.func 63)), 'args': [(Go.Operand.tmp 33), (Go.Operand.tmp 34), (Go.Operand.tmp 36)], 'argTypes': [107, 3, 3]} slot 37
    refine wpList_plainQ rfl (fun K Q' hK => ?_); go_simp
    refine (delete_ok hE 0 bst b1 hb1 (by rw [← hnn.out] at *; exact hlb) hbl (by rw [hnn.out]; rfl)).mono ?_
    rintro e wG ⟨u2, rfl, hG⟩
    refine hK _ _ ?_; clear hK K; try clear Q'
    -- stops at: eff:call (Go.Op.call {'callee': (Go.Callee.value (Go.Operand.func 53)), 'args': [(Go.Operand.tmp 32), (Go.Operand.tmp 37)], 'argTypes': [25, 107]}) slot 38
    obtain ⟨H7, h77, rM, leM⟩ := hG.settleRow 0 rfl
    obtain ⟨aM, cM, rfl, _, _⟩ := rM.nil_or
    have hrr : RowR H7 (ps.eraseIdx bst) rest := by rw [← hrest.out]; exact (hrow.mono leM).erase bst
    refine wpList_plainQ rfl (fun K Q' hK => ?_); go_simp
    refine (sklevel_ok H7 _ m _ _ _ rest h77.pre (by have := hps.out; omega) ⟨_, rM, hrr⟩).mono ?_
    rintro e wH ⟨vL, H8, rfl, hpH, hLv⟩
    have h5 := h77.call hpH
    refine hK _ _ ?_; clear hK K; try clear Q'
    iterate 1 (refine wpList_plainQ rfl (fun K Q' hK => ?_); go_simp; refine hK _ _ ?_; clear hK K; try clear Q')
    refine wpList_nil ?_
    show Code.wp _ _ _ _ _
    refine wp_seq ?_
    repeat (first | simp only [List.nil_append] at h5 | simp only [List.cons_append] at h5 | simp only [List.set_cons_zero] at h5 | simp only [List.set_cons_succ] at h5 | simp only [List.eraseIdx_zero] at h5 | simp only [List.tail_cons] at h5 | simp only [List.eraseIdx_cons_zero] at h5 | simp only [List.eraseIdx_cons_succ] at h5 | simp only [List.setIfInBounds_toArray] at h5)
    refine wp_region_lit ?_
    iterate 3 (refine wpList_plainQ rfl (fun K Q' hK => ?_); go_simp; refine hK _ _ ?_; clear hK K; try clear Q')
    -- stops at: eff:call (Go.Op.call {'callee': (Go.Callee.value (Go.Operand.func 56)), 'args': [(Go.Operand.tmp 39), (Go.Operand.tmp 40), (Go.Operand.tmp 41)], 'argTypes': [25, 107, 10 slot 42
    obtain ⟨H9, h99, rK, leK⟩ := h5.settleRow 0 rfl
    have rK' : SlT H9 v2 tb.k.toL.reverse := ⟨ks.reverse, by rw [List.length_reverse]; exact rK, ((((hks.mono leM).mono hpH.le).mono leK)).reverse⟩
    obtain ⟨aK, cK, rfl, _, _⟩ := rK.nil_or
    refine wpList_plainQ rfl (fun K Q' hK => ?_); go_simp
    refine (skmeld_ok _ _ H9 _ m _ _ _ _ h99.pre (by rw [Sk.level_size]; have := hps.out; omega) rK' (hLv.mono leK)).mono ?_
    rintro e wJ ⟨vM, H10, rfl, hpJ, hM⟩
    rw [show Rw.meld kf tb.k.toL.reverse (Sk.level kf rest) = aft from haft.out] at hM
    obtain ⟨ms, hm1, hm2⟩ := hM
    obtain ⟨aE, cE, rfl, _, _⟩ := hm1.nil_or
    have hml : ms.length < 1000000 := by have h1 := hm2.1; have h2 := Rw.length_le aft; have := hasz.out; omega
    have h7 := h99.call hpJ
    refine hK _ _ ?_; clear hK K; try clear Q'
    -- stops at: eff:call (Go.Op.call {'callee': (Go.Callee.value (Go.Operand.func 55)), 'args': [(Go.Operand.tmp 42)], 'argTypes': [107]}) slot 43
    refine wpList_plainQ rfl (fun K Q' hK => ?_); go_simp
    refine (CTr.of_ok H10 _ _ ms hml h7.fits hm1).mono ?_
    rintro e wN ⟨qN, H11, rfl, hpN, hN⟩
    have hLN : LsR H11 qN aft := ⟨ms, hN, hm2.mono hpN.le⟩
    have h8 := h7.call0 hpN
    refine hK _ _ ?_; clear hK K; try clear Q'
    iterate 1 (refine wpList_plainQ rfl (fun K Q' hK => ?_); go_simp; refine hK _ _ ?_; clear hK K; try clear Q')
    refine wpList_plainQ rfl (fun K Q' hK => ?_); go_simp
    refine h8.k_alloc (fun w9 h9 => ?_)
    refine hK _ _ ?_; clear hK K; try clear Q'
    have c_0 := h9.cell 2 rfl 0 rfl
    have f_0 := h9.free 2 rfl 0
    refine wpList_plainQ rfl (fun K Q' hK => ?_); go_simp
    clear c_0 f_0
    refine h9.k_set 2 rfl (fun w10 h10 => ?_)
    refine hK _ _ ?_; clear hK K; try clear Q'
    refine wpList_nil ?_
    show Code.wp _ _ _ _ _
    refine wp_seq ?_
    refine wp_seq ?_
    repeat (first | simp only [List.nil_append] at h10 | simp only [List.cons_append] at h10 | simp only [List.set_cons_zero] at h10 | simp only [List.set_cons_succ] at h10 | simp only [List.eraseIdx_zero] at h10 | simp only [List.tail_cons] at h10 | simp only [List.eraseIdx_cons_zero] at h10 | simp only [List.eraseIdx_cons_succ] at h10 | simp only [List.setIfInBounds_toArray] at h10)
    refine wp_region_lit ?_
    iterate 1 (refine wpList_plainQ rfl (fun K Q' hK => ?_); go_simp; refine hK _ _ ?_; clear hK K; try clear Q')
    -- stops at: eff:call (Go.Op.call {'callee': (Go.Callee.value (Go.Operand.func 64)), 'args': [(Go.Operand.tmp 45)], 'argTypes': [94]}) slot 46
    have hle11 : GH.le H H11 := h10.le
    refine wpList_plainQ rfl (fun K Q' hK => ?_); go_simp
    refine (beside_ok H11 _ pb tb htbs h10.fits (trb.mono hle11)).mono ?_
    rintro e wQ ⟨vQ, rfl, hpQ⟩
    have hQ := h10.callrow hpQ
    refine hK _ _ ?_; clear hK K; try clear Q'
    obtain ⟨H12, h12, rQ, leQ⟩ := hQ.settleRow 0 rfl
    have rQ' := rQ
    obtain ⟨aQ, cQ, rfl, _, _⟩ := rQ.nil_or
    iterate 2 (refine wpList_plainQ rfl (fun K Q' hK => ?_); go_simp; refine hK _ _ ?_; clear hK K; try clear Q')
    refine wpList_nil ?_
    show Code.wp _ _ _ _ _
    refine wp_block ?_
    -- stops at: loop
    go_loopw [48] (fun v48 wr => ∃ (k : Nat) (q : Option Addr) (H1 : GH), k ≤ tb.b.length ∧ v48 = .int .i64 k ∧ GH.le H12 H1 ∧ St w H m (c + l0.length + Sk.afterN kf tb rest + Sk.insertsC kf aft (tb.b.take k)) (d + Sk.afterN kf tb rest + Sk.insertsD kf aft (tb.b.take k)) wr H1 [(w.heap.size, .cells #[.pointer p] 73), (w1.heap.size, .cells #[.pointer none] 73), (wN.heap.size, .cells #[.pointer q] 73)] [] ∧ LsR H1 q (Sk.inserts kf aft (tb.b.take k))) (fun v48 _ => tb.b.length - (intOf v48).toNat)
    case atStart =>
      refine ⟨0, qN, H12, by omega, rfl, GH.le_refl _, ?_, by simpa [Sk.inserts] using hLN.mono leQ⟩
      have hq := h12
      have e1 : c + (l0.length : Int) + (Sk.levelN kf rest : Nat) + (Rw.meldN kf tb.k.toL.reverse (Sk.level kf rest) : Nat) = c + (l0.length : Int) + (Sk.afterN kf tb rest : Nat) + (Sk.insertsC kf aft (tb.b.take 0) : Nat) := by
        rw [List.take_zero]; unfold Sk.afterN Sk.insertsC; omega
      have e2 : d + (Sk.levelN kf rest : Nat) + (Rw.meldN kf tb.k.toL.reverse (Sk.level kf rest) : Nat) = d + (Sk.afterN kf tb rest : Nat) + (Sk.insertsD kf aft (tb.b.take 0) : Nat) := by
        rw [List.take_zero]; unfold Sk.afterN Sk.insertsD; omega
      rw [e1, e2] at hq
      exact hq
    case round =>
      obtain ⟨k, q, H1, hk1, rfl, hle1, hs, hq⟩ := hrel
      by_cases hk : k < tb.b.length
      · obtain ⟨b9, o9, cap9, ee, _⟩ := rQ'.ne_nil (by omega)
        simp only [Value.slice.injEq, true_and] at ee
        obtain ⟨rfl, rfl⟩ := ee
        obtain ⟨c1, c2⟩ := elT_cells rQ' (k := k) (a := tb.b[k]) (by simp [hk])
        have hmemj : tb.b[k] ∈ tb.b := List.getElem_mem hk
        obtain ⟨x, hx⟩ : ∃ x, Hid (tb.b[k] = x) := ⟨tb.b[k], show _ = _ from rfl⟩
        rw [hx.out] at c1 c2 hmemj
        have e1 : IntKind.i64.wrap ((k : Int) + 1) = (k : Int) + 1 := IntWalk.i64_in _ (by have := hasz.out; omega)
        have htk : tb.b.take (k + 1) = tb.b.take k ++ [x] := by rw [List.take_add_one, List.getElem?_eq_getElem hk, hx.out]; rfl
        have hsz : Rw.size (Sk.inserts kf aft (tb.b.take k)) < 900000 := by rw [Sk.inserts_size, List.length_take]; have := hasz.out; omega
        refine wp_seq ?_
        repeat (first | simp only [List.nil_append] at hs | simp only [List.cons_append] at hs | simp only [List.set_cons_zero] at hs | simp only [List.set_cons_succ] at hs | simp only [List.eraseIdx_zero] at hs | simp only [List.tail_cons] at hs | simp only [List.eraseIdx_cons_zero] at hs | simp only [List.eraseIdx_cons_succ] at hs | simp only [List.setIfInBounds_toArray] at hs)
        refine wp_region_lit ?_
        iterate 1 (refine wpList_plainQ rfl (fun K Q' hK => ?_); go_simp; refine hK _ _ ?_; clear hK K; try clear Q')
        refine wpList_nil ?_
        show Code.wp _ _ _ _ _
        refine wp_seq ?_
        -- stops at: cond
        refine wp_cond_true (rfl) ?_
        refine wp_skip ?_
        show Code.wp _ _ _ _ _
        refine wp_seq ?_
        refine wp_block ?_
        refine wp_seq ?_
        refine wp_region_lit ?_
        iterate 1 (refine wpList_plainQ rfl (fun K Q' hK => ?_); go_simp; refine hK _ _ ?_; clear hK K; try clear Q')
        -- stops at: load (Go.Op.load 32 (Go.Operand.tmp 50)) slot 51
        have ce := c1.out _ (hs.fits.le hle1)
        have ce2 := c2.out _ (hs.fits.le hle1)
        iterate 1 (refine wpList_plainQ rfl (fun K Q' hK => ?_); go_simp; refine hK _ _ ?_; clear hK K; try clear Q')
        clear ce ce2
        refine wpList_plainQ rfl (fun K Q' hK => ?_); go_simp
        refine hs.k_alloc (fun w11 h11 => ?_)
        refine hK _ _ ?_; clear hK K; try clear Q'
        have c_0 := h11.cell 3 rfl 0 rfl
        have f_0 := h11.free 3 rfl 0
        have c_1 := h11.cell 3 rfl 1 rfl
        have f_1 := h11.free 3 rfl 1
        refine wpList_plainQ rfl (fun K Q' hK => ?_); go_simp
        clear c_0 f_0 c_1 f_1
        refine (h11.set (i := 3) rfl 0 _).k_set 3 rfl (fun w12 h12 => ?_)
        refine hK _ _ ?_; clear hK K; try clear Q'
        refine wpList_nil ?_
        show Code.wp _ _ _ _ _
        repeat (first | simp only [List.nil_append] at h12 | simp only [List.cons_append] at h12 | simp only [List.set_cons_zero] at h12 | simp only [List.set_cons_succ] at h12 | simp only [List.eraseIdx_zero] at h12 | simp only [List.tail_cons] at h12 | simp only [List.eraseIdx_cons_zero] at h12 | simp only [List.eraseIdx_cons_succ] at h12 | simp only [List.setIfInBounds_toArray] at h12)
        refine wp_region_lit ?_
        have c_2_0 := h12.cell 2 rfl 0 rfl
        have c_3_0 := h12.cell 3 rfl 0 rfl
        have c_3_1 := h12.cell 3 rfl 1 rfl
        iterate 3 (refine wpList_plainQ rfl (fun K Q' hK => ?_); go_simp; refine hK _ _ ?_; clear hK K; try clear Q')
        clear c_2_0 c_3_0 c_3_1
        -- stops at: eff:call (Go.Op.call {'callee': (Go.Callee.value (Go.Operand.func 25)), 'args': [(Go.Operand.tmp 52), (Go.Operand.tmp 53), (Go.Operand.tmp 54)], 'argTypes': [73, 25, 32] slot 55
        have hleH : GH.le H H1 := h12.le
        refine wpList_plainQ rfl (fun K Q' hK => ?_); go_simp
        refine (skinsert_ok H1 _ m _ _ q x _ h12.pre hsz (fun y hy => trivial) hq).mono ?_
        rintro e wT ⟨q2, H2, rfl, hpT, hq2⟩
        have h13 := h12.call hpT
        refine hK _ _ ?_; clear hK K; try clear Q'
        have c_0 := h13.cell 2 rfl 0 rfl
        have f_0 := h13.free 2 rfl 0
        refine wpList_plainQ rfl (fun K Q' hK => ?_); go_simp
        clear c_0 f_0
        refine h13.k_set 2 rfl (fun w14 h14 => ?_)
        refine hK _ _ ?_; clear hK K; try clear Q'
        refine wpList_nil ?_
        show Code.wp _ _ _ _ _
        repeat (first | simp only [List.nil_append] at h14 | simp only [List.cons_append] at h14 | simp only [List.set_cons_zero] at h14 | simp only [List.set_cons_succ] at h14 | simp only [List.eraseIdx_zero] at h14 | simp only [List.tail_cons] at h14 | simp only [List.eraseIdx_cons_zero] at h14 | simp only [List.eraseIdx_cons_succ] at h14 | simp only [List.setIfInBounds_toArray] at h14)
        refine wp_region_lit ?_
        iterate 2 (refine wpList_plainQ rfl (fun K Q' hK => ?_); go_simp; refine hK _ _ ?_; clear hK K; try clear Q')
        refine wpList_nil ?_
        -- stops at: end ('roundend',)
        show _ ∧ _
        go_roundw
        case rel =>
          refine ⟨k + 1, q2, H2, by omega, by simp, hle1.trans hpT.le, ?_, by rw [htk, Sk.inserts_snoc]; exact hq2⟩
          have h98 := h14.take 3
          rw [htk, Sk.insertsC_snoc, Sk.insertsD_snoc, Int.natCast_add, Int.natCast_add, ← Int.add_assoc, ← Int.add_assoc]
          exact h98
        case measure => simp [intOf]; omega
      · obtain rfl : k = tb.b.length := by omega
        refine wp_seq ?_
        repeat (first | simp only [List.nil_append] at hs | simp only [List.cons_append] at hs | simp only [List.set_cons_zero] at hs | simp only [List.set_cons_succ] at hs | simp only [List.eraseIdx_zero] at hs | simp only [List.tail_cons] at hs | simp only [List.eraseIdx_cons_zero] at hs | simp only [List.eraseIdx_cons_succ] at hs | simp only [List.setIfInBounds_toArray] at hs)
        refine wp_region_lit ?_
        iterate 1 (refine wpList_plainQ rfl (fun K Q' hK => ?_); go_simp; refine hK _ _ ?_; clear hK K; try clear Q')
        refine wpList_nil ?_
        show Code.wp _ _ _ _ _
        refine wp_seq ?_
        -- stops at: cond
        refine wp_cond_false (rfl) ?_
        refine wp_exit ?_
        show Code.wp _ _ _ _ _
        refine wp_seq ?_
        refine wp_region_lit ?_
        have c_2_0 := hs.cell 2 rfl 0 rfl
        iterate 1 (refine wpList_plainQ rfl (fun K Q' hK => ?_); go_simp; refine hK _ _ ?_; clear hK K; try clear Q')
        clear c_2_0
        have c_0 := hs.cell 1 rfl 0 rfl
        have f_0 := hs.free 1 rfl 0
        refine wpList_plainQ rfl (fun K Q' hK => ?_); go_simp
        clear c_0 f_0
        refine hs.k_set 1 rfl (fun w15 h15 => ?_)
        refine hK _ _ ?_; clear hK K; try clear Q'
        iterate 1 (refine wpList_plainQ rfl (fun K Q' hK => ?_); go_simp; refine hK _ _ ?_; clear hK K; try clear Q')
        refine wpList_nil ?_
        show Code.wp _ _ _ _ _
        -- stops at: ret
        refine wp_ret ?_
        have r_1_0 := h15.cell 1 rfl 0 rfl
        first | show bodyPost _ _ _ _ _ _ | (simp only [Exit.then]; show bodyPost _ _ _ _ _ _) | (simp only [Exit.inBlock]; show bodyPost _ _ _ _ _ _) | (simp only [Exit.inBlock, Exit.then]; show bodyPost _ _ _ _ _ _) | (simp only [Exit.noGoto, Exit.inBlock, Exit.then]; show bodyPost _ _ _ _ _ _)
        refine bodyPost_ret (v := ?_) ?_ rfl ?_
        rotate_left
        · simp only [results, Tryz.results31]; go_simp; with_reducible rfl
        clear r_1_0
        rw [List.take_length] at *
        refine ⟨q, H1, by rw [hmin]; rfl, ?_, by rw [hpop]; exact hq⟩
        rw [hpopC, hpopD, Int.natCast_add, Int.natCast_add, Int.natCast_add, ← Int.add_assoc, ← Int.add_assoc, ← Int.add_assoc]
        exact h15.post
end Go.Proofs.YteigmfkkeofcaaaGreatDoor
