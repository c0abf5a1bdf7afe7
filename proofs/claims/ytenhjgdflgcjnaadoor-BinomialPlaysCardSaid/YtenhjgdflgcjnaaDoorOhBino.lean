/-
Binomial heaps: putting in, melding, the least one, taking out, how many, as a text.
-/
import Derived.Test.YtenhjgdflgcjnaaDoorOgBino
import Derived.Test.YtenhjgdflgcjnaaDoorNdJoin
namespace Go.Proofs.YtenhjgdflgcjnaaDoor
open Go Go.RowKit
set_option linter.unusedVariables false

set_option maxRecDepth 100000 in
set_option maxHeartbeats 2000000 in
theorem insert_ok (H : GH) (w : World) (m : Option Nat) (c d : Int) (p : Option Addr) (x : El) (l : List (Tr El)) (hpre : Pre w H m c d) (hn : Rw.size l < 900000) (hl : LsR H p l) :
    Calls Tryd.prog 15 #[hV p, mV m, elV x] w fun e w' => ∃ r H', e = .returned (hV r) ∧ Post w H m w' H' (c + Rw.putN kf (Tr.leaf x) l) (d + 1 + Rw.putN kf (Tr.leaf x) l) ∧ LsR H' r (Rw.put kf (Tr.leaf x) l) := by
  have hx : (Tr.leaf x).size = 1 := by simp [Tr.leaf, Tr.size, Tr.els, RT.els]
  go_enter Tryd.func15, Tryd.ntmps15
  have h0 := St.start hpre
  refine wp_seq ?_
  refine wp_region_lit ?_
  refine wpList_plainQ rfl (fun K Q' hK => ?_); go_simp
  refine h0.k_alloc (fun w1 h1 => ?_)
  refine hK _ _ ?_; clear hK K; try clear Q'
  refine wpList_plainQ rfl (fun K Q' hK => ?_); go_simp
  refine h1.k_alloc (fun w2 h2 => ?_)
  refine hK _ _ ?_; clear hK K; try clear Q'
  refine wpList_plainQ rfl (fun K Q' hK => ?_); go_simp
  refine h2.k_alloc (fun w3 h3 => ?_)
  refine hK _ _ ?_; clear hK K; try clear Q'
  refine wpList_nil ?_
  show Code.wp _ _ _ _ _
  refine wp_seq ?_
  refine h3.region [0, 1] [(0, true), (1, true), (2, true), (4, true), (5, true), (3, false), (6, false), (7, true), (8, false)] (by kernel_rfl) (by kernel_rfl) (fun w4 h4 => ?_)
  refine wpOrd_hide (fun _ _ d _ _ h => by cases d <;> exact h) (fun QR hQn hQp => ?_)
  simp only [ordOps, List.map_cons, List.map_nil, List.getD_cons_zero, List.getD_cons_succ]
  iterate 5 (refine wpOrd_quiet (v := ?_) rfl (fun _ _ _ => hQp _ _ _ _ _) ?_ ?_; rotate_left; (intro w' hS; have c_1_0 := hS.cell 1 rfl 0 rfl; have c_1_1 := hS.cell 1 rfl 1 rfl; have c_0_0 := hS.cell 0 rfl 0 rfl; (first | (go_simp; done) | (go_simp; with_reducible rfl))); simp only [Act.put, List.setIfInBounds_toArray, List.set_cons_zero, List.set_cons_succ])
  -- stops at: eff:call (Go.Op.call {'callee': (Go.Callee.value (Go.Operand.func 34)), 'args': [(Go.Operand.tmp 8), (Go.Operand.tmp 9)], 'argTypes': [32, 35]}) slot 10
  refine wpOrd_effQ rfl (fun K Q' hK => ?_); go_simp
  refine (leaf_ok H _ m _ _ x h4.pre (fun _ _ => trivial)).mono ?_
  rintro e wA ⟨pl, H1, rfl, hpA, hA⟩
  have h5 := h4.call hpA
  have hl_5 := hl.mono hpA.le
  refine hK _ _ (h5.sat' hpA.le [0, 1] (by kernel_rfl)) ?_; clear hK K; try clear Q'
  -- stops at: eff:call (Go.Op.call {'callee': (Go.Callee.value (Go.Operand.func 33)), 'args': [(Go.Operand.tmp 7), (Go.Operand.tmp 10), (Go.Operand.tmp 12)], 'argTypes': [32, 63, 26]} slot 13
  refine wpOrd_effQ rfl (fun K Q' hK => ?_); go_simp
  refine (put_ok H1 _ m _ _ pl p _ _ h5.pre (by omega) hA hl_5).mono ?_
  rintro e wB ⟨r, H2, rfl, hpB, hB⟩
  have h6 := h5.call hpB
  have hl_6 := hl_5.mono hpB.le
  refine hK _ _ (h6.sat' (GH.le.trans hpA.le hpB.le) [0, 1] (by kernel_rfl)) ?_; clear hK K; try clear Q'
  iterate 1 (refine wpOrd_quiet (v := ?_) rfl (fun _ _ _ => hQp _ _ _ _ _) ?_ ?_; rotate_left; (intro w' hS; (first | (go_simp; done) | (go_simp; with_reducible rfl))); simp only [Act.put, List.setIfInBounds_toArray, List.set_cons_zero, List.set_cons_succ])
  have c_0 := h6.cell 2 rfl 0 rfl
  have f_0 := h6.free 2 rfl 0
  refine wpOrd_effQ rfl (fun K Q' hK => ?_); go_simp
  clear c_0 f_0
  refine h6.k_set 2 rfl (fun w7 h7 => ?_)
  refine hK _ _ (h7.sat' (GH.le.trans hpA.le hpB.le) [0, 1] (by kernel_rfl)) ?_; clear hK K; try clear Q'
  refine wpOrd_nil (hQn _ _ ?_); clear hQn hQp QR
  show Code.wp _ _ _ _ _
  -- stops at: ret
  refine wp_ret ?_
  have r_2_0 := h7.cell 2 rfl 0 rfl
  first | show bodyPost _ _ _ _ _ _ | (simp only [Exit.then]; show bodyPost _ _ _ _ _ _) | (simp only [Exit.inBlock]; show bodyPost _ _ _ _ _ _) | (simp only [Exit.inBlock, Exit.then]; show bodyPost _ _ _ _ _ _) | (simp only [Exit.noGoto, Exit.inBlock, Exit.then]; show bodyPost _ _ _ _ _ _)
  refine bodyPost_ret (v := ?_) ?_ rfl ?_
  rotate_left
  · simp only [results, Tryd.results15]; go_simp; with_reducible rfl
  clear r_2_0
  exact ⟨r, H2, rfl, h7.post, hB⟩

set_option maxRecDepth 100000 in
set_option maxHeartbeats 2000000 in
theorem hmeld_ok' (H : GH) (w : World) (m : Option Nat) (c d : Int) (p q : Option Addr) (a b : List (Tr El)) (hpre : Pre w H m c d) (hn : Rw.size a + Rw.size b < 1000000) (ha : LsR H p a) (hb : LsR H q b) :
    Calls Tryd.prog 17 #[hV p, mV m, hV q] w fun e w' => ∃ r H', e = .returned (hV r) ∧ Post w H m w' H' (c + Rw.meldN kf a b) (d + Rw.meldN kf a b) ∧ LsR H' r (Rw.meld kf a b) := by
  go_enter Tryd.func17, Tryd.ntmps17
  have h0 := St.start hpre
  refine wp_seq ?_
  refine wp_region_lit ?_
  refine wpList_plainQ rfl (fun K Q' hK => ?_); go_simp
  refine h0.k_alloc (fun w1 h1 => ?_)
  refine hK _ _ ?_; clear hK K; try clear Q'
  refine wpList_plainQ rfl (fun K Q' hK => ?_); go_simp
  refine h1.k_alloc (fun w2 h2 => ?_)
  refine hK _ _ ?_; clear hK K; try clear Q'
  refine wpList_plainQ rfl (fun K Q' hK => ?_); go_simp
  refine h2.k_alloc (fun w3 h3 => ?_)
  refine hK _ _ ?_; clear hK K; try clear Q'
  refine wpList_nil ?_
  show Code.wp _ _ _ _ _
  refine wp_seq ?_
  refine wp_region_lit ?_
  have c_0_0 := h3.cell 0 rfl 0 rfl
  have c_1_0 := h3.cell 1 rfl 0 rfl
  iterate 5 (refine wpList_plainQ rfl (fun K Q' hK => ?_); go_simp; refine hK _ _ ?_; clear hK K; try clear Q')
  clear c_0_0 c_1_0
  -- stops at: eff:call (Go.Op.call {'callee': (Go.Callee.value (Go.Operand.func 27)), 'args': [(Go.Operand.tmp 7), (Go.Operand.tmp 9), (Go.Operand.tmp 11)], 'argTypes': [32, 26, 26]}) slot 12
  refine wpList_plainQ rfl (fun K Q' hK => ?_); go_simp
  refine (meld_ok a b H _ m _ _ p q h3.pre hn ha hb).mono ?_
  rintro e wB ⟨r, H2, rfl, hpB, hB⟩
  have h4 := h3.call hpB
  refine hK _ _ ?_; clear hK K; try clear Q'
  iterate 1 (refine wpList_plainQ rfl (fun K Q' hK => ?_); go_simp; refine hK _ _ ?_; clear hK K; try clear Q')
  have c_0 := h4.cell 2 rfl 0 rfl
  have f_0 := h4.free 2 rfl 0
  refine wpList_plainQ rfl (fun K Q' hK => ?_); go_simp
  clear c_0 f_0
  refine h4.k_set 2 rfl (fun w5 h5 => ?_)
  refine hK _ _ ?_; clear hK K; try clear Q'
  refine wpList_nil ?_
  show Code.wp _ _ _ _ _
  -- stops at: ret
  refine wp_ret ?_
  have r_2_0 := h5.cell 2 rfl 0 rfl
  first | show bodyPost _ _ _ _ _ _ | (simp only [Exit.then]; show bodyPost _ _ _ _ _ _) | (simp only [Exit.inBlock]; show bodyPost _ _ _ _ _ _) | (simp only [Exit.inBlock, Exit.then]; show bodyPost _ _ _ _ _ _) | (simp only [Exit.noGoto, Exit.inBlock, Exit.then]; show bodyPost _ _ _ _ _ _)
  refine bodyPost_ret (v := ?_) ?_ rfl ?_
  rotate_left
  · simp only [results, Tryd.results17]; go_simp; with_reducible rfl
  clear r_2_0
  exact ⟨r, H2, rfl, h5.post, hB⟩

theorem Rw.minT_some {l : List (Tr El)} (h : l ≠ []) : ∃ t, l[Rw.least kf l]? = some t := by
  have := Rw.least_lt kf h
  exact ⟨l[Rw.least kf l], by simp [this]⟩

set_option maxRecDepth 100000 in
set_option maxHeartbeats 2000000 in
theorem min_ok (H : GH) (w : World) (m : Option Nat) (c d : Int) (p : Option Addr) (l : List (Tr El)) (hpre : Pre w H m c d) (hn : Rw.size l < 1000000) (hl : LsR H p l) :
    Calls Tryd.prog 9 #[hV p, mV m] w fun e w' => ∃ H', e = .returned (.tuple #[elV ((Rw.min? kf l).getD (0, 0)), .bool (Rw.min? kf l).isSome]) ∧ Post w H m w' H' (c + (l.length - 1 : Nat)) d := by
  obtain ⟨ps, hcons, hrow⟩ := hl
  have hlb : ps.length < 1000000 := by have := hrow.1; have := Rw.length_le l; omega
  cases l with
  | nil =>
    obtain rfl := hrow.nil_of
    go_enter Tryd.func9, Tryd.ntmps9
    have h0 := St.start hpre
    refine wp_seq ?_
    refine wp_region_lit ?_
    refine wpList_plainQ rfl (fun K Q' hK => ?_); go_simp
    refine h0.k_alloc (fun w1 h1 => ?_)
    refine hK _ _ ?_; clear hK K; try clear Q'
    refine wpList_plainQ rfl (fun K Q' hK => ?_); go_simp
    refine h1.k_alloc (fun w2 h2 => ?_)
    refine hK _ _ ?_; clear hK K; try clear Q'
    iterate 1 (refine wpList_plainQ rfl (fun K Q' hK => ?_); go_simp; refine hK _ _ ?_; clear hK K; try clear Q')
    refine wpList_nil ?_
    show Code.wp _ _ _ _ _
    refine wp_seq ?_
    refine wp_region_lit ?_
    have c_0_0 := h2.cell 0 rfl 0 rfl
    iterate 2 (refine wpList_plainQ rfl (fun K Q' hK => ?_); go_simp; refine hK _ _ ?_; clear hK K; try clear Q')
    clear c_0_0
    -- stops at: eff:call (Go.Op.call {'callee': (Go.Callee.value (Go.Operand.func 23)), 'args': [(Go.Operand.tmp 8)], 'argTypes': [26]}) slot 9
    refine wpList_plainQ rfl (fun K Q' hK => ?_); go_simp
    refine (CTr.all_ok H _ p [] hlb h2.fits hcons).mono ?_
    rintro e wB ⟨v, rfl, hpB⟩
    obtain ⟨H5, h55, rA, leA⟩ := (h2.callrow hpB).settleRow 0 rfl
    skip
    obtain ⟨aA, cA, rfl, _, _⟩ := rA.nil_or
    refine hK _ _ ?_; clear hK K; try clear Q'
    iterate 1 (refine wpList_plainQ rfl (fun K Q' hK => ?_); go_simp; refine hK _ _ ?_; clear hK K; try clear Q')
    refine wpList_nil ?_
    show Code.wp _ _ _ _ _
    refine wp_seq ?_
    refine wp_seq ?_
    refine wp_region_lit ?_
    iterate 3 (refine wpList_plainQ rfl (fun K Q' hK => ?_); go_simp; refine hK _ _ ?_; clear hK K; try clear Q')
    refine wpList_nil ?_
    show Code.wp _ _ _ _ _
    -- stops at: cond
    refine wp_cond_true (rfl) ?_
    refine wp_seq ?_
    refine wp_region_lit ?_
    iterate 1 (refine wpList_plainQ rfl (fun K Q' hK => ?_); go_simp; refine hK _ _ ?_; clear hK K; try clear Q')
    have c_0 := h55.cell 1 rfl 0 rfl
    have f_0 := h55.free 1 rfl 0
    have c_1 := h55.cell 1 rfl 1 rfl
    have f_1 := h55.free 1 rfl 1
    refine wpList_plainQ rfl (fun K Q' hK => ?_); go_simp
    clear c_0 f_0 c_1 f_1
    refine (h55.set (i := 1) rfl 0 _).k_set 1 rfl (fun w4 h4 => ?_)
    refine hK _ _ ?_; clear hK K; try clear Q'
    iterate 1 (refine wpList_plainQ rfl (fun K Q' hK => ?_); go_simp; refine hK _ _ ?_; clear hK K; try clear Q')
    refine wpList_nil ?_
    show Code.wp _ _ _ _ _
    -- stops at: ret
    refine wp_ret ?_
    have r_1_0 := h4.cell 1 rfl 0 rfl
    have r_1_1 := h4.cell 1 rfl 1 rfl
    first | show bodyPost _ _ _ _ _ _ | (simp only [Exit.then]; show bodyPost _ _ _ _ _ _) | (simp only [Exit.inBlock]; show bodyPost _ _ _ _ _ _) | (simp only [Exit.inBlock, Exit.then]; show bodyPost _ _ _ _ _ _) | (simp only [Exit.noGoto, Exit.inBlock, Exit.then]; show bodyPost _ _ _ _ _ _)
    refine bodyPost_ret (v := ?_) ?_ rfl ?_
    rotate_left
    · simp only [results, Tryd.results9]; go_simp; with_reducible rfl
    clear r_1_0 r_1_1
    refine ⟨H5, rfl, ?_⟩
    simpa using h4.post
  | cons t0 l0 =>
    obtain ⟨bst, hbst⟩ : ∃ b, Hid (Rw.least kf (t0 :: l0) = b) := ⟨_, show _ = _ from rfl⟩
    obtain ⟨tb, htb⟩ := Rw.minT_some (l := t0 :: l0) (by simp)
    have hmin : Rw.min? kf (t0 :: l0) = some tb.x := by unfold Rw.min? Rw.minT; rw [htb]; rfl
    have hbl : bst < ps.length := by have := hbst.out; have := Rw.least_lt kf (l := t0 :: l0) (by simp); have := hrow.1; omega
    obtain ⟨pb, hpb⟩ : ∃ pb, ps[bst]? = some pb := ⟨ps[bst], by simp⟩
    rw [hbst.out] at htb
    have trb := hrow.2 _ _ _ hpb htb
    have gb : (ps.map Value.pointer)[bst]? = some (.pointer pb) := by simp [hpb]
    obtain ⟨nn, hnn⟩ : ∃ nn, Hid (ps.length = nn) := ⟨_, show _ = _ from rfl⟩
    have d1 : ((nn : Int) == 0) = false := beq_eq_false_iff_ne.2 (by have := hnn.out; omega)
    have hbn : bst < nn := by have := hnn.out; omega
    go_enter Tryd.func9, Tryd.ntmps9
    have h0 := St.start hpre
    refine wp_seq ?_
    refine wp_region_lit ?_
    refine wpList_plainQ rfl (fun K Q' hK => ?_); go_simp
    refine h0.k_alloc (fun w1 h1 => ?_)
    refine hK _ _ ?_; clear hK K; try clear Q'
    refine wpList_plainQ rfl (fun K Q' hK => ?_); go_simp
    refine h1.k_alloc (fun w2 h2 => ?_)
    refine hK _ _ ?_; clear hK K; try clear Q'
    iterate 1 (refine wpList_plainQ rfl (fun K Q' hK => ?_); go_simp; refine hK _ _ ?_; clear hK K; try clear Q')
    refine wpList_nil ?_
    show Code.wp _ _ _ _ _
    refine wp_seq ?_
    refine wp_region_lit ?_
    have c_0_0 := h2.cell 0 rfl 0 rfl
    iterate 2 (refine wpList_plainQ rfl (fun K Q' hK => ?_); go_simp; refine hK _ _ ?_; clear hK K; try clear Q')
    clear c_0_0
    -- stops at: eff:call (Go.Op.call {'callee': (Go.Callee.value (Go.Operand.func 23)), 'args': [(Go.Operand.tmp 8)], 'argTypes': [26]}) slot 9
    refine wpList_plainQ rfl (fun K Q' hK => ?_); go_simp
    refine (CTr.all_ok H _ p ps hlb h2.fits hcons).mono ?_
    rintro e wB ⟨v, rfl, hpB⟩
    obtain ⟨H5, h55, rA, leA⟩ := (h2.callrow hpB).settleRow 0 rfl
    rw [hnn.out] at rA
    obtain ⟨aA, cA, rfl, _, _⟩ := rA.nil_or
    refine hK _ _ ?_; clear hK K; try clear Q'
    iterate 1 (refine wpList_plainQ rfl (fun K Q' hK => ?_); go_simp; refine hK _ _ ?_; clear hK K; try clear Q')
    refine wpList_nil ?_
    show Code.wp _ _ _ _ _
    refine wp_seq ?_
    refine wp_seq ?_
    refine wp_region_lit ?_
    iterate 3 (refine wpList_plainQ rfl (fun K Q' hK => ?_); go_simp; refine hK _ _ ?_; clear hK K; try clear Q')
    refine wpList_nil ?_
    show Code.wp _ _ _ _ _
    -- stops at: cond
    obtain ⟨b9, o9, cap9, e9, _⟩ := rA.ne_nil (by omega)
    simp only [Value.slice.injEq, true_and] at e9
    obtain ⟨rfl, rfl⟩ := e9
    refine wp_cond_false (rfl) ?_
    refine wp_skip ?_
    show Code.wp _ _ _ _ _
    refine wp_seq ?_
    refine wp_region_lit ?_
    iterate 3 (refine wpList_plainQ rfl (fun K Q' hK => ?_); go_simp; refine hK _ _ ?_; clear hK K; try clear Q')
    -- stops at: eff:call (Go.Op.call {'callee': (Go.Callee.value (Go.Operand.func 24)), 'args': [(Go.Operand.tmp 15), (Go.Operand.tmp 16)], 'argTypes': [32, 61]}) slot 17
    refine wpList_plainQ rfl (fun K Q' hK => ?_); go_simp
    refine (least_ok H5 _ m _ _ ps _ t0 l0 h55.pre hn (by rw [hnn.out]; exact rA) (hrow.mono leA)).mono ?_
    rintro e wC ⟨H6, rfl, hpC⟩
    rw [hbst.out]
    have h4 := h55.call hpC
    refine hK _ _ ?_; clear hK K; try clear Q'
    iterate 1 (refine wpList_plainQ rfl (fun K Q' hK => ?_); go_simp; refine hK _ _ ?_; clear hK K; try clear Q')
    -- stops at: load (Go.Op.load 63 (Go.Operand.tmp 18)) slot 19
    have ce := rA.cell (h4.fits.le hpC.le) _ gb
    iterate 1 (refine wpList_plainQ rfl (fun K Q' hK => ?_); go_simp; refine hK _ _ ?_; clear hK K; try clear Q')
    clear ce
    -- stops at: eff:call (Go.Op.call {'callee': (Go.Callee.value (Go.Operand.func 30)), 'args': [(Go.Operand.tmp 19)], 'argTypes': [63]}) slot 20
    refine wpList_plainQ rfl (fun K Q' hK => ?_); go_simp
    refine (root_ok H6 _ pb tb h4.fits ((trb.mono leA).mono hpC.le)).mono ?_
    rintro e wD ⟨rfl, hkD⟩
    have h5 := h4.callk hkD
    refine hK _ _ ?_; clear hK K; try clear Q'
    iterate 2 (refine wpList_plainQ rfl (fun K Q' hK => ?_); go_simp; refine hK _ _ ?_; clear hK K; try clear Q')
    have c_0 := h5.cell 1 rfl 0 rfl
    have f_0 := h5.free 1 rfl 0
    have c_1 := h5.cell 1 rfl 1 rfl
    have f_1 := h5.free 1 rfl 1
    refine wpList_plainQ rfl (fun K Q' hK => ?_); go_simp
    clear c_0 f_0 c_1 f_1
    refine (h5.set (i := 1) rfl 0 _).k_set 1 rfl (fun w6 h6 => ?_)
    refine hK _ _ ?_; clear hK K; try clear Q'
    iterate 1 (refine wpList_plainQ rfl (fun K Q' hK => ?_); go_simp; refine hK _ _ ?_; clear hK K; try clear Q')
    refine wpList_nil ?_
    show Code.wp _ _ _ _ _
    -- stops at: ret
    refine wp_ret ?_
    have r_1_0 := h6.cell 1 rfl 0 rfl
    have r_1_1 := h6.cell 1 rfl 1 rfl
    first | show bodyPost _ _ _ _ _ _ | (simp only [Exit.then]; show bodyPost _ _ _ _ _ _) | (simp only [Exit.inBlock]; show bodyPost _ _ _ _ _ _) | (simp only [Exit.inBlock, Exit.then]; show bodyPost _ _ _ _ _ _) | (simp only [Exit.noGoto, Exit.inBlock, Exit.then]; show bodyPost _ _ _ _ _ _)
    refine bodyPost_ret (v := ?_) ?_ rfl ?_
    rotate_left
    · simp only [results, Tryd.results9]; go_simp; with_reducible rfl
    clear r_1_0 r_1_1
    refine ⟨H6, by rw [hmin]; rfl, ?_⟩
    simpa using h6.post
end Go.Proofs.YtenhjgdflgcjnaaDoor
