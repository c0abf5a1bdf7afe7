/-
Trees with ranks in memory: one of two, and what is told of one.
-/
import Derived.Test.YteigmfkkeofcaaaGreatDoorOaRank
namespace Go.Proofs.YteigmfkkeofcaaaGreatDoor
open Go Go.RowKit
set_option linter.unusedVariables false

/-- By what a thing is in order. -/
abbrev kf (x : El) : El := x

set_option maxRecDepth 100000 in
theorem key_ok (H : GH) (w : World) (x : El) (hf : Fits w H) (hx : ∀ y ∈ [x], True) :
    Calls Tryz.prog 131 #[elV x] w fun e w' => e = .returned (elV (kf x)) ∧ Keep none w w' := by
  have hpre : Pre w H none 0 0 := Pre.none hf 0 0
  go_enter Tryz.func131, Tryz.ntmps131
  have h0 := St.start hpre
  refine wp_seq ?_
  refine wp_region_lit ?_
  refine wpList_plainQ rfl (fun K Q' hK => ?_); go_simp
  refine h0.k_alloc (fun w1 h1 => ?_)
  refine hK _ _ ?_; clear hK K; try clear Q'
  refine wpList_plainQ rfl (fun K Q' hK => ?_); go_simp
  refine h1.k_alloc (fun w2 h2 => ?_)
  refine hK _ _ ?_; clear hK K; try clear Q'
  refine wpList_nil ?_
  show Code.wp _ _ _ _ _
  refine wp_seq ?_
  refine wp_region_lit ?_
  have c_0_0 := h2.cell 0 rfl 0 rfl
  have c_0_1 := h2.cell 0 rfl 1 rfl
  iterate 1 (refine wpList_plainQ rfl (fun K Q' hK => ?_); go_simp; refine hK _ _ ?_; clear hK K; try clear Q')
  clear c_0_0 c_0_1
  have c_0 := h2.cell 1 rfl 0 rfl
  have f_0 := h2.free 1 rfl 0
  have c_1 := h2.cell 1 rfl 1 rfl
  have f_1 := h2.free 1 rfl 1
  refine wpList_plainQ rfl (fun K Q' hK => ?_); go_simp
  clear c_0 f_0 c_1 f_1
  refine (h2.set (i := 1) rfl 0 _).k_set 1 rfl (fun w3 h3 => ?_)
  refine hK _ _ ?_; clear hK K; try clear Q'
  refine wpList_nil ?_
  show Code.wp _ _ _ _ _
  -- stops at: ret
  refine wp_ret ?_
  have r_1_0 := h3.cell 1 rfl 0 rfl
  have r_1_1 := h3.cell 1 rfl 1 rfl
  first | show bodyPost _ _ _ _ _ _ | (simp only [Exit.then]; show bodyPost _ _ _ _ _ _) | (simp only [Exit.inBlock]; show bodyPost _ _ _ _ _ _) | (simp only [Exit.inBlock, Exit.then]; show bodyPost _ _ _ _ _ _) | (simp only [Exit.noGoto, Exit.inBlock, Exit.then]; show bodyPost _ _ _ _ _ _)
  refine bodyPost_ret (v := ?_) ?_ rfl ?_
  rotate_left
  · simp only [results, Tryz.results131]; go_simp; with_reducible rfl
  clear r_1_0 r_1_1
  exact ⟨rfl, h3.post.keep⟩

set_option maxRecDepth 100000 in
set_option maxHeartbeats 1000000 in
theorem ahead_ok (H : GH) (w : World) (p : Option Addr) (ks : List (Option Addr)) (kv : Value) (hn : ks.length < 1000000) (hf : Fits w H) (hk : SliceRep H 1 kv ks.length (ks.map .pointer)) :
    Calls Tryz.prog 97 #[.pointer p, kv] w fun e w' => ∃ v H', e = .returned v ∧ Post w H none w' H' 0 0 ∧ SliceRep H' 1 v (p :: ks).length ((p :: ks).map .pointer) := by
  have hpre : Pre w H none 0 0 := Pre.none hf 0 0
  obtain ⟨aK, cK, rfl, _, _⟩ := hk.nil_or
  go_enter Tryz.func97, Tryz.ntmps97
  have h0 := St.start hpre
  refine wp_seq ?_
  refine wp_region_lit ?_
  iterate 1 (refine wpList_plainQ rfl (fun K Q' hK => ?_); go_simp; refine hK _ _ ?_; clear hK K; try clear Q')
  refine wpList_nil ?_
  show Code.wp _ _ _ _ _
  refine wp_seq ?_
  refine wp_region_lit ?_
  iterate 1 (refine wpList_plainQ rfl (fun K Q' hK => ?_); go_simp; refine hK _ _ ?_; clear hK K; try clear Q')
  refine wpList_plainQ rfl (fun K Q' hK => ?_); go_simp
  refine h0.k_alloc (fun w1 h1 => ?_)
  refine hK _ _ ?_; clear hK K; try clear Q'
  iterate 1 (refine wpList_plainQ rfl (fun K Q' hK => ?_); go_simp; refine hK _ _ ?_; clear hK K; try clear Q')
  -- stops at: eff:Builtin.append (Go.Op.call {'callee': (Go.Callee.builtin Go.Builtin.append), 'args': [(Go.Operand.tmp 6), (Go.Operand.tmp 7)], 'argTypes': [107, 107]}) slot 8
  have hR := h1.rowOf 0 rfl 1 1 rfl (by unfold maxLen; omega)
  refine wpList_plainQ rfl (fun K Q' hK => ?_)
  refine hR.op_append_rep 0 rfl rfl infoTr rfl (ks.map .pointer) rfl hk (by simp [Value.oneCell']) (by omega) (by unfold maxLen; omega) (fun v1 wB hB => ?_)
  refine hK _ _ ?_; clear hK K; try clear Q'
  obtain ⟨H6, h6, rA, leA⟩ := hB.settleRow 0 rfl
  iterate 1 (refine wpList_plainQ rfl (fun K Q' hK => ?_); go_simp; refine hK _ _ ?_; clear hK K; try clear Q')
  refine wpList_nil ?_
  show Code.wp _ _ _ _ _
  -- stops at: ret
  refine wp_ret ?_
  go_ret
  refine ⟨v1, H6, rfl, h6.post, ?_⟩
  rw [Nat.add_comm] at rA
  exact rA

set_option maxRecDepth 100000 in
set_option maxHeartbeats 2000000 in
theorem leaf_ok (H : GH) (w : World) (m : Option Nat) (c d : Int) (x : El) (hpre : Pre w H m c d) (hx : ∀ y ∈ [x], True) :
    Calls Tryz.prog 50 #[mV m, elV x] w fun e w' => ∃ p H', e = .returned (.pointer p) ∧ Post w H m w' H' c (d + 1) ∧ TrR H' p (Tr.leaf x) := by
  go_enter Tryz.func50, Tryz.ntmps50
  have h0 := St.start hpre
  refine wp_seq ?_
  refine wp_region_lit ?_
  refine wpList_plainQ rfl (fun K Q' hK => ?_); go_simp
  refine h0.k_alloc (fun w1 h1 => ?_)
  refine hK _ _ ?_; clear hK K; try clear Q'
  iterate 1 (refine wpList_plainQ rfl (fun K Q' hK => ?_); go_simp; refine hK _ _ ?_; clear hK K; try clear Q')
  refine wpList_nil ?_
  show Code.wp _ _ _ _ _
  refine wp_seq ?_
  refine wp_region_lit ?_
  have c_0_0 := h1.cell 0 rfl 0 rfl
  have c_0_1 := h1.cell 0 rfl 1 rfl
  iterate 3 (refine wpList_plainQ rfl (fun K Q' hK => ?_); go_simp; refine hK _ _ ?_; clear hK K; try clear Q')
  clear c_0_0 c_0_1
  -- stops at: eff:call (Go.Op.call {'callee': (Go.Callee.value (Go.Operand.func 78)), 'args': [(Go.Operand.tmp 5), (Go.Operand.tmp 7)], 'argTypes': [25, 135]}) slot 8
  refine wpList_plainQ rfl (fun K Q' hK => ?_); go_simp
  refine (tmade_ok H _ m c d x [] .nil [] (.slice none 0 0) (.slice none 0 0) 0 (show _ = _ from rfl) h1.pre (by simp [RT.els]) (SlR.nil _ _) (SlR.nil _ _) hx (show _ = _ from rfl)).mono ?_
  rintro e wA ⟨p, H1, rfl, hpA, hA⟩
  have h2 := h1.call hpA
  refine hK _ _ ?_; clear hK K; try clear Q'
  iterate 1 (refine wpList_plainQ rfl (fun K Q' hK => ?_); go_simp; refine hK _ _ ?_; clear hK K; try clear Q')
  refine wpList_nil ?_
  show Code.wp _ _ _ _ _
  -- stops at: ret
  refine wp_ret ?_
  go_ret
  exact ⟨p, H1, rfl, h2.post, hA⟩

set_option maxRecDepth 100000 in
set_option maxHeartbeats 4000000 in
theorem link_ok (H : GH) (w : World) (m : Option Nat) (c d : Int) (p q : Option Addr) (s t : Tr El) (hpre : Pre w H m c d) (hn : s.size + t.size < 1000000) (hs : TrR H p s) (ht : TrR H q t) :
    Calls Tryz.prog 77 #[mV m, .pointer p, .pointer q] w fun e w' => ∃ r H', e = .returned (.pointer r) ∧ Post w H m w' H' (c + 1) (d + 1) ∧ TrR H' r (Tr.link kf s t) := by
  have hs' := hs
  have ht' := ht
  obtain ⟨bp, aB, cB, aK, cK, rs, ss, ks, rfl, hrs, hss, hbp, sb, sk, sx, st⟩ := hs.open
  obtain ⟨bq, aC, cC, aL, cL, rt, tt, kt, rfl, hrt, htt, hbq, tb, tk, tx, tr⟩ := ht.open
  have hls := Tr.rank_lt s
  have hlt' := Tr.rank_lt t
  have lks' : ks.length < 1000000 := by have := st.length; unfold Tr.rank at hls; omega
  have lkt' : kt.length < 1000000 := by have := tr.length; unfold Tr.rank at hlt'; omega
  have nn1 : 1 + s.b.length + (RT.push t s.k).els.length < 1000000 := by
    rw [Tr.push_els]; simp [Tr.size, Tr.els] at *; omega
  have nn2 : 1 + t.b.length + (RT.push s t.k).els.length < 1000000 := by
    rw [Tr.push_els]; simp [Tr.size, Tr.els] at *; omega
  cases hlt : El.lt (kf t.x) (kf s.x) with
  | false =>
    obtain ⟨r1, hr1⟩ : ∃ r1, Hid (rs + 1 = r1) := ⟨_, show _ = _ from rfl⟩
    have e1 : IntKind.i64.wrap ((rs : Int) + 1) = (r1 : Int) := by have := hr1.out; have := hrs.out; rw [IntWalk.i64_in _ (by omega)]; omega
    go_enter Tryz.func77, Tryz.ntmps77
    have h0 := St.start hpre
    refine wp_seq ?_
    refine wp_region_lit ?_
    iterate 1 (refine wpList_plainQ rfl (fun K Q' hK => ?_); go_simp; refine hK _ _ ?_; clear hK K; try clear Q')
    refine wpList_nil ?_
    show Code.wp _ _ _ _ _
    refine wp_seq ?_
    refine wp_block ?_
    refine wp_seq ?_
    refine wp_region_lit ?_
    iterate 3 (refine wpList_plainQ rfl (fun K Q' hK => ?_); go_simp; refine hK _ _ ?_; clear hK K; try clear Q')
    refine wpList_nil ?_
    show Code.wp _ _ _ _ _
    -- stops at: cond
    refine wp_cond_false (rfl) ?_
    refine wp_seq ?_
    refine wp_region_lit ?_
    iterate 3 (refine wpList_plainQ rfl (fun K Q' hK => ?_); go_simp; refine hK _ _ ?_; clear hK K; try clear Q')
    refine wpList_nil ?_
    show Code.wp _ _ _ _ _
    -- stops at: cond
    refine wp_cond_false (rfl) ?_
    refine wp_skip ?_
    show Code.wp _ _ _ _ _
    refine wp_seq ?_
    refine wp_seq ?_
    refine h0.region [] [(0, true), (1, true), (2, true), (3, true), (4, true), (5, true), (7, true), (8, true), (9, true), (10, true), (11, true), (6, false), (12, false), (13, false)] (by kernel_rfl) (by kernel_rfl) (fun w1 h1 => ?_)
    refine wpOrd_hide (fun _ _ d _ _ h => by cases d <;> exact h) (fun QR hQn hQp => ?_)
    simp only [ordOps, List.map_cons, List.map_nil, List.getD_cons_zero, List.getD_cons_succ]
    iterate 11 (refine wpOrd_quiet (v := ?_) rfl (fun _ _ _ => hQp _ _ _ _ _) ?_ ?_; rotate_left; (intro w' hS; have c_hbq_1 := hS.gh hbq 1 rfl; have c_hbq_2 := hS.gh hbq 2 rfl; have c_hbp_1 := hS.gh hbp 1 rfl; have c_hbp_2 := hS.gh hbp 2 rfl; (first | (go_simp; done) | (go_simp; with_reducible rfl))); simp only [Act.put, List.setIfInBounds_toArray, List.set_cons_zero, List.set_cons_succ])
    -- stops at: eff:call (Go.Op.call {'callee': (Go.Callee.invoke (Go.Operand.tmp 20) ('str', 'Key')), 'args': [], 'argTypes': []}) slot 21
    refine wpOrd_effQ rfl (fun K Q' hK => ?_); go_simp
    refine (key_ok H _ t.x h1.fits (fun y hy => tx y (List.mem_cons.2 (.inl (List.mem_singleton.1 hy))))).mono ?_
    rintro e wK1 ⟨rfl, hkK1⟩
    have h2 := h1.callk hkK1
    refine hK _ _ (h2.sat' (GH.le_refl _) [] (by kernel_rfl)) ?_; clear hK K; try clear Q'
    -- stops at: eff:call (Go.Op.call {'callee': (Go.Callee.invoke (Go.Operand.tmp 26) ('str', 'Key')), 'args': [], 'argTypes': []}) slot 27
    refine wpOrd_effQ rfl (fun K Q' hK => ?_); go_simp
    refine (key_ok H _ s.x h2.fits (fun y hy => sx y (List.mem_cons.2 (.inl (List.mem_singleton.1 hy))))).mono ?_
    rintro e wK2 ⟨rfl, hkK2⟩
    have h3 := h2.callk hkK2
    refine hK _ _ (h3.sat' (GH.le_refl _) [] (by kernel_rfl)) ?_; clear hK K; try clear Q'
    -- stops at: eff:call (Go.Op.call {'callee': (Go.Callee.value (Go.Operand.func 24)), 'args': [(Go.Operand.tmp 15), (Go.Operand.tmp 21), (Go.Operand.tmp 27)], 'argTypes': [25, 32, 32] slot 28
    refine wpOrd_effQ rfl (fun K Q' hK => ?_); go_simp
    refine (less_ok H _ m c d (kf t.x) (kf s.x) h3.pre).mono ?_
    rintro e wA ⟨H1, rfl, hpA⟩
    rw [hlt]
    have h4 := h3.call hpA
    have hbp_4 := hpA.le _ _ hbp
    have hbq_4 := hpA.le _ _ hbq
    refine hK _ _ (h4.sat' hpA.le [] (by kernel_rfl)) ?_; clear hK K; try clear Q'
    refine wpOrd_nil (hQn _ _ ?_); clear hQn hQp QR
    show Code.wp _ _ _ _ _
    -- stops at: cond
    refine wp_cond_false (rfl) ?_
    refine wp_skip ?_
    show Code.wp _ _ _ _ _
    refine wp_seq ?_
    refine h4.region [] [(0, true), (1, true), (2, true), (3, true), (4, true), (5, true), (6, true), (7, true), (8, true), (9, true), (10, true), (11, true), (12, true), (13, true), (14, true), (15, true), (16, true), (17, true), (18, true), (19, false), (20, true), (21, false), (22, true)] (by kernel_rfl) (by kernel_rfl) (fun w5 h5 => ?_)
    refine wpOrd_hide (fun _ _ d _ _ h => by cases d <;> exact h) (fun QR hQn hQp => ?_)
    simp only [ordOps, List.map_cons, List.map_nil, List.getD_cons_zero, List.getD_cons_succ]
    iterate 19 (refine wpOrd_quiet (v := ?_) rfl (fun _ _ _ => hQp _ _ _ _ _) ?_ ?_; rotate_left; (intro w' hS; have c_hbp_0 := hS.gh hbp_4 0 rfl; have c_hbp_1 := hS.gh hbp_4 1 rfl; have c_hbp_2 := hS.gh hbp_4 2 rfl; have c_hbp_3 := hS.gh hbp_4 3 rfl; have c_hbp_4 := hS.gh hbp_4 4 rfl; (first | (go_simp; done) | (go_simp; with_reducible rfl))); simp only [Act.put, List.setIfInBounds_toArray, List.set_cons_zero, List.set_cons_succ])
    -- stops at: eff:call (Go.Op.call {'callee': (Go.Callee.value (Go.Operand.func 97)), 'args': [(Go.Operand.tmp 45), (Go.Operand.tmp 49)], 'argTypes': [94, 107]}) slot 50
    refine wpOrd_effQ rfl (fun K Q' hK => ?_); go_simp
    refine (ahead_ok H1 _ (some ⟨bq, 0, none⟩) ks _ (by omega) h5.fits (sk.1.mono h5.le)).mono ?_
    rintro e wB ⟨kv, H2, rfl, hpB, hkv⟩
    obtain ⟨aV, cV, rfl, _, _⟩ := hkv.nil_or
    have h6 := h5.call0 hpB
    have hbp_6 := hpB.le _ _ hbp_4
    have hbq_6 := hpB.le _ _ hbq_4
    refine hK _ _ (h6.sat' hpB.le [] (by kernel_rfl)) ?_; clear hK K; try clear Q'
    iterate 1 (refine wpOrd_quiet (v := ?_) rfl (fun _ _ _ => hQp _ _ _ _ _) ?_ ?_; rotate_left; (intro w' hS; (first | (go_simp; done) | (go_simp; with_reducible rfl))); simp only [Act.put, List.setIfInBounds_toArray, List.set_cons_zero, List.set_cons_succ])
    -- stops at: eff:call (Go.Op.call {'callee': (Go.Callee.value (Go.Operand.func 78)), 'args': [(Go.Operand.tmp 31), (Go.Operand.tmp 51)], 'argTypes': [25, 135]}) slot 52
    refine wpOrd_effQ rfl (fun K Q' hK => ?_); go_simp
    refine (tmade_ok H2 _ m _ _ s.x s.b (.push t s.k) ((some ⟨bq, 0, none⟩) :: ks) _ _ r1 (by have := hr1.out; have := hrs.out; show _ = _; simp only [RT.push, RT.len]; unfold Tr.rank at this; omega) h6.pre nn1 (sb.mono h6.le) ⟨hkv, by simp⟩ (fun _ _ => trivial) (TreesR.push (ht'.mono h6.le) (st.mono h6.le))).mono ?_
    rintro e wC ⟨p9, H3, rfl, hpC, hC⟩
    have h7 := h6.call hpC
    have hbp_7 := hpC.le _ _ hbp_6
    have hbq_7 := hpC.le _ _ hbq_6
    refine hK _ _ (h7.sat' (GH.le.trans hpB.le hpC.le) [] (by kernel_rfl)) ?_; clear hK K; try clear Q'
    iterate 1 (refine wpOrd_quiet (v := ?_) rfl (fun _ _ _ => hQp _ _ _ _ _) ?_ ?_; rotate_left; (intro w' hS; (first | (go_simp; done) | (go_simp; with_reducible rfl))); simp only [Act.put, List.setIfInBounds_toArray, List.set_cons_zero, List.set_cons_succ])
    refine wpOrd_nil (hQn _ _ ?_); clear hQn hQp QR
    show Code.wp _ _ _ _ _
    -- stops at: ret
    refine wp_ret ?_
    go_ret
    refine ⟨p9, H3, rfl, h7.post, ?_⟩
    rw [Tr.link_ge kf hlt]
    exact hC
  | true =>
    obtain ⟨r1, hr1⟩ : ∃ r1, Hid (rt + 1 = r1) := ⟨_, show _ = _ from rfl⟩
    have e1 : IntKind.i64.wrap ((rt : Int) + 1) = (r1 : Int) := by have := hr1.out; have := hrt.out; rw [IntWalk.i64_in _ (by omega)]; omega
    go_enter Tryz.func77, Tryz.ntmps77
    have h0 := St.start hpre
    refine wp_seq ?_
    refine wp_region_lit ?_
    iterate 1 (refine wpList_plainQ rfl (fun K Q' hK => ?_); go_simp; refine hK _ _ ?_; clear hK K; try clear Q')
    refine wpList_nil ?_
    show Code.wp _ _ _ _ _
    refine wp_seq ?_
    refine wp_block ?_
    refine wp_seq ?_
    refine wp_region_lit ?_
    iterate 3 (refine wpList_plainQ rfl (fun K Q' hK => ?_); go_simp; refine hK _ _ ?_; clear hK K; try clear Q')
    refine wpList_nil ?_
    show Code.wp _ _ _ _ _
    -- stops at: cond
    refine wp_cond_false (rfl) ?_
    refine wp_seq ?_
    refine wp_region_lit ?_
    iterate 3 (refine wpList_plainQ rfl (fun K Q' hK => ?_); go_simp; refine hK _ _ ?_; clear hK K; try clear Q')
    refine wpList_nil ?_
    show Code.wp _ _ _ _ _
    -- stops at: cond
    refine wp_cond_false (rfl) ?_
    refine wp_skip ?_
    show Code.wp _ _ _ _ _
    refine wp_seq ?_
    refine wp_seq ?_
    refine h0.region [] [(0, true), (1, true), (2, true), (3, true), (4, true), (5, true), (7, true), (8, true), (9, true), (10, true), (11, true), (6, false), (12, false), (13, false)] (by kernel_rfl) (by kernel_rfl) (fun w1 h1 => ?_)
    refine wpOrd_hide (fun _ _ d _ _ h => by cases d <;> exact h) (fun QR hQn hQp => ?_)
    simp only [ordOps, List.map_cons, List.map_nil, List.getD_cons_zero, List.getD_cons_succ]
    iterate 11 (refine wpOrd_quiet (v := ?_) rfl (fun _ _ _ => hQp _ _ _ _ _) ?_ ?_; rotate_left; (intro w' hS; have c_hbq_1 := hS.gh hbq 1 rfl; have c_hbq_2 := hS.gh hbq 2 rfl; have c_hbp_1 := hS.gh hbp 1 rfl; have c_hbp_2 := hS.gh hbp 2 rfl; (first | (go_simp; done) | (go_simp; with_reducible rfl))); simp only [Act.put, List.setIfInBounds_toArray, List.set_cons_zero, List.set_cons_succ])
    -- stops at: eff:call (Go.Op.call {'callee': (Go.Callee.invoke (Go.Operand.tmp 20) ('str', 'Key')), 'args': [], 'argTypes': []}) slot 21
    refine wpOrd_effQ rfl (fun K Q' hK => ?_); go_simp
    refine (key_ok H _ t.x h1.fits (fun y hy => tx y (List.mem_cons.2 (.inl (List.mem_singleton.1 hy))))).mono ?_
    rintro e wK1 ⟨rfl, hkK1⟩
    have h2 := h1.callk hkK1
    refine hK _ _ (h2.sat' (GH.le_refl _) [] (by kernel_rfl)) ?_; clear hK K; try clear Q'
    -- stops at: eff:call (Go.Op.call {'callee': (Go.Callee.invoke (Go.Operand.tmp 26) ('str', 'Key')), 'args': [], 'argTypes': []}) slot 27
    refine wpOrd_effQ rfl (fun K Q' hK => ?_); go_simp
    refine (key_ok H _ s.x h2.fits (fun y hy => sx y (List.mem_cons.2 (.inl (List.mem_singleton.1 hy))))).mono ?_
    rintro e wK2 ⟨rfl, hkK2⟩
    have h3 := h2.callk hkK2
    refine hK _ _ (h3.sat' (GH.le_refl _) [] (by kernel_rfl)) ?_; clear hK K; try clear Q'
    -- stops at: eff:call (Go.Op.call {'callee': (Go.Callee.value (Go.Operand.func 24)), 'args': [(Go.Operand.tmp 15), (Go.Operand.tmp 21), (Go.Operand.tmp 27)], 'argTypes': [25, 32, 32] slot 28
    refine wpOrd_effQ rfl (fun K Q' hK => ?_); go_simp
    refine (less_ok H _ m c d (kf t.x) (kf s.x) h3.pre).mono ?_
    rintro e wA ⟨H1, rfl, hpA⟩
    rw [hlt]
    have h4 := h3.call hpA
    have hbp_4 := hpA.le _ _ hbp
    have hbq_4 := hpA.le _ _ hbq
    refine hK _ _ (h4.sat' hpA.le [] (by kernel_rfl)) ?_; clear hK K; try clear Q'
    refine wpOrd_nil (hQn _ _ ?_); clear hQn hQp QR
    show Code.wp _ _ _ _ _
    -- stops at: cond
    refine wp_cond_true (rfl) ?_
    refine wp_region_lit ?_
    iterate 4 (refine wpList_plainQ rfl (fun K Q' hK => ?_); go_simp; refine hK _ _ ?_; clear hK K; try clear Q')
    refine wpList_nil ?_
    show Code.wp _ _ _ _ _
    refine wp_seq ?_
    refine h4.region [] [(0, true), (1, true), (2, true), (3, true), (4, true), (5, true), (6, true), (7, true), (8, true), (9, true), (10, true), (11, true), (12, true), (13, true), (14, true), (15, true), (16, true), (17, true), (18, true), (19, false), (20, true), (21, false), (22, true)] (by kernel_rfl) (by kernel_rfl) (fun w5 h5 => ?_)
    refine wpOrd_hide (fun _ _ d _ _ h => by cases d <;> exact h) (fun QR hQn hQp => ?_)
    simp only [ordOps, List.map_cons, List.map_nil, List.getD_cons_zero, List.getD_cons_succ]
    iterate 19 (refine wpOrd_quiet (v := ?_) rfl (fun _ _ _ => hQp _ _ _ _ _) ?_ ?_; rotate_left; (intro w' hS; have c_hbq_0 := hS.gh hbq_4 0 rfl; have c_hbq_1 := hS.gh hbq_4 1 rfl; have c_hbq_2 := hS.gh hbq_4 2 rfl; have c_hbq_3 := hS.gh hbq_4 3 rfl; have c_hbq_4 := hS.gh hbq_4 4 rfl; (first | (go_simp; done) | (go_simp; with_reducible rfl))); simp only [Act.put, List.setIfInBounds_toArray, List.set_cons_zero, List.set_cons_succ])
    -- stops at: eff:call (Go.Op.call {'callee': (Go.Callee.value (Go.Operand.func 97)), 'args': [(Go.Operand.tmp 45), (Go.Operand.tmp 49)], 'argTypes': [94, 107]}) slot 50
    refine wpOrd_effQ rfl (fun K Q' hK => ?_); go_simp
    refine (ahead_ok H1 _ (some ⟨bp, 0, none⟩) kt _ (by omega) h5.fits (tk.1.mono h5.le)).mono ?_
    rintro e wB ⟨kv, H2, rfl, hpB, hkv⟩
    obtain ⟨aV, cV, rfl, _, _⟩ := hkv.nil_or
    have h6 := h5.call0 hpB
    have hbp_6 := hpB.le _ _ hbp_4
    have hbq_6 := hpB.le _ _ hbq_4
    refine hK _ _ (h6.sat' hpB.le [] (by kernel_rfl)) ?_; clear hK K; try clear Q'
    iterate 1 (refine wpOrd_quiet (v := ?_) rfl (fun _ _ _ => hQp _ _ _ _ _) ?_ ?_; rotate_left; (intro w' hS; (first | (go_simp; done) | (go_simp; with_reducible rfl))); simp only [Act.put, List.setIfInBounds_toArray, List.set_cons_zero, List.set_cons_succ])
    -- stops at: eff:call (Go.Op.call {'callee': (Go.Callee.value (Go.Operand.func 78)), 'args': [(Go.Operand.tmp 31), (Go.Operand.tmp 51)], 'argTypes': [25, 135]}) slot 52
    refine wpOrd_effQ rfl (fun K Q' hK => ?_); go_simp
    refine (tmade_ok H2 _ m _ _ t.x t.b (.push s t.k) ((some ⟨bp, 0, none⟩) :: kt) _ _ r1 (by have := hr1.out; have := hrt.out; show _ = _; simp only [RT.push, RT.len]; unfold Tr.rank at this; omega) h6.pre nn2 (tb.mono h6.le) ⟨hkv, by simp⟩ (fun _ _ => trivial) (TreesR.push (hs'.mono h6.le) (tr.mono h6.le))).mono ?_
    rintro e wC ⟨p9, H3, rfl, hpC, hC⟩
    have h7 := h6.call hpC
    have hbp_7 := hpC.le _ _ hbp_6
    have hbq_7 := hpC.le _ _ hbq_6
    refine hK _ _ (h7.sat' (GH.le.trans hpB.le hpC.le) [] (by kernel_rfl)) ?_; clear hK K; try clear Q'
    iterate 1 (refine wpOrd_quiet (v := ?_) rfl (fun _ _ _ => hQp _ _ _ _ _) ?_ ?_; rotate_left; (intro w' hS; (first | (go_simp; done) | (go_simp; with_reducible rfl))); simp only [Act.put, List.setIfInBounds_toArray, List.set_cons_zero, List.set_cons_succ])
    refine wpOrd_nil (hQn _ _ ?_); clear hQn hQp QR
    show Code.wp _ _ _ _ _
    -- stops at: ret
    refine wp_ret ?_
    go_ret
    refine ⟨p9, H3, rfl, h7.post, ?_⟩
    rw [Tr.link_lt kf hlt]
    exact hC

set_option maxRecDepth 100000 in
theorem rank_ok (H : GH) (w : World) (p : Option Addr) (t : Tr El) (hf : Fits w H) (ht : TrR H p t) :
    Calls Tryz.prog 46 #[.pointer p] w fun e w' => e = .returned (.int .i64 (t.rank : Nat)) ∧ Keep none w w' := by
  have hpre : Pre w H none 0 0 := Pre.none hf 0 0
  obtain ⟨bp, aB, cB, aK, cK, rs, ss, ks, rfl, hrs, hss, hbp, sb, sk, sx, st⟩ := ht.open
  go_enter Tryz.func46, Tryz.ntmps46
  have h0 := St.start hpre
  refine wp_seq ?_
  refine wp_region_lit ?_
  iterate 1 (refine wpList_plainQ rfl (fun K Q' hK => ?_); go_simp; refine hK _ _ ?_; clear hK K; try clear Q')
  refine wpList_nil ?_
  show Code.wp _ _ _ _ _
  refine wp_seq ?_
  refine wp_seq ?_
  refine wp_region_lit ?_
  iterate 2 (refine wpList_plainQ rfl (fun K Q' hK => ?_); go_simp; refine hK _ _ ?_; clear hK K; try clear Q')
  refine wpList_nil ?_
  show Code.wp _ _ _ _ _
  -- stops at: cond
  refine wp_cond_false (rfl) ?_
  refine wp_skip ?_
  show Code.wp _ _ _ _ _
  refine wp_seq ?_
  refine wp_region_lit ?_
  have c_hbp_0 := h0.gh hbp 0 rfl
  iterate 5 (refine wpList_plainQ rfl (fun K Q' hK => ?_); go_simp; refine hK _ _ ?_; clear hK K; try clear Q')
  clear c_hbp_0
  refine wpList_nil ?_
  show Code.wp _ _ _ _ _
  -- stops at: ret
  refine wp_ret ?_
  go_ret
  exact ⟨by rw [hrs.out]; rfl, h0.post.keep⟩

set_option maxRecDepth 100000 in
theorem size_ok (H : GH) (w : World) (p : Option Addr) (t : Tr El) (hf : Fits w H) (ht : TrR H p t) :
    Calls Tryz.prog 73 #[.pointer p] w fun e w' => e = .returned (.int .i64 (t.size : Nat)) ∧ Keep none w w' := by
  have hpre : Pre w H none 0 0 := Pre.none hf 0 0
  obtain ⟨bp, aB, cB, aK, cK, rs, ss, ks, rfl, hrs, hss, hbp, sb, sk, sx, st⟩ := ht.open
  go_enter Tryz.func73, Tryz.ntmps73
  have h0 := St.start hpre
  refine wp_seq ?_
  refine wp_region_lit ?_
  iterate 1 (refine wpList_plainQ rfl (fun K Q' hK => ?_); go_simp; refine hK _ _ ?_; clear hK K; try clear Q')
  refine wpList_nil ?_
  show Code.wp _ _ _ _ _
  refine wp_seq ?_
  refine wp_seq ?_
  refine wp_region_lit ?_
  iterate 2 (refine wpList_plainQ rfl (fun K Q' hK => ?_); go_simp; refine hK _ _ ?_; clear hK K; try clear Q')
  refine wpList_nil ?_
  show Code.wp _ _ _ _ _
  -- stops at: cond
  refine wp_cond_false (rfl) ?_
  refine wp_skip ?_
  show Code.wp _ _ _ _ _
  refine wp_seq ?_
  refine wp_region_lit ?_
  have c_hbp_5 := h0.gh hbp 5 rfl
  iterate 5 (refine wpList_plainQ rfl (fun K Q' hK => ?_); go_simp; refine hK _ _ ?_; clear hK K; try clear Q')
  clear c_hbp_5
  refine wpList_nil ?_
  show Code.wp _ _ _ _ _
  -- stops at: ret
  refine wp_ret ?_
  go_ret
  exact ⟨by rw [hss.out]; rfl, h0.post.keep⟩

set_option maxRecDepth 100000 in
theorem root_ok (H : GH) (w : World) (p : Option Addr) (t : Tr El) (hf : Fits w H) (ht : TrR H p t) :
    Calls Tryz.prog 60 #[.pointer p] w fun e w' => e = .returned (.tuple #[elV t.x, .bool true]) ∧ Keep none w w' := by
  have hpre : Pre w H none 0 0 := Pre.none hf 0 0
  obtain ⟨bp, aB, cB, aK, cK, rs, ss, ks, rfl, hrs, hss, hbp, sb, sk, sx, st⟩ := ht.open
  go_enter Tryz.func60, Tryz.ntmps60
  have h0 := St.start hpre
  refine wp_seq ?_
  refine wp_region_lit ?_
  refine wpList_plainQ rfl (fun K Q' hK => ?_); go_simp
  refine h0.k_alloc (fun w1 h1 => ?_)
  refine hK _ _ ?_; clear hK K; try clear Q'
  iterate 1 (refine wpList_plainQ rfl (fun K Q' hK => ?_); go_simp; refine hK _ _ ?_; clear hK K; try clear Q')
  refine wpList_nil ?_
  show Code.wp _ _ _ _ _
  refine wp_seq ?_
  refine wp_seq ?_
  refine wp_region_lit ?_
  iterate 2 (refine wpList_plainQ rfl (fun K Q' hK => ?_); go_simp; refine hK _ _ ?_; clear hK K; try clear Q')
  refine wpList_nil ?_
  show Code.wp _ _ _ _ _
  -- stops at: cond
  refine wp_cond_false (rfl) ?_
  refine wp_skip ?_
  show Code.wp _ _ _ _ _
  refine wp_seq ?_
  refine wp_region_lit ?_
  have c_hbp_1 := h1.gh hbp 1 rfl
  have c_hbp_2 := h1.gh hbp 2 rfl
  iterate 4 (refine wpList_plainQ rfl (fun K Q' hK => ?_); go_simp; refine hK _ _ ?_; clear hK K; try clear Q')
  clear c_hbp_1 c_hbp_2
  have c_0 := h1.cell 0 rfl 0 rfl
  have f_0 := h1.free 0 rfl 0
  have c_1 := h1.cell 0 rfl 1 rfl
  have f_1 := h1.free 0 rfl 1
  refine wpList_plainQ rfl (fun K Q' hK => ?_); go_simp
  clear c_0 f_0 c_1 f_1
  refine (h1.set (i := 0) rfl 0 _).k_set 0 rfl (fun w2 h2 => ?_)
  refine hK _ _ ?_; clear hK K; try clear Q'
  iterate 1 (refine wpList_plainQ rfl (fun K Q' hK => ?_); go_simp; refine hK _ _ ?_; clear hK K; try clear Q')
  refine wpList_nil ?_
  show Code.wp _ _ _ _ _
  -- stops at: ret
  refine wp_ret ?_
  have r_0_0 := h2.cell 0 rfl 0 rfl
  have r_0_1 := h2.cell 0 rfl 1 rfl
  first | show bodyPost _ _ _ _ _ _ | (simp only [Exit.then]; show bodyPost _ _ _ _ _ _) | (simp only [Exit.inBlock]; show bodyPost _ _ _ _ _ _) | (simp only [Exit.inBlock, Exit.then]; show bodyPost _ _ _ _ _ _) | (simp only [Exit.noGoto, Exit.inBlock, Exit.then]; show bodyPost _ _ _ _ _ _)
  refine bodyPost_ret (v := ?_) ?_ rfl ?_
  rotate_left
  · simp only [results, Tryz.results60]; go_simp; with_reducible rfl
  clear r_0_0 r_0_1
  exact ⟨rfl, h2.post.keep⟩
end Go.Proofs.YteigmfkkeofcaaaGreatDoor
