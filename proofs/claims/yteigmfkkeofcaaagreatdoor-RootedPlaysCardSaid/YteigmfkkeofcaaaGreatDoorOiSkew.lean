/-
Skew heaps: a tree of two and a thing; what stands beside a root; putting in, melding, the least one.
-/
import Derived.Test.YteigmfkkeofcaaaGreatDoorOhSkew
import Derived.Test.YteigmfkkeofcaaaGreatDoorNeLs
namespace Go.Proofs.YteigmfkkeofcaaaGreatDoor
open Go Go.RowKit
set_option linter.unusedVariables false

theorem infoT : ElemInfo Tryz.prog 39 32 (.agg #[.int .i64 0, .int .i64 0]) 2 16 :=
  ⟨Tryz.underlying39, info_parts (by kernel_rfl), rfl, by decide⟩
theorem tC_one (l : List El) : ∀ u ∈ l.flatMap tC, u.oneCell' = true := by
  intro u hu
  obtain ⟨a, _, ha⟩ := List.mem_flatMap.1 hu
  simp only [tC, List.mem_cons, List.mem_nil_iff, or_false] at ha
  first
    | (rcases ha with rfl | rfl <;> rfl)
    | (obtain rfl := ha; rfl)

set_option maxRecDepth 100000 in
set_option maxHeartbeats 1000000 in
theorem aheadE_ok (H : GH) (w : World) (x : El) (b : List El) (bv : Value) (hn : b.length < 1000000) (hf : Fits w H) (hb : SliceRep H 2 bv b.length (b.flatMap tC)) :
    Calls Tryz.prog 79 #[elV x, bv] w fun e w' => ∃ v, e = .returned v ∧ St w H none 0 0 w' H [] [⟨v, 32, 2, (x :: b).length, (x :: b).flatMap tC⟩] := by
  have hpre : Pre w H none 0 0 := Pre.none hf 0 0
  obtain ⟨aK, cK, rfl, _, _⟩ := hb.nil_or
  go_enter Tryz.func79, Tryz.ntmps79
  have h0 := St.start hpre
  refine wp_seq ?_
  refine wp_region_lit ?_
  refine wpList_plainQ rfl (fun K Q' hK => ?_); go_simp
  refine h0.k_alloc (fun w1 h1 => ?_)
  refine hK _ _ ?_; clear hK K; try clear Q'
  iterate 1 (refine wpList_plainQ rfl (fun K Q' hK => ?_); go_simp; refine hK _ _ ?_; clear hK K; try clear Q')
  refine wpList_nil ?_
  show Code.wp _ _ _ _ _
  refine wp_seq ?_
  refine wp_region_lit ?_
  have c_0_0 := h1.cell 0 rfl 0 rfl
  have c_0_1 := h1.cell 0 rfl 1 rfl
  iterate 1 (refine wpList_plainQ rfl (fun K Q' hK => ?_); go_simp; refine hK _ _ ?_; clear hK K; try clear Q')
  clear c_0_0 c_0_1
  refine wpList_plainQ rfl (fun K Q' hK => ?_); go_simp
  refine h1.k_alloc (fun w2 h2 => ?_)
  refine hK _ _ ?_; clear hK K; try clear Q'
  iterate 1 (refine wpList_plainQ rfl (fun K Q' hK => ?_); go_simp; refine hK _ _ ?_; clear hK K; try clear Q')
  -- stops at: eff:Builtin.append (Go.Op.call {'callee': (Go.Callee.builtin Go.Builtin.append), 'args': [(Go.Operand.tmp 6), (Go.Operand.tmp 7)], 'argTypes': [39, 39]}) slot 8
  have hR := h2.rowOf 1 rfl 2 1 rfl (by unfold maxLen; omega)
  refine wpList_plainQ rfl (fun K Q' hK => ?_)
  refine hR.op_append_rep 0 rfl rfl infoT rfl (b.flatMap tC) rfl hb (tC_one b) (by omega) (by unfold maxLen; omega) (fun v1 wB hB => ?_)
  refine hK _ _ ?_; clear hK K; try clear Q'
  iterate 1 (refine wpList_plainQ rfl (fun K Q' hK => ?_); go_simp; refine hK _ _ ?_; clear hK K; try clear Q')
  refine wpList_nil ?_
  show Code.wp _ _ _ _ _
  -- stops at: ret
  refine wp_ret ?_
  go_ret
  refine ⟨v1, rfl, ?_⟩
  rw [Nat.add_comm, List.flatMap_cons]
  exact hB.take 0

set_option maxRecDepth 100000 in
set_option maxHeartbeats 4000000 in
theorem tskew_ok (H : GH) (w : World) (m : Option Nat) (c d : Int) (x : El) (p q : Option Addr) (s t : Tr El) (hpre : Pre w H m c d) (hn : s.size + t.size + 1 < 1000000) (hs : TrR H p s) (ht : TrR H q t) (hx : ∀ y ∈ [x], True) :
    Calls Tryz.prog 49 #[mV m, elV x, .pointer p, .pointer q] w fun e w' => ∃ r H', e = .returned (.pointer r) ∧ Post w H m w' H' (c + 2) (d + 2) ∧ TrR H' r (Tr.skew kf x s t) := by
  have hlsz := Tr.link_size kf s t
  have hsz : Hid (2 + (Tr.link kf s t).b.length + (Tr.link kf s t).k.els.length < 1000000) := by
    show _ < _
    have : (Tr.link kf s t).size = 1 + ((Tr.link kf s t).b.length + (Tr.link kf s t).k.els.length) := by simp [Tr.size, Tr.els]; omega
    omega
  have hub : Hid ((Tr.link kf s t).b.length < 1000000) := by show _ < _; have := hsz.out; omega
  clear hlsz
  cases hlt : El.lt (kf (Tr.link kf s t).x) (kf x) with
  | true =>
    have heq := Tr.skew_lt kf hlt
    obtain ⟨u, hu⟩ : ∃ u, Hid (Tr.link kf s t = u) := ⟨_, show _ = _ from rfl⟩
    go_enter Tryz.func49, Tryz.ntmps49
    have h0 := St.start hpre
    refine wp_seq ?_
    refine wp_region_lit ?_
    refine wpList_plainQ rfl (fun K Q' hK => ?_); go_simp
    refine h0.k_alloc (fun w1 h1 => ?_)
    refine hK _ _ ?_; clear hK K; try clear Q'
    iterate 1 (refine wpList_plainQ rfl (fun K Q' hK => ?_); go_simp; refine hK _ _ ?_; clear hK K; try clear Q')
    refine wpList_nil ?_
    show Code.wp _ _ _ _ _
    refine wp_seq ?_
    refine wp_region_lit ?_
    iterate 3 (refine wpList_plainQ rfl (fun K Q' hK => ?_); go_simp; refine hK _ _ ?_; clear hK K; try clear Q')
    -- stops at: eff:call (Go.Op.call {'callee': (Go.Callee.value (Go.Operand.func 77)), 'args': [(Go.Operand.tmp 11), (Go.Operand.tmp 12), (Go.Operand.tmp 13)], 'argTypes': [25, 94, 94] slot 14
    refine wpList_plainQ rfl (fun K Q' hK => ?_); go_simp
    refine (link_ok H _ m c d p q s t h1.pre (by omega) hs ht).mono ?_
    rintro e wL ⟨pu, H1, rfl, hpL, hL⟩
    rw [hu.out] at hL
    have hL' := hL.open
    obtain ⟨bu, aB, cB, aK, cK, ru, su, ku, rfl, hru, hsu, hbu, ub, uk, ux, ut⟩ := hL'
    have h2 := h1.call hpL
    refine hK _ _ ?_; clear hK K; try clear Q'
    iterate 1 (refine wpList_plainQ rfl (fun K Q' hK => ?_); go_simp; refine hK _ _ ?_; clear hK K; try clear Q')
    refine wpList_nil ?_
    show Code.wp _ _ _ _ _
    refine wp_seq ?_
    refine wp_seq ?_
    refine wp_region_lit ?_
    iterate 2 (refine wpList_plainQ rfl (fun K Q' hK => ?_); go_simp; refine hK _ _ ?_; clear hK K; try clear Q')
    refine wpList_nil ?_
    show Code.wp _ _ _ _ _
    -- stops at: cond
    refine wp_cond_false (rfl) ?_
    refine wp_skip ?_
    show Code.wp _ _ _ _ _
    refine wp_seq ?_
    refine wp_region_lit ?_
    have c_hbu_1 := h2.gh hbu 1 rfl
    have c_hbu_2 := h2.gh hbu 2 rfl
    iterate 4 (refine wpList_plainQ rfl (fun K Q' hK => ?_); go_simp; refine hK _ _ ?_; clear hK K; try clear Q')
    clear c_hbu_1 c_hbu_2
    refine wpList_plainQ rfl (fun K Q' hK => ?_); go_simp
    refine h2.k_alloc (fun w3 h3 => ?_)
    refine hK _ _ ?_; clear hK K; try clear Q'
    have c_0 := h3.cell 1 rfl 0 rfl
    have f_0 := h3.free 1 rfl 0
    have c_1 := h3.cell 1 rfl 1 rfl
    have f_1 := h3.free 1 rfl 1
    refine wpList_plainQ rfl (fun K Q' hK => ?_); go_simp
    clear c_0 f_0 c_1 f_1
    refine (h3.set (i := 1) rfl 0 _).k_set 1 rfl (fun w4 h4 => ?_)
    refine hK _ _ ?_; clear hK K; try clear Q'
    refine wpList_nil ?_
    show Code.wp _ _ _ _ _
    refine wp_seq ?_
    refine wp_seq ?_
    refine h4.region [0] [(0, true), (1, true), (2, true), (3, true), (4, true), (5, true), (7, true), (8, true), (6, false), (9, false), (10, false), (11, true)] (by kernel_rfl) (by kernel_rfl) (fun w5 h5 => ?_)
    refine wpOrd_hide (fun _ _ d _ _ h => by cases d <;> exact h) (fun QR hQn hQp => ?_)
    simp only [ordOps, List.map_cons, List.map_nil, List.getD_cons_zero, List.getD_cons_succ]
    iterate 8 (refine wpOrd_quiet (v := ?_) rfl (fun _ _ _ => hQp _ _ _ _ _) ?_ ?_; rotate_left; (intro w' hS; have c_hbu_1 := hS.gh hbu 1 rfl; have c_hbu_2 := hS.gh hbu 2 rfl; have c_0_0 := hS.cell 0 rfl 0 rfl; have c_0_1 := hS.cell 0 rfl 1 rfl; (first | (go_simp; done) | (go_simp; with_reducible rfl))); simp only [Act.put, List.setIfInBounds_toArray, List.set_cons_zero, List.set_cons_succ])
    -- stops at: eff:call (Go.Op.call {'callee': (Go.Callee.invoke (Go.Operand.tmp 29) ('str', 'Key')), 'args': [], 'argTypes': []}) slot 30
    refine wpOrd_effQ rfl (fun K Q' hK => ?_); go_simp
    refine (key_ok H1 _ u.x h5.fits (fun y hy => ux y (List.mem_cons.2 (.inl (List.mem_singleton.1 hy))))).mono ?_
    rintro e wC ⟨rfl, hkC⟩
    have h6 := h5.callk hkC
    refine hK _ _ (h6.sat' (GH.le_refl _) [0] (by kernel_rfl)) ?_; clear hK K; try clear Q'
    -- stops at: eff:call (Go.Op.call {'callee': (Go.Callee.invoke (Go.Operand.tmp 32) ('str', 'Key')), 'args': [], 'argTypes': []}) slot 33
    refine wpOrd_effQ rfl (fun K Q' hK => ?_); go_simp
    refine (key_ok H1 _ x h6.fits (fun y hy => trivial)).mono ?_
    rintro e wD ⟨rfl, hkD⟩
    have h7 := h6.callk hkD
    refine hK _ _ (h7.sat' (GH.le_refl _) [0] (by kernel_rfl)) ?_; clear hK K; try clear Q'
    -- stops at: eff:call (Go.Op.call {'callee': (Go.Callee.value (Go.Operand.func 24)), 'args': [(Go.Operand.tmp 24), (Go.Operand.tmp 30), (Go.Operand.tmp 33)], 'argTypes': [25, 32, 32] slot 34
    refine wpOrd_effQ rfl (fun K Q' hK => ?_); go_simp
    refine (less_ok H1 _ m _ _ (kf u.x) (kf x) h7.pre).mono ?_
    rintro e wE ⟨H2, rfl, hpE⟩
    have h8 := h7.call hpE
    have hbu_8 := hpE.le _ _ hbu
    refine hK _ _ (h8.sat' hpE.le [0] (by kernel_rfl)) ?_; clear hK K; try clear Q'
    iterate 1 (refine wpOrd_quiet (v := ?_) rfl (fun _ _ _ => hQp _ _ _ _ _) ?_ ?_; rotate_left; (intro w' hS; (first | (go_simp; done) | (go_simp; with_reducible rfl))); simp only [Act.put, List.setIfInBounds_toArray, List.set_cons_zero, List.set_cons_succ])
    refine wpOrd_nil (hQn _ _ ?_); clear hQn hQp QR
    show Code.wp _ _ _ _ _
    -- stops at: cond
    rw [hu.out] at hlt heq hsz hub
    rw [hlt]
    refine wp_cond_false (rfl) ?_
    refine wp_skip ?_
    show Code.wp _ _ _ _ _
    refine wp_seq ?_
    refine h8.region [0, 1] [(0, true), (1, true), (2, true), (3, true), (4, true), (5, true), (6, true), (7, true), (8, true), (9, true), (10, true), (12, true), (13, true), (14, true), (15, true), (11, false), (16, true), (17, false), (18, true)] (by kernel_rfl) (by kernel_rfl) (fun w9 h9 => ?_)
    refine wpOrd_hide (fun _ _ d _ _ h => by cases d <;> exact h) (fun QR hQn hQp => ?_)
    simp only [ordOps, List.map_cons, List.map_nil, List.getD_cons_zero, List.getD_cons_succ]
    iterate 15 (refine wpOrd_quiet (v := ?_) rfl (fun _ _ _ => hQp _ _ _ _ _) ?_ ?_; rotate_left; (intro w' hS; have c_hbu_0 := hS.gh hbu_8 0 rfl; have c_1_0 := hS.cell 1 rfl 0 rfl; have c_1_1 := hS.cell 1 rfl 1 rfl; have c_0_0 := hS.cell 0 rfl 0 rfl; have c_0_1 := hS.cell 0 rfl 1 rfl; have c_hbu_3 := hS.gh hbu_8 3 rfl; have c_hbu_4 := hS.gh hbu_8 4 rfl; (first | (go_simp; done) | (go_simp; with_reducible rfl))); simp only [Act.put, List.setIfInBounds_toArray, List.set_cons_zero, List.set_cons_succ])
    -- stops at: eff:call (Go.Op.call {'callee': (Go.Callee.value (Go.Operand.func 79)), 'args': [(Go.Operand.tmp 44), (Go.Operand.tmp 48)], 'argTypes': [32, 39]}) slot 49
    refine wpOrd_effQ rfl (fun K Q' hK => ?_); go_simp
    refine (aheadE_ok H2 _ x u.b _ (by have := hub.out; omega) h9.fits (ub.1.mono hpE.le)).mono ?_
    rintro e wB ⟨v, rfl, hpB⟩
    obtain ⟨H3, h33, rA, leA⟩ := (h9.callrow hpB).settleRow 0 rfl
    obtain ⟨aV, cV, rfl, _, _⟩ := rA.nil_or
    have hbu_10 := leA _ _ hbu_8
    refine hK _ _ (h33.sat' leA [0, 1] (by kernel_rfl)) ?_; clear hK K; try clear Q'
    iterate 1 (refine wpOrd_quiet (v := ?_) rfl (fun _ _ _ => hQp _ _ _ _ _) ?_ ?_; rotate_left; (intro w' hS; (first | (go_simp; done) | (go_simp; with_reducible rfl))); simp only [Act.put, List.setIfInBounds_toArray, List.set_cons_zero, List.set_cons_succ])
    -- stops at: eff:call (Go.Op.call {'callee': (Go.Callee.value (Go.Operand.func 78)), 'args': [(Go.Operand.tmp 38), (Go.Operand.tmp 54)], 'argTypes': [25, 135]}) slot 55
    refine wpOrd_effQ rfl (fun K Q' hK => ?_); go_simp
    refine (tmade_ok H3 _ m _ _ u.x (x :: u.b) u.k ku _ _ ru hru.out h33.pre (by have := hsz.out; simp only [List.length_cons]; omega) ⟨rA, by simp⟩ (uk.mono (hpE.le.trans leA)) (fun _ _ => trivial) (ut.mono (hpE.le.trans leA))).mono ?_
    rintro e wF ⟨p9, H9, rfl, hpF, hF⟩
    have h11 := h33.call hpF
    have hbu_11 := hpF.le _ _ hbu_10
    refine hK _ _ (h11.sat' (GH.le.trans leA hpF.le) [0, 1] (by kernel_rfl)) ?_; clear hK K; try clear Q'
    iterate 1 (refine wpOrd_quiet (v := ?_) rfl (fun _ _ _ => hQp _ _ _ _ _) ?_ ?_; rotate_left; (intro w' hS; (first | (go_simp; done) | (go_simp; with_reducible rfl))); simp only [Act.put, List.setIfInBounds_toArray, List.set_cons_zero, List.set_cons_succ])
    refine wpOrd_nil (hQn _ _ ?_); clear hQn hQp QR
    show Code.wp _ _ _ _ _
    -- stops at: ret
    refine wp_ret ?_
    go_ret
    refine ⟨p9, H9, rfl, ?_, ?_⟩
    · rw [show c + 2 = c + 1 + 1 by omega, show d + 2 = d + 1 + 1 by omega]
      exact h11.post
    · rw [heq]
      exact hF
  | false =>
    have heq := Tr.skew_ge kf hlt
    obtain ⟨u, hu⟩ : ∃ u, Hid (Tr.link kf s t = u) := ⟨_, show _ = _ from rfl⟩
    go_enter Tryz.func49, Tryz.ntmps49
    have h0 := St.start hpre
    refine wp_seq ?_
    refine wp_region_lit ?_
    refine wpList_plainQ rfl (fun K Q' hK => ?_); go_simp
    refine h0.k_alloc (fun w1 h1 => ?_)
    refine hK _ _ ?_; clear hK K; try clear Q'
    iterate 1 (refine wpList_plainQ rfl (fun K Q' hK => ?_); go_simp; refine hK _ _ ?_; clear hK K; try clear Q')
    refine wpList_nil ?_
    show Code.wp _ _ _ _ _
    refine wp_seq ?_
    refine wp_region_lit ?_
    iterate 3 (refine wpList_plainQ rfl (fun K Q' hK => ?_); go_simp; refine hK _ _ ?_; clear hK K; try clear Q')
    -- stops at: eff:call (Go.Op.call {'callee': (Go.Callee.value (Go.Operand.func 77)), 'args': [(Go.Operand.tmp 11), (Go.Operand.tmp 12), (Go.Operand.tmp 13)], 'argTypes': [25, 94, 94] slot 14
    refine wpList_plainQ rfl (fun K Q' hK => ?_); go_simp
    refine (link_ok H _ m c d p q s t h1.pre (by omega) hs ht).mono ?_
    rintro e wL ⟨pu, H1, rfl, hpL, hL⟩
    rw [hu.out] at hL
    have hL' := hL.open
    obtain ⟨bu, aB, cB, aK, cK, ru, su, ku, rfl, hru, hsu, hbu, ub, uk, ux, ut⟩ := hL'
    have h2 := h1.call hpL
    refine hK _ _ ?_; clear hK K; try clear Q'
    iterate 1 (refine wpList_plainQ rfl (fun K Q' hK => ?_); go_simp; refine hK _ _ ?_; clear hK K; try clear Q')
    refine wpList_nil ?_
    show Code.wp _ _ _ _ _
    refine wp_seq ?_
    refine wp_seq ?_
    refine wp_region_lit ?_
    iterate 2 (refine wpList_plainQ rfl (fun K Q' hK => ?_); go_simp; refine hK _ _ ?_; clear hK K; try clear Q')
    refine wpList_nil ?_
    show Code.wp _ _ _ _ _
    -- stops at: cond
    refine wp_cond_false (rfl) ?_
    refine wp_skip ?_
    show Code.wp _ _ _ _ _
    refine wp_seq ?_
    refine wp_region_lit ?_
    have c_hbu_1 := h2.gh hbu 1 rfl
    have c_hbu_2 := h2.gh hbu 2 rfl
    iterate 4 (refine wpList_plainQ rfl (fun K Q' hK => ?_); go_simp; refine hK _ _ ?_; clear hK K; try clear Q')
    clear c_hbu_1 c_hbu_2
    refine wpList_plainQ rfl (fun K Q' hK => ?_); go_simp
    refine h2.k_alloc (fun w3 h3 => ?_)
    refine hK _ _ ?_; clear hK K; try clear Q'
    have c_0 := h3.cell 1 rfl 0 rfl
    have f_0 := h3.free 1 rfl 0
    have c_1 := h3.cell 1 rfl 1 rfl
    have f_1 := h3.free 1 rfl 1
    refine wpList_plainQ rfl (fun K Q' hK => ?_); go_simp
    clear c_0 f_0 c_1 f_1
    refine (h3.set (i := 1) rfl 0 _).k_set 1 rfl (fun w4 h4 => ?_)
    refine hK _ _ ?_; clear hK K; try clear Q'
    refine wpList_nil ?_
    show Code.wp _ _ _ _ _
    refine wp_seq ?_
    refine wp_seq ?_
    refine h4.region [0] [(0, true), (1, true), (2, true), (3, true), (4, true), (5, true), (7, true), (8, true), (6, false), (9, false), (10, false), (11, true)] (by kernel_rfl) (by kernel_rfl) (fun w5 h5 => ?_)
    refine wpOrd_hide (fun _ _ d _ _ h => by cases d <;> exact h) (fun QR hQn hQp => ?_)
    simp only [ordOps, List.map_cons, List.map_nil, List.getD_cons_zero, List.getD_cons_succ]
    iterate 8 (refine wpOrd_quiet (v := ?_) rfl (fun _ _ _ => hQp _ _ _ _ _) ?_ ?_; rotate_left; (intro w' hS; have c_hbu_1 := hS.gh hbu 1 rfl; have c_hbu_2 := hS.gh hbu 2 rfl; have c_0_0 := hS.cell 0 rfl 0 rfl; have c_0_1 := hS.cell 0 rfl 1 rfl; (first | (go_simp; done) | (go_simp; with_reducible rfl))); simp only [Act.put, List.setIfInBounds_toArray, List.set_cons_zero, List.set_cons_succ])
    -- stops at: eff:call (Go.Op.call {'callee': (Go.Callee.invoke (Go.Operand.tmp 29) ('str', 'Key')), 'args': [], 'argTypes': []}) slot 30
    refine wpOrd_effQ rfl (fun K Q' hK => ?_); go_simp
    refine (key_ok H1 _ u.x h5.fits (fun y hy => ux y (List.mem_cons.2 (.inl (List.mem_singleton.1 hy))))).mono ?_
    rintro e wC ⟨rfl, hkC⟩
    have h6 := h5.callk hkC
    refine hK _ _ (h6.sat' (GH.le_refl _) [0] (by kernel_rfl)) ?_; clear hK K; try clear Q'
    -- stops at: eff:call (Go.Op.call {'callee': (Go.Callee.invoke (Go.Operand.tmp 32) ('str', 'Key')), 'args': [], 'argTypes': []}) slot 33
    refine wpOrd_effQ rfl (fun K Q' hK => ?_); go_simp
    refine (key_ok H1 _ x h6.fits (fun y hy => trivial)).mono ?_
    rintro e wD ⟨rfl, hkD⟩
    have h7 := h6.callk hkD
    refine hK _ _ (h7.sat' (GH.le_refl _) [0] (by kernel_rfl)) ?_; clear hK K; try clear Q'
    -- stops at: eff:call (Go.Op.call {'callee': (Go.Callee.value (Go.Operand.func 24)), 'args': [(Go.Operand.tmp 24), (Go.Operand.tmp 30), (Go.Operand.tmp 33)], 'argTypes': [25, 32, 32] slot 34
    refine wpOrd_effQ rfl (fun K Q' hK => ?_); go_simp
    refine (less_ok H1 _ m _ _ (kf u.x) (kf x) h7.pre).mono ?_
    rintro e wE ⟨H2, rfl, hpE⟩
    have h8 := h7.call hpE
    have hbu_8 := hpE.le _ _ hbu
    refine hK _ _ (h8.sat' hpE.le [0] (by kernel_rfl)) ?_; clear hK K; try clear Q'
    iterate 1 (refine wpOrd_quiet (v := ?_) rfl (fun _ _ _ => hQp _ _ _ _ _) ?_ ?_; rotate_left; (intro w' hS; (first | (go_simp; done) | (go_simp; with_reducible rfl))); simp only [Act.put, List.setIfInBounds_toArray, List.set_cons_zero, List.set_cons_succ])
    refine wpOrd_nil (hQn _ _ ?_); clear hQn hQp QR
    show Code.wp _ _ _ _ _
    -- stops at: cond
    rw [hu.out] at hlt heq hsz hub
    rw [hlt]
    refine wp_cond_true (rfl) ?_
    refine wp_region_lit ?_
    have c_0_0 := h8.cell 0 rfl 0 rfl
    have c_0_1 := h8.cell 0 rfl 1 rfl
    have c_1_0 := h8.cell 1 rfl 0 rfl
    have c_1_1 := h8.cell 1 rfl 1 rfl
    iterate 2 (refine wpList_plainQ rfl (fun K Q' hK => ?_); go_simp; refine hK _ _ ?_; clear hK K; try clear Q')
    clear c_0_0 c_0_1 c_1_0 c_1_1
    have c_0 := h8.cell 1 rfl 0 rfl
    have f_0 := h8.free 1 rfl 0
    have c_1 := h8.cell 1 rfl 1 rfl
    have f_1 := h8.free 1 rfl 1
    refine wpList_plainQ rfl (fun K Q' hK => ?_); go_simp
    clear c_0 f_0 c_1 f_1
    refine (h8.set (i := 1) rfl 0 _).k_set 1 rfl (fun w9 h9 => ?_)
    refine hK _ _ ?_; clear hK K; try clear Q'
    have c_0 := h9.cell 0 rfl 0 rfl
    have f_0 := h9.free 0 rfl 0
    have c_1 := h9.cell 0 rfl 1 rfl
    have f_1 := h9.free 0 rfl 1
    refine wpList_plainQ rfl (fun K Q' hK => ?_); go_simp
    clear c_0 f_0 c_1 f_1
    refine (h9.set (i := 0) rfl 0 _).k_set 0 rfl (fun w10 h10 => ?_)
    refine hK _ _ ?_; clear hK K; try clear Q'
    refine wpList_nil ?_
    show Code.wp _ _ _ _ _
    refine wp_seq ?_
    refine h10.region [0, 1] [(0, true), (1, true), (2, true), (3, true), (4, true), (5, true), (6, true), (7, true), (8, true), (9, true), (10, true), (12, true), (13, true), (14, true), (15, true), (11, false), (16, true), (17, false), (18, true)] (by kernel_rfl) (by kernel_rfl) (fun w11 h11 => ?_)
    refine wpOrd_hide (fun _ _ d _ _ h => by cases d <;> exact h) (fun QR hQn hQp => ?_)
    simp only [ordOps, List.map_cons, List.map_nil, List.getD_cons_zero, List.getD_cons_succ]
    iterate 15 (refine wpOrd_quiet (v := ?_) rfl (fun _ _ _ => hQp _ _ _ _ _) ?_ ?_; rotate_left; (intro w' hS; have c_hbu_0 := hS.gh hbu_8 0 rfl; have c_1_0 := hS.cell 1 rfl 0 rfl; have c_1_1 := hS.cell 1 rfl 1 rfl; have c_0_0 := hS.cell 0 rfl 0 rfl; have c_0_1 := hS.cell 0 rfl 1 rfl; have c_hbu_3 := hS.gh hbu_8 3 rfl; have c_hbu_4 := hS.gh hbu_8 4 rfl; (first | (go_simp; done) | (go_simp; with_reducible rfl))); simp only [Act.put, List.setIfInBounds_toArray, List.set_cons_zero, List.set_cons_succ])
    -- stops at: eff:call (Go.Op.call {'callee': (Go.Callee.value (Go.Operand.func 79)), 'args': [(Go.Operand.tmp 44), (Go.Operand.tmp 48)], 'argTypes': [32, 39]}) slot 49
    refine wpOrd_effQ rfl (fun K Q' hK => ?_); go_simp
    refine (aheadE_ok H2 _ u.x u.b _ (by have := hub.out; omega) h11.fits (ub.1.mono hpE.le)).mono ?_
    rintro e wB ⟨v, rfl, hpB⟩
    obtain ⟨H3, h33, rA, leA⟩ := (h11.callrow hpB).settleRow 0 rfl
    obtain ⟨aV, cV, rfl, _, _⟩ := rA.nil_or
    have hbu_12 := leA _ _ hbu_8
    refine hK _ _ (h33.sat' leA [0, 1] (by kernel_rfl)) ?_; clear hK K; try clear Q'
    iterate 1 (refine wpOrd_quiet (v := ?_) rfl (fun _ _ _ => hQp _ _ _ _ _) ?_ ?_; rotate_left; (intro w' hS; (first | (go_simp; done) | (go_simp; with_reducible rfl))); simp only [Act.put, List.setIfInBounds_toArray, List.set_cons_zero, List.set_cons_succ])
    -- stops at: eff:call (Go.Op.call {'callee': (Go.Callee.value (Go.Operand.func 78)), 'args': [(Go.Operand.tmp 38), (Go.Operand.tmp 54)], 'argTypes': [25, 135]}) slot 55
    refine wpOrd_effQ rfl (fun K Q' hK => ?_); go_simp
    refine (tmade_ok H3 _ m _ _ x (u.x :: u.b) u.k ku _ _ ru hru.out h33.pre (by have := hsz.out; simp only [List.length_cons]; omega) ⟨rA, by simp⟩ (uk.mono (hpE.le.trans leA)) (fun _ _ => trivial) (ut.mono (hpE.le.trans leA))).mono ?_
    rintro e wF ⟨p9, H9, rfl, hpF, hF⟩
    have h13 := h33.call hpF
    have hbu_13 := hpF.le _ _ hbu_12
    refine hK _ _ (h13.sat' (GH.le.trans leA hpF.le) [0, 1] (by kernel_rfl)) ?_; clear hK K; try clear Q'
    iterate 1 (refine wpOrd_quiet (v := ?_) rfl (fun _ _ _ => hQp _ _ _ _ _) ?_ ?_; rotate_left; (intro w' hS; (first | (go_simp; done) | (go_simp; with_reducible rfl))); simp only [Act.put, List.setIfInBounds_toArray, List.set_cons_zero, List.set_cons_succ])
    refine wpOrd_nil (hQn _ _ ?_); clear hQn hQp QR
    show Code.wp _ _ _ _ _
    -- stops at: ret
    refine wp_ret ?_
    go_ret
    refine ⟨p9, H9, rfl, ?_, ?_⟩
    · rw [show c + 2 = c + 1 + 1 by omega, show d + 2 = d + 1 + 1 by omega]
      exact h13.post
    · rw [heq]
      exact hF

theorem elT_cells {H : GH} {b off n cap : Nat} {l : List El} (h : SliceRep H 2 (.slice (some ⟨b, off, none⟩) n cap) n (l.flatMap tC)) {k : Nat} {a : El} (hk : l[k]? = some a) : Hid (∀ W, Fits W H → W.cell? ⟨b, off + k * 2, none⟩ = some (.int .i64 a.1)) ∧ Hid (∀ W, Fits W H → W.cell? ⟨b, off + k * 2 + 1, none⟩ = some (.int .i64 a.2)) := elRep_cells h hk
/-- A copy of what stands beside a root. -/
theorem cloneE_ok (H : GH) (w : World) (n : Nat) (a : Option Addr) (cp : Nat) (xs : List Value) (hn : n < 1000000) (h1 : ∀ u ∈ xs, u.oneCell' = true) (hf : Fits w H) (hk : SlR H 2 (.slice a n cp) n xs) :
    Calls Tryz.prog 87 #[.slice a n cp] w fun e w' => ∃ v', e = .returned v' ∧ St w H none 0 0 w' H [] [⟨v', 32, 2, n, xs⟩] := by
  by_cases h0 : n = 0
  · have e := hk.2 h0
    simp only [Value.slice.injEq] at e
    obtain ⟨rfl, _, rfl⟩ := e
    have hx : xs = [] := List.eq_nil_of_length_eq_zero (by rw [hk.1.1, h0])
    subst hx h0
    refine (AnyE.slices_Clone_nil Tryz.slCloneE 0 0 w).mono ?_
    rintro e w' ⟨rfl, rfl⟩
    exact ⟨_, rfl, St.ofOwns hf (Below.refl _ _) (World.ownsRow_nil _ _ _ _)⟩
  · obtain ⟨b, off, cap, e, hc, hm⟩ := hk.1.ne_nil (by omega)
    rw [e] at hk ⊢
    obtain ⟨i0, hi, hz0, hz1, hz2⟩ := infoT.info
    refine (AnyE.slices_Clone Tryz.slCloneE i0 (.agg #[.int .i64 0, .int .i64 0]) 2 16 hi hz0 hz1 hz2 rfl (by omega) (fun w => Tryz.sizeOf32 w) b off n cap xs w hk.1.1 (by unfold maxLen; omega) (by omega) (fun j u hj => hk.1.cell hf j hj) h1).mono ?_
    rintro e w' ⟨v', rfl, ho, _, hb⟩
    exact ⟨_, rfl, St.ofOwns hf hb ho⟩
set_option maxRecDepth 100000 in
theorem beside_ok (H : GH) (w : World) (p : Option Addr) (t : Tr El) (hn : t.size < 1000000) (hf : Fits w H) (ht : TrR H p t) :
    Calls Tryz.prog 64 #[.pointer p] w fun e w' => ∃ v, e = .returned v ∧ St w H none 0 0 w' H [] [⟨v, 32, 2, t.b.length, t.b.flatMap tC⟩] := by
  have hpre : Pre w H none 0 0 := Pre.none hf 0 0
  have lb : t.b.length < 1000000 := by have : t.size = 1 + (t.b.length + t.k.els.length) := by simp [Tr.size, Tr.els]; omega
                                       omega
  obtain ⟨bp, aB, cB, aK, cK, rs, ss, ks, rfl, hrs, hss, hbp, sb, sk, sx, st⟩ := ht.open
  go_enter Tryz.func64, Tryz.ntmps64
  have h0 := St.start hpre
  refine wp_seq ?_
  refine wp_region_lit ?_
  iterate 1 (refine wpList_plainQ rfl (fun K Q' hK => ?_); go_simp; refine hK _ _ ?_; clear hK K; try clear Q')
  refine wpList_nil ?_
  show Code.wp _ _ _ _ _
  refine wp_seq ?_
  refine wp_seq ?_
  refine wp_region_lit ?_
  iterate 2 (refine wpList_plainQ rfl (fun K Q' hK => ?_); go_simp; refine hK _ _ ?_; clear hK K; try clear Q')
  refine wpList_nil ?_
  show Code.wp _ _ _ _ _
  -- stops at: cond
  refine wp_cond_false (rfl) ?_
  refine wp_skip ?_
  show Code.wp _ _ _ _ _
  refine wp_seq ?_
  refine wp_region_lit ?_
  have c_hbp_3 := h0.gh hbp 3 rfl
  iterate 4 (refine wpList_plainQ rfl (fun K Q' hK => ?_); go_simp; refine hK _ _ ?_; clear hK K; try clear Q')
  clear c_hbp_3
  -- stops at: eff:call (Go.Op.call {'callee': (Go.Callee.value (Go.Operand.func 87)), 'args': [(Go.Operand.tmp 8)], 'argTypes': [39]}) slot 9
  refine wpList_plainQ rfl (fun K Q' hK => ?_); go_simp
  refine (cloneE_ok H _ _ _ _ (t.b.flatMap tC) lb (tC_one t.b) h0.fits sb).mono ?_
  rintro e wB ⟨v, rfl, hpB⟩
  have hR := h0.callrow hpB
  refine hK _ _ ?_; clear hK K; try clear Q'
  iterate 1 (refine wpList_plainQ rfl (fun K Q' hK => ?_); go_simp; refine hK _ _ ?_; clear hK K; try clear Q')
  refine wpList_nil ?_
  show Code.wp _ _ _ _ _
  -- stops at: ret
  refine wp_ret ?_
  go_ret
  exact ⟨v, rfl, hR⟩
end Go.Proofs.YteigmfkkeofcaaaGreatDoor
