/-
Skew heaps: rows of trees as slices; a tree put ahead of others, rows levelled, melded.
-/
import Derived.Test.YteigmfkkeofcaaaGreatDoorHcTr
import Derived.Test.YteigmfkkeofcaaaGreatDoorOeSl
import Derived.Test.YteigmfkkeofcaaaGreatDoorGcOrd2
import Derived.Test.YteigmfkkeofcaaaGreatDoorMdSkew
namespace Go.Proofs.YteigmfkkeofcaaaGreatDoor
open Go Go.RowKit
set_option linter.unusedVariables false

/-- A settled row of trees. -/
def SlT (H : GH) (v : Value) (l : List (Tr El)) : Prop := ∃ ps : List (Option Addr), SliceRep H 1 v ps.length (ps.map .pointer) ∧ RowR H ps l
theorem SlT.mono {H H' : GH} {v : Value} {l : List (Tr El)} (h : SlT H v l) (hl : H.le H') : SlT H' v l := by
  obtain ⟨ps, h1, h2⟩ := h
  exact ⟨ps, h1.mono hl, h2.mono hl⟩
theorem SlT.nil (H : GH) : SlT H (.slice none 0 0) [] := ⟨[], SliceRep.nil _ _, RowR.nil H⟩
theorem SlT.form {H : GH} {v : Value} {l : List (Tr El)} (h : SlT H v l) : ∃ a cap, v = .slice a l.length cap ∧ l.length ≤ cap ∧ cap ≤ maxLen := by
  obtain ⟨ps, h1, h2⟩ := h
  obtain ⟨a, cap, e, h3, h4⟩ := h1.nil_or
  exact ⟨a, cap, by rw [e, h2.1], by rw [← h2.1]; exact h3, h4⟩
theorem SlT.cons {H : GH} {v : Value} {t : Tr El} {l : List (Tr El)} (h : SlT H v (t :: l)) : ∃ (b off cap nn : Nat) (p : Option Addr) (vS : Value), v = .slice (some ⟨b, off, none⟩) nn cap ∧ Hid (nn = l.length + 1) ∧ (1 : Int) ≤ (nn : Int) ∧ 0 < nn ∧ nn ≤ cap ∧
    Hid (∀ W, Fits W H → W.cell? ⟨b, off, none⟩ = some (.pointer p)) ∧ TrR H p t ∧ (Value.slice (if cap = 1 then some ⟨b, off, none⟩ else Option.map (fun x : Addr => x.add 1) (some ⟨b, off, none⟩)) (nn - 1) (cap - 1)) = vS ∧ SlT H vS l := by
  obtain ⟨ps, h1, h2⟩ := h
  obtain ⟨p, rest, rfl, ht, hr⟩ := h2.uncons
  obtain ⟨b, off, cap, rfl, hc, hm⟩ := h1.ne_nil (by simp)
  have hf := h1.from 1 (by simp)
  simp only [List.length_cons, Nat.add_sub_cancel, Nat.one_mul, List.map_cons, List.drop_succ_cons, List.drop_zero] at hf
  have hl : rest.length = l.length := hr.1
  refine ⟨b, off, cap, rest.length + 1, p, _, rfl, by show _ = _; rw [hl], by omega, by omega, hc, fun W hW => ?_, ht, rfl, rest, ?_, hr⟩
  · exact h1.cell hW 0 rfl
  · exact hf
/-- How long a slice is. -/
def lenOf : Value → Nat
  | .slice _ n _ => n
  | _ => 0
theorem info1 : ElemInfo Tryz.prog 107 94 (.pointer none) 1 8 := infoTr

set_option maxRecDepth 100000 in
set_option maxHeartbeats 4000000 in
theorem skput_ok (H : GH) (w : World) (m : Option Nat) (c d : Int) (p : Option Addr) (v : Value) (t : Tr El) (l : List (Tr El)) (hpre : Pre w H m c d) (hn : t.size + Rw.size l < 1000000) (ht : TrR H p t) (hl : SlT H v l) :
    Calls Tryz.prog 81 #[mV m, .pointer p, v] w fun e w' => ∃ r H', e = .returned r ∧ Post w H m w' H' (c + Rw.putN kf t l) (d + Rw.putN kf t l) ∧ SlT H' r (Rw.put kf t l) := by
  go_enter Tryz.func81, Tryz.ntmps81
  have h0 := St.start hpre
  refine wp_seq ?_
  refine wp_region_lit ?_
  iterate 1 (refine wpList_plainQ rfl (fun K Q' hK => ?_); go_simp; refine hK _ _ ?_; clear hK K; try clear Q')
  refine wpList_nil ?_
  show Code.wp _ _ _ _ _
  refine wp_seq ?_
  refine wp_block ?_
  -- stops at: loop
  go_loopw [1, 2] (fun v1 v2 wr => ∃ (t' : Tr El) (l' : List (Tr El)) (p' : Option Addr) (H1 : GH) (k : Nat), v1 = .pointer p' ∧ H.le H1 ∧ TrR H1 p' t' ∧ SlT H1 v2 l' ∧ Hid (Rw.put kf t l = Rw.put kf t' l') ∧ Hid (Rw.putN kf t l = k + Rw.putN kf t' l') ∧ Hid (t'.size + Rw.size l' < 1000000) ∧ St w H m (c + k) (d + k) wr H1 [] []) (fun _ v2 _ => lenOf v2)
  case atStart => exact ⟨t, l, p, H, 0, rfl, GH.le_refl _, ht, hl, rfl, by show _ = _; omega, hn, by simpa using h0⟩
  case round =>
    obtain ⟨t', l', p', H1, k, rfl, hle1, ht', hl', hput, hputN, hsz, hs⟩ := hrel
    cases l' with
    | nil =>
      obtain ⟨a0, c0, rfl, _, _⟩ := hl'.form
      rw [Rw.put_nil] at hput
      rw [Rw.putN_nil] at hputN
      refine wp_seq ?_
      refine wp_seq ?_
      refine hs.region [] [(0, true), (1, true), (2, true), (3, true), (4, true), (6, true), (7, true), (8, true), (5, false), (9, false), (10, true), (11, true)] (by kernel_rfl) (by kernel_rfl) (fun w1 h1 => ?_)
      refine wpOrd_hide (fun _ _ d _ _ h => by cases d <;> exact h) (fun QR hQn hQp => ?_)
      simp only [ordOps, List.map_cons, List.map_nil, List.getD_cons_zero, List.getD_cons_succ]
      iterate 4 (refine wpOrd_quiet (v := ?_) rfl (fun _ _ _ => hQp _ _ _ _ _) ?_ ?_; rotate_left; (intro w' hS; (first | (go_simp; done) | (go_simp; with_reducible rfl))); simp only [Act.put, List.setIfInBounds_toArray, List.set_cons_zero, List.set_cons_succ])
      iterate 3 (first | (refine wpOrd_skip rfl (fun _ _ _ => hQp _ _ _ _ _) ?_; simp only [Act.put, List.setIfInBounds_toArray, List.set_cons_zero, List.set_cons_succ]) | (refine wpOrd_quiet (v := ?_) rfl (fun _ _ _ => hQp _ _ _ _ _) ?_ ?_; rotate_left; (intro w' hS; (first | (go_simp; done) | (go_simp; with_reducible rfl))); simp only [Act.put, List.setIfInBounds_toArray, List.set_cons_zero, List.set_cons_succ]))
      -- stops at: load (Go.Op.load 94 (Go.Operand.tmp 14)) slot 15
      refine wpOrd_skip rfl (fun _ _ _ => hQp _ _ _ _ _) ?_; simp only [Act.put, List.setIfInBounds_toArray, List.set_cons_zero, List.set_cons_succ]
      -- stops at: eff:call (Go.Op.call {'callee': (Go.Callee.value (Go.Operand.func 46)), 'args': [(Go.Operand.tmp 11)], 'argTypes': [94]}) slot 12
      refine wpOrd_effskip rfl ?_; simp only [Act.put, List.setIfInBounds_toArray, List.set_cons_zero, List.set_cons_succ]
      -- stops at: eff:call (Go.Op.call {'callee': (Go.Callee.value (Go.Operand.func 46)), 'args': [(Go.Operand.tmp 15)], 'argTypes': [94]}) slot 16
      refine wpOrd_effskip rfl ?_; simp only [Act.put, List.setIfInBounds_toArray, List.set_cons_zero, List.set_cons_succ]
      iterate 1 (first | (refine wpOrd_skip rfl (fun _ _ _ => hQp _ _ _ _ _) ?_; simp only [Act.put, List.setIfInBounds_toArray, List.set_cons_zero, List.set_cons_succ]) | (refine wpOrd_quiet (v := ?_) rfl (fun _ _ _ => hQp _ _ _ _ _) ?_ ?_; rotate_left; (intro w' hS; (first | (go_simp; done) | (go_simp; with_reducible rfl))); simp only [Act.put, List.setIfInBounds_toArray, List.set_cons_zero, List.set_cons_succ]))
      iterate 1 (refine wpOrd_quiet (v := ?_) rfl (fun _ _ _ => hQp _ _ _ _ _) ?_ ?_; rotate_left; (intro w' hS; (first | (go_simp; done) | (go_simp; with_reducible rfl))); simp only [Act.put, List.setIfInBounds_toArray, List.set_cons_zero, List.set_cons_succ])
      refine wpOrd_nil (hQn _ _ ?_); clear hQn hQp QR
      show Code.wp _ _ _ _ _
      -- stops at: cond
      refine wp_cond_false (rfl) ?_
      refine wp_exit ?_
      show Code.wp _ _ _ _ _
      refine wp_seq ?_
      refine wp_region_lit ?_
      iterate 1 (refine wpList_plainQ rfl (fun K Q' hK => ?_); go_simp; refine hK _ _ ?_; clear hK K; try clear Q')
      refine wpList_plainQ rfl (fun K Q' hK => ?_); go_simp
      refine h1.k_alloc (fun w2 h2 => ?_)
      refine hK _ _ ?_; clear hK K; try clear Q'
      iterate 1 (refine wpList_plainQ rfl (fun K Q' hK => ?_); go_simp; refine hK _ _ ?_; clear hK K; try clear Q')
      -- stops at: eff:Builtin.append (Go.Op.call {'callee': (Go.Callee.builtin Go.Builtin.append), 'args': [(Go.Operand.tmp 28), (Go.Operand.tmp 29)], 'argTypes': [107, 107]}) slot 30
      have hR := h2.rowOf 0 rfl 1 1 rfl (by unfold maxLen; omega)
      refine wpList_plainQ rfl (fun K Q' hK => ?_)
      obtain ⟨qs, hq1, hq2⟩ := hl'
      have hqn : qs.length < 1000000 := by have := hq2.1; have := hsz.out; have := Rw.length_le ([] : List (Tr El)); omega
      refine hR.op_append_rep 0 rfl rfl info1 rfl (qs.map .pointer) rfl hq1 (by simp [Value.oneCell']) (by omega) (by unfold maxLen; omega) (fun v1 wB hB => ?_)
      refine hK _ _ ?_; clear hK K; try clear Q'
      obtain ⟨H6, h6, rA, leA⟩ := hB.settleRow 0 rfl
      iterate 1 (refine wpList_plainQ rfl (fun K Q' hK => ?_); go_simp; refine hK _ _ ?_; clear hK K; try clear Q')
      refine wpList_nil ?_
      show Code.wp _ _ _ _ _
      -- stops at: ret
      refine wp_ret ?_
      go_ret
      refine ⟨v1, H6, rfl, ?_, ?_⟩
      rotate_left
      · rw [hput.out]
        refine ⟨p' :: qs, ?_, RowR.cons (ht'.mono leA) (hq2.mono leA)⟩
        rw [Nat.add_comm] at rA
        exact rA
      rw [hputN.out]
      exact h6.post
    | cons f l' =>
      have hl'' := hl'.cons
      obtain ⟨b0, o0, cap0, nn, pf, vS, rfl, hnn, hn1, hn0, hcap0, hcell, hpf, hvS, hrest⟩ := hl''
      obtain ⟨r1, hr1⟩ : ∃ r, Hid (t'.rank = r) := ⟨_, show _ = _ from rfl⟩
      obtain ⟨r2, hr2⟩ : ∃ r, Hid (f.rank = r) := ⟨_, show _ = _ from rfl⟩
      have hsz2 : Hid (t'.size + f.size + Rw.size l' < 1000000) := by have := hsz.out; rw [Rw.size_cons] at this; show _ < _; omega
      have hnl : Hid (lenOf (.slice (some ⟨b0, o0, none⟩) nn cap0) = nn) := rfl
      have hvl : Hid (lenOf vS = nn - 1) := by rw [← hvS]; exact rfl
      simp [Addr.add] at hvS
      by_cases hlt : t'.rank < f.rank
      · have d1 : decide (r2 ≤ r1) = false := decide_eq_false (by have := hr1.out; have := hr2.out; omega)
        rw [Rw.put_lt kf l' hlt] at hput
        rw [Rw.putN_lt kf l' hlt] at hputN
        refine wp_seq ?_
        refine wp_seq ?_
        refine hs.region [] [(0, true), (1, true), (2, true), (3, true), (4, true), (6, true), (7, true), (8, true), (5, false), (9, false), (10, true), (11, true)] (by kernel_rfl) (by kernel_rfl) (fun w3 h3 => ?_)
        refine wpOrd_hide (fun _ _ d _ _ h => by cases d <;> exact h) (fun QR hQn hQp => ?_)
        simp only [ordOps, List.map_cons, List.map_nil, List.getD_cons_zero, List.getD_cons_succ]
        iterate 4 (refine wpOrd_quiet (v := ?_) rfl (fun _ _ _ => hQp _ _ _ _ _) ?_ ?_; rotate_left; (intro w' hS; (first | (go_simp; done) | (go_simp; with_reducible rfl))); simp only [Act.put, List.setIfInBounds_toArray, List.set_cons_zero, List.set_cons_succ])
        iterate 3 (refine wpOrd_quiet (v := ?_) (by kernel_rfl) (fun _ _ _ => hQp _ _ _ _ _) ?_ ?_; rotate_left; (intro w' hS; (first | (go_simp; done) | (go_simp; with_reducible rfl))); simp only [Act.put, List.setIfInBounds_toArray, List.set_cons_zero, List.set_cons_succ])
        -- stops at: load (Go.Op.load 94 (Go.Operand.tmp 14)) slot 15
        iterate 1 (refine wpOrd_quiet (v := ?_) (by kernel_rfl) (fun _ _ _ => hQp _ _ _ _ _) ?_ ?_; rotate_left; (intro w' hS; have ce := hcell.out _ hS.1; (first | (go_simp; done) | (go_simp; with_reducible rfl))); simp only [Act.put, List.setIfInBounds_toArray, List.set_cons_zero, List.set_cons_succ])
        -- stops at: eff:call (Go.Op.call {'callee': (Go.Callee.value (Go.Operand.func 46)), 'args': [(Go.Operand.tmp 11)], 'argTypes': [94]}) slot 12
        refine wpOrd_effQ (by kernel_rfl) (fun K Q' hK => ?_); go_simp
        refine (rank_ok H1 _ p' t' h3.fits ht').mono ?_
        rintro e wB ⟨rfl, hkB⟩
        rw [hr1.out]
        have h4 := h3.callk hkB
        refine hK _ _ (h4.sat' (GH.le_refl _) [] (by kernel_rfl)) ?_; clear hK K; try clear Q'
        -- stops at: eff:call (Go.Op.call {'callee': (Go.Callee.value (Go.Operand.func 46)), 'args': [(Go.Operand.tmp 15)], 'argTypes': [94]}) slot 16
        refine wpOrd_effQ (by kernel_rfl) (fun K Q' hK => ?_); go_simp
        refine (rank_ok H1 _ pf f h4.fits hpf).mono ?_
        rintro e wC ⟨rfl, hkC⟩
        rw [hr2.out]
        have h5 := h4.callk hkC
        refine hK _ _ (h5.sat' (GH.le_refl _) [] (by kernel_rfl)) ?_; clear hK K; try clear Q'
        iterate 1 (refine wpOrd_quiet (v := ?_) (by kernel_rfl) (fun _ _ _ => hQp _ _ _ _ _) ?_ ?_; rotate_left; (intro w' hS; (first | (go_simp; done) | (go_simp; with_reducible rfl))); simp only [Act.put, List.setIfInBounds_toArray, List.set_cons_zero, List.set_cons_succ])
        iterate 1 (refine wpOrd_quiet (v := ?_) rfl (fun _ _ _ => hQp _ _ _ _ _) ?_ ?_; rotate_left; (intro w' hS; (first | (go_simp; done) | (go_simp; with_reducible rfl))); simp only [Act.put, List.setIfInBounds_toArray, List.set_cons_zero, List.set_cons_succ])
        refine wpOrd_nil (hQn _ _ ?_); clear hQn hQp QR
        show Code.wp _ _ _ _ _
        -- stops at: cond
        refine wp_cond_false (rfl) ?_
        refine wp_exit ?_
        show Code.wp _ _ _ _ _
        refine wp_seq ?_
        refine wp_region_lit ?_
        iterate 1 (refine wpList_plainQ rfl (fun K Q' hK => ?_); go_simp; refine hK _ _ ?_; clear hK K; try clear Q')
        refine wpList_plainQ rfl (fun K Q' hK => ?_); go_simp
        refine h5.k_alloc (fun w6 h6 => ?_)
        refine hK _ _ ?_; clear hK K; try clear Q'
        iterate 1 (refine wpList_plainQ rfl (fun K Q' hK => ?_); go_simp; refine hK _ _ ?_; clear hK K; try clear Q')
        -- stops at: eff:Builtin.append (Go.Op.call {'callee': (Go.Callee.builtin Go.Builtin.append), 'args': [(Go.Operand.tmp 28), (Go.Operand.tmp 29)], 'argTypes': [107, 107]}) slot 30
        have hR := h6.rowOf 0 rfl 1 1 rfl (by unfold maxLen; omega)
        refine wpList_plainQ rfl (fun K Q' hK => ?_)
        obtain ⟨qs, hq1, hq2⟩ := hl'
        have hqn : qs.length < 1000000 := by have := hq2.1; have := hsz.out; have := Rw.length_le (f :: l'); omega
        refine hR.op_append_rep 0 rfl rfl info1 rfl (qs.map .pointer) rfl hq1 (by simp [Value.oneCell']) (by omega) (by unfold maxLen; omega) (fun v1 wB hB => ?_)
        refine hK _ _ ?_; clear hK K; try clear Q'
        obtain ⟨H6, h6, rA, leA⟩ := hB.settleRow 0 rfl
        iterate 1 (refine wpList_plainQ rfl (fun K Q' hK => ?_); go_simp; refine hK _ _ ?_; clear hK K; try clear Q')
        refine wpList_nil ?_
        show Code.wp _ _ _ _ _
        -- stops at: ret
        refine wp_ret ?_
        go_ret
        refine ⟨v1, H6, rfl, ?_, ?_⟩
        rotate_left
        · rw [hput.out]
          refine ⟨p' :: qs, ?_, RowR.cons (ht'.mono leA) (hq2.mono leA)⟩
          rw [Nat.add_comm] at rA
          exact rA
        rw [hputN.out]
        exact h6.post
      · have d1 : decide (r2 ≤ r1) = true := decide_eq_true (by have := hr1.out; have := hr2.out; omega)
        rw [Rw.put_ge kf l' hlt] at hput
        rw [Rw.putN_ge kf l' hlt] at hputN
        refine wp_seq ?_
        refine wp_seq ?_
        refine hs.region [] [(0, true), (1, true), (2, true), (3, true), (4, true), (6, true), (7, true), (8, true), (5, false), (9, false), (10, true), (11, true)] (by kernel_rfl) (by kernel_rfl) (fun w7 h7 => ?_)
        refine wpOrd_hide (fun _ _ d _ _ h => by cases d <;> exact h) (fun QR hQn hQp => ?_)
        simp only [ordOps, List.map_cons, List.map_nil, List.getD_cons_zero, List.getD_cons_succ]
        iterate 4 (refine wpOrd_quiet (v := ?_) rfl (fun _ _ _ => hQp _ _ _ _ _) ?_ ?_; rotate_left; (intro w' hS; (first | (go_simp; done) | (go_simp; with_reducible rfl))); simp only [Act.put, List.setIfInBounds_toArray, List.set_cons_zero, List.set_cons_succ])
        iterate 3 (refine wpOrd_quiet (v := ?_) (by kernel_rfl) (fun _ _ _ => hQp _ _ _ _ _) ?_ ?_; rotate_left; (intro w' hS; (first | (go_simp; done) | (go_simp; with_reducible rfl))); simp only [Act.put, List.setIfInBounds_toArray, List.set_cons_zero, List.set_cons_succ])
        -- stops at: load (Go.Op.load 94 (Go.Operand.tmp 14)) slot 15
        iterate 1 (refine wpOrd_quiet (v := ?_) (by kernel_rfl) (fun _ _ _ => hQp _ _ _ _ _) ?_ ?_; rotate_left; (intro w' hS; have ce := hcell.out _ hS.1; (first | (go_simp; done) | (go_simp; with_reducible rfl))); simp only [Act.put, List.setIfInBounds_toArray, List.set_cons_zero, List.set_cons_succ])
        -- stops at: eff:call (Go.Op.call {'callee': (Go.Callee.value (Go.Operand.func 46)), 'args': [(Go.Operand.tmp 11)], 'argTypes': [94]}) slot 12
        refine wpOrd_effQ (by kernel_rfl) (fun K Q' hK => ?_); go_simp
        refine (rank_ok H1 _ p' t' h7.fits ht').mono ?_
        rintro e wB ⟨rfl, hkB⟩
        rw [hr1.out]
        have h8 := h7.callk hkB
        refine hK _ _ (h8.sat' (GH.le_refl _) [] (by kernel_rfl)) ?_; clear hK K; try clear Q'
        -- stops at: eff:call (Go.Op.call {'callee': (Go.Callee.value (Go.Operand.func 46)), 'args': [(Go.Operand.tmp 15)], 'argTypes': [94]}) slot 16
        refine wpOrd_effQ (by kernel_rfl) (fun K Q' hK => ?_); go_simp
        refine (rank_ok H1 _ pf f h8.fits hpf).mono ?_
        rintro e wC ⟨rfl, hkC⟩
        rw [hr2.out]
        have h9 := h8.callk hkC
        refine hK _ _ (h9.sat' (GH.le_refl _) [] (by kernel_rfl)) ?_; clear hK K; try clear Q'
        iterate 1 (refine wpOrd_quiet (v := ?_) (by kernel_rfl) (fun _ _ _ => hQp _ _ _ _ _) ?_ ?_; rotate_left; (intro w' hS; (first | (go_simp; done) | (go_simp; with_reducible rfl))); simp only [Act.put, List.setIfInBounds_toArray, List.set_cons_zero, List.set_cons_succ])
        iterate 1 (refine wpOrd_quiet (v := ?_) rfl (fun _ _ _ => hQp _ _ _ _ _) ?_ ?_; rotate_left; (intro w' hS; (first | (go_simp; done) | (go_simp; with_reducible rfl))); simp only [Act.put, List.setIfInBounds_toArray, List.set_cons_zero, List.set_cons_succ])
        refine wpOrd_nil (hQn _ _ ?_); clear hQn hQp QR
        show Code.wp _ _ _ _ _
        -- stops at: cond
        refine wp_cond_true (rfl) ?_
        refine wp_skip ?_
        show Code.wp _ _ _ _ _
        refine wp_block ?_
        refine h9.region [] [(0, true), (1, true), (2, true), (3, true), (4, true), (6, true), (7, true), (5, false), (8, true), (9, true)] (by kernel_rfl) (by kernel_rfl) (fun w10 h10 => ?_)
        refine wpOrd_hide (fun _ _ d _ _ h => by cases d <;> exact h) (fun QR hQn hQp => ?_)
        simp only [ordOps, List.map_cons, List.map_nil, List.getD_cons_zero, List.getD_cons_succ]
        iterate 4 (refine wpOrd_quiet (v := ?_) rfl (fun _ _ _ => hQp _ _ _ _ _) ?_ ?_; rotate_left; (intro w' hS; (first | (go_simp; done) | (go_simp; with_reducible rfl))); simp only [Act.put, List.setIfInBounds_toArray, List.set_cons_zero, List.set_cons_succ])
        -- stops at: load (Go.Op.load 94 (Go.Operand.tmp 22)) slot 23
        iterate 1 (refine wpOrd_quiet (v := ?_) rfl (fun _ _ _ => hQp _ _ _ _ _) ?_ ?_; rotate_left; (intro w' hS; have ce := hcell.out _ hS.1; (first | (go_simp; done) | (go_simp; with_reducible rfl))); simp only [Act.put, List.setIfInBounds_toArray, List.set_cons_zero, List.set_cons_succ])
        iterate 2 (refine wpOrd_quiet (v := ?_) rfl (fun _ _ _ => hQp _ _ _ _ _) ?_ ?_; rotate_left; (intro w' hS; (first | (go_simp; done) | (go_simp; with_reducible rfl))); simp only [Act.put, List.setIfInBounds_toArray, List.set_cons_zero, List.set_cons_succ])
        -- stops at: eff:call (Go.Op.call {'callee': (Go.Callee.value (Go.Operand.func 77)), 'args': [(Go.Operand.tmp 19), (Go.Operand.tmp 20), (Go.Operand.tmp 23)], 'argTypes': [25, 94, 94] slot 24
        refine wpOrd_effQ rfl (fun K Q' hK => ?_); go_simp
        refine (link_ok H1 _ m _ _ p' pf t' f h10.pre (by have := hsz2.out; omega) ht' hpf).mono ?_
        rintro e wL ⟨pl, H2, rfl, hpL, hL⟩
        have h11 := h10.call hpL
        refine hK _ _ (h11.sat' hpL.le [] (by kernel_rfl)) ?_; clear hK K; try clear Q'
        iterate 2 (refine wpOrd_quiet (v := ?_) rfl (fun _ _ _ => hQp _ _ _ _ _) ?_ ?_; rotate_left; (intro w' hS; (first | (go_simp; done) | (go_simp; with_reducible rfl))); simp only [Act.put, List.setIfInBounds_toArray, List.set_cons_zero, List.set_cons_succ])
        refine wpOrd_nil (hQn _ _ ?_); clear hQn hQp QR
        -- stops at: end ('roundend',)
        show _ ∧ _
        go_roundw
        case rel =>
          refine ⟨Tr.link kf t' f, l', pl, H2, k + 1, rfl, hle1.trans hpL.le, hL, hrest.mono hpL.le, hput, ?_, ?_, ?_⟩
          · have := hputN.out; show _ = _; omega
          · have := hsz2.out; show _ < _; rw [Tr.link_size]; omega
          · rw [Int.natCast_add, ← Int.add_assoc, ← Int.add_assoc]
            exact h11
        case measure =>
          rw [hnl.out, hvl.out]
          omega

set_option maxRecDepth 100000 in
set_option maxHeartbeats 1000000 in
theorem sklevel_ok (H : GH) (w : World) (m : Option Nat) (c d : Int) (v : Value) (l : List (Tr El)) (hpre : Pre w H m c d) (hn : Rw.size l < 1000000) (hl : SlT H v l) :
    Calls Tryz.prog 53 #[mV m, v] w fun e w' => ∃ r H', e = .returned r ∧ Post w H m w' H' (c + Sk.levelN kf l) (d + Sk.levelN kf l) ∧ SlT H' r (Sk.level kf l) := by
  cases l with
  | nil =>
    obtain ⟨a0, c0, rfl, _, _⟩ := hl.form
    go_enter Tryz.func53, Tryz.ntmps53
    have h0 := St.start hpre
    refine wp_seq ?_
    refine wp_region_lit ?_
    iterate 1 (refine wpList_plainQ rfl (fun K Q' hK => ?_); go_simp; refine hK _ _ ?_; clear hK K; try clear Q')
    refine wpList_nil ?_
    show Code.wp _ _ _ _ _
    refine wp_seq ?_
    refine wp_seq ?_
    refine wp_region_lit ?_
    iterate 3 (refine wpList_plainQ rfl (fun K Q' hK => ?_); go_simp; refine hK _ _ ?_; clear hK K; try clear Q')
    refine wpList_nil ?_
    show Code.wp _ _ _ _ _
    -- stops at: cond
    refine wp_cond_true (rfl) ?_
    refine wp_seq ?_
    refine wp_region_lit ?_
    iterate 1 (refine wpList_plainQ rfl (fun K Q' hK => ?_); go_simp; refine hK _ _ ?_; clear hK K; try clear Q')
    refine wpList_nil ?_
    show Code.wp _ _ _ _ _
    -- stops at: ret
    refine wp_ret ?_
    go_ret
    exact ⟨_, H, rfl, by simpa [Sk.levelN] using h0.post, SlT.nil H⟩
  | cons t l =>
    obtain ⟨b0, o0, cap0, nn, pf, vS, rfl, hnn, hn1, hn0, hcap0, hcell, hpf, hvS, hrest⟩ := hl.cons
    have d1 : ((nn : Int) == 0) = false := beq_eq_false_iff_ne.2 (by omega)
    simp [Addr.add] at hvS
    rw [Rw.size_cons] at hn
    go_enter Tryz.func53, Tryz.ntmps53
    have h0 := St.start hpre
    refine wp_seq ?_
    refine wp_region_lit ?_
    iterate 1 (refine wpList_plainQ rfl (fun K Q' hK => ?_); go_simp; refine hK _ _ ?_; clear hK K; try clear Q')
    refine wpList_nil ?_
    show Code.wp _ _ _ _ _
    refine wp_seq ?_
    refine wp_seq ?_
    refine wp_region_lit ?_
    iterate 3 (refine wpList_plainQ rfl (fun K Q' hK => ?_); go_simp; refine hK _ _ ?_; clear hK K; try clear Q')
    refine wpList_nil ?_
    show Code.wp _ _ _ _ _
    -- stops at: cond
    refine wp_cond_false (rfl) ?_
    refine wp_skip ?_
    show Code.wp _ _ _ _ _
    refine wp_seq ?_
    refine h0.region [] [(0, true), (1, true), (2, true), (3, true), (4, true), (5, true), (6, false), (7, true)] (by kernel_rfl) (by kernel_rfl) (fun w1 h1 => ?_)
    refine wpOrd_hide (fun _ _ d _ _ h => by cases d <;> exact h) (fun QR hQn hQp => ?_)
    simp only [ordOps, List.map_cons, List.map_nil, List.getD_cons_zero, List.getD_cons_succ]
    iterate 3 (refine wpOrd_quiet (v := ?_) rfl (fun _ _ _ => hQp _ _ _ _ _) ?_ ?_; rotate_left; (intro w' hS; (first | (go_simp; done) | (go_simp; with_reducible rfl))); simp only [Act.put, List.setIfInBounds_toArray, List.set_cons_zero, List.set_cons_succ])
    -- stops at: load (Go.Op.load 94 (Go.Operand.tmp 10)) slot 11
    iterate 1 (refine wpOrd_quiet (v := ?_) rfl (fun _ _ _ => hQp _ _ _ _ _) ?_ ?_; rotate_left; (intro w' hS; have ce := hcell.out _ hS.1; (first | (go_simp; done) | (go_simp; with_reducible rfl))); simp only [Act.put, List.setIfInBounds_toArray, List.set_cons_zero, List.set_cons_succ])
    iterate 2 (refine wpOrd_quiet (v := ?_) rfl (fun _ _ _ => hQp _ _ _ _ _) ?_ ?_; rotate_left; (intro w' hS; (first | (go_simp; done) | (go_simp; with_reducible rfl))); simp only [Act.put, List.setIfInBounds_toArray, List.set_cons_zero, List.set_cons_succ])
    -- stops at: eff:call (Go.Op.call {'callee': (Go.Callee.value (Go.Operand.func 81)), 'args': [(Go.Operand.tmp 8), (Go.Operand.tmp 11), (Go.Operand.tmp 13)], 'argTypes': [25, 94, 107] slot 14
    refine wpOrd_effQ rfl (fun K Q' hK => ?_); go_simp
    refine (skput_ok H _ m _ _ pf vS t l h1.pre hn hpf hrest).mono ?_
    rintro e wA ⟨r, H1, rfl, hpA, hA⟩
    have h2 := h1.call hpA
    refine hK _ _ (h2.sat' hpA.le [] (by kernel_rfl)) ?_; clear hK K; try clear Q'
    iterate 1 (refine wpOrd_quiet (v := ?_) rfl (fun _ _ _ => hQp _ _ _ _ _) ?_ ?_; rotate_left; (intro w' hS; (first | (go_simp; done) | (go_simp; with_reducible rfl))); simp only [Act.put, List.setIfInBounds_toArray, List.set_cons_zero, List.set_cons_succ])
    refine wpOrd_nil (hQn _ _ ?_); clear hQn hQp QR
    show Code.wp _ _ _ _ _
    -- stops at: ret
    refine wp_ret ?_
    go_ret
    exact ⟨r, H1, rfl, h2.post, hA⟩
end Go.Proofs.YteigmfkkeofcaaaGreatDoor
