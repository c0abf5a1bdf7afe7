/-
Rows of elements: put where it belongs, sorted, joined, compared.
-/
import Derived.Test.YtceamdacacacjaaDoorNaElem
import Derived.Test.YtceamdacacacjaaDoorKbRow
namespace Go.Proofs.YtceamdacacacjaaDoor
open Go Go.RowKit
set_option linter.unusedVariables false

theorem infoE : ElemInfo Tryd.prog 22 41 (.agg #[.int .i64 0, .int .i64 0]) 2 16 :=
  ⟨Tryd.underlying22, info_parts (by kernel_rfl), rfl, by decide⟩
theorem elC_one (l : List El) : ∀ u ∈ l.flatMap elC, u.oneCell' = true := by
  intro u hu
  obtain ⟨a, _, ha⟩ := List.mem_flatMap.1 hu
  simp only [elC, List.mem_cons, List.mem_nil_iff, or_false] at ha
  rcases ha with rfl | rfl <;> rfl
theorem elC_take (l : List El) (k : Nat) : (l.flatMap elC).take (k * 2) = (l.take k).flatMap elC := by
  induction l generalizing k with
  | nil => simp
  | cons a l ih =>
    cases k with
    | zero => simp
    | succ k =>
      rw [List.flatMap_cons, List.take_succ_cons, List.flatMap_cons, ← ih k, show (k + 1) * 2 = k * 2 + 1 + 1 by omega]
      rfl
theorem elC_drop (l : List El) (k : Nat) : (l.flatMap elC).drop (k * 2) = (l.drop k).flatMap elC := by
  induction l generalizing k with
  | nil => simp
  | cons a l ih =>
    cases k with
    | zero => simp
    | succ k =>
      rw [List.flatMap_cons, List.drop_succ_cons, ← ih k, show (k + 1) * 2 = k * 2 + 1 + 1 by omega]
      rfl
/-- A settled slice, up to an index: 's[:k]'. -/
theorem SliceRep.upto {H : GH} {size n cap : Nat} {a : Option Addr} {xs : List Value} (h : SliceRep H size (.slice a n cap) n xs) (k : Nat) (hk : k ≤ n) : SliceRep H size (.slice a k cap) k (xs.take (k * size)) := by
  refine ⟨by rw [List.length_take, h.1]; exact Nat.min_eq_left (Nat.mul_le_mul_right _ hk), ?_⟩
  rcases h.2 with ⟨h0, a', cap', h1, h2⟩ | ⟨b, off, cap', cs, T, f, h1, h2, h3, h4, h5⟩
  · simp only [Value.slice.injEq] at h1
    obtain ⟨rfl, rfl, rfl⟩ := h1
    exact .inl ⟨by omega, _, cap, by rw [show k = 0 by omega], h2⟩
  · simp only [Value.slice.injEq] at h1
    obtain ⟨rfl, _, rfl⟩ := h1
    refine .inr ⟨b, off, cap, cs, T, f, rfl, by omega, h3, h4, fun j u hj => ?_⟩
    rw [List.getElem?_take] at hj
    split at hj
    · exact h5 j u hj
    · cases hj
theorem ElRep.upto {H : GH} {n cap : Nat} {a : Option Addr} {l : List El} (h : ElRep H (.slice a n cap) l) (hn : n = l.length) (k : Nat) (hk : k ≤ n) : SliceRep H 2 (.slice a k cap) k ((l.take k).flatMap elC) := by
  subst hn
  rw [← elC_take]; exact SliceRep.upto h k hk
theorem ElRep.from {H : GH} {n cap : Nat} {a : Option Addr} {l : List El} (h : ElRep H (.slice a n cap) l) (hn : n = l.length) (k : Nat) (hk : k ≤ n) : SliceRep H 2 (.slice (if cap = k then a else Option.map (fun x => x.add (k * 2)) a) (n - k) (cap - k)) (n - k) ((l.drop k).flatMap elC) := by
  subst hn
  rw [← elC_drop]; exact SliceRep.from h k hk


set_option maxRecDepth 100000 in
set_option maxHeartbeats 2000000 in
theorem rput_ok (H : GH) (w : World) (v : Value) (l : List El) (x : El) (hn : l.length < 1000000) (hf : Fits w H) (hr : ElRep H v l) :
    Calls Tryd.prog 24 #[v, elV x] w fun e w' => ∃ v' H', e = .returned v' ∧ Post w H none w' H' 0 0 ∧ ElRep H' v' (putE l x) := by
  have hpre : Pre w H none 0 0 := Pre.none hf 0 0
  obtain ⟨a, cap, rfl, hc1, hc2⟩ := hr.nil_or
  unfold maxLen at hc2
  go_enter Tryd.func24, Tryd.ntmps24
  have h0 := St.start hpre
  refine wp_seq ?_
  refine wp_region_lit ?_
  refine wpList_plainQ rfl (fun K Q' hK => ?_); go_simp
  refine h0.k_alloc (fun w1 h1 => ?_)
  refine hK _ _ ?_; clear hK K; try clear Q'
  iterate 1 (refine wpList_plainQ rfl (fun K Q' hK => ?_); go_simp; refine hK _ _ ?_; clear hK K; try clear Q')
  refine wpList_nil ?_
  show Code.wp _ _ _ _ _
  refine wp_seq ?_
  refine wp_region_lit ?_
  iterate 1 (refine wpList_plainQ rfl (fun K Q' hK => ?_); go_simp; refine hK _ _ ?_; clear hK K; try clear Q')
  refine wpList_nil ?_
  show Code.wp _ _ _ _ _
  refine wp_seq ?_
  refine wp_block ?_
  -- stops at: loop
  go_loopw [5] (fun v5 wr => ∃ (k : Nat), k ≤ lessN l x ∧ k ≤ l.length ∧ v5 = .int .i64 k ∧ St w H none 0 0 wr H [(w.heap.size, .cells #[.int .i64 x.1, .int .i64 x.2] 41)] []) (fun v5 _ => l.length - (intOf v5).toNat)
  case atStart => exact ⟨0, by omega, by omega, rfl, h1⟩
  case round =>
    obtain ⟨k, hk0, hk, rfl, hs⟩ := hrel
    have r1 := hr.upto rfl k hk
    have hkc : k ≤ cap := by omega
    obtain ⟨vS, hvS, r2⟩ : ∃ vS, (Value.slice (if cap = k then a else Option.map (fun x => x.add (k * 2)) a) (l.length - k) (cap - k)) = vS ∧ SliceRep H 2 vS (l.length - k) ((l.drop k).flatMap elC) := ⟨_, rfl, hr.from rfl k hk⟩
    by_cases hlt : k < l.length
    · obtain ⟨b, off, cap2, ee, _⟩ := hr.ne_nil (by omega)
      simp only [Value.slice.injEq, true_and] at ee
      obtain ⟨rfl, rfl⟩ := ee
      obtain ⟨c1, c2⟩ := elRep_cells hr (k := k) (a := l[k]) (by simp [hlt])
      obtain ⟨y, hy⟩ : ∃ y, Hid (l[k] = y) := ⟨l[k], show _ = _ from rfl⟩
      rw [hy.out] at c1 c2
      have hly : l[k]? = some y := by rw [List.getElem?_eq_getElem hlt, hy.out]
      have e1 : IntKind.i64.wrap ((k : Int) + 1) = (k : Int) + 1 := IntWalk.i64_in _ (by omega)
      cases hyx : El.lt y x with
      | true =>
        have hk1 : Hid (k + 1 ≤ lessN l x) := by
          show _ ≤ _
          rcases Nat.lt_or_ge k (lessN l x) with h | h
          · omega
          · have : k = lessN l x := by omega
            rw [lessN_at l x y (by rw [← this]; exact hly)] at hyx; cases hyx
        refine wp_seq ?_
        refine wp_seq ?_
        refine hs.region [0] [(0, true), (1, true), (2, true), (3, true), (4, true), (5, true), (6, true), (7, true), (8, true), (9, true), (10, false), (11, true)] (by kernel_rfl) (by kernel_rfl) (fun w2 h2 => ?_)
        refine wpOrd_hide (fun _ _ d _ _ h => by cases d <;> exact h) (fun QR hQn hQp => ?_)
        simp only [ordOps, List.map_cons, List.map_nil, List.getD_cons_zero, List.getD_cons_succ]
        iterate 5 (refine wpOrd_quiet (v := ?_) rfl (fun _ _ _ => hQp _ _ _ _ _) ?_ ?_; rotate_left; (intro w' hS; (first | (go_simp; done) | (go_simp; with_reducible rfl))); simp only [Act.put, List.setIfInBounds_toArray, List.set_cons_zero, List.set_cons_succ])
        iterate 3 (first | (refine wpOrd_skip rfl (fun _ _ _ => hQp _ _ _ _ _) ?_; simp only [Act.put, List.setIfInBounds_toArray, List.set_cons_zero, List.set_cons_succ]) | (refine wpOrd_quiet (v := ?_) rfl (fun _ _ _ => hQp _ _ _ _ _) ?_ ?_; rotate_left; (intro w' hS; (first | (go_simp; done) | (go_simp; with_reducible rfl))); simp only [Act.put, List.setIfInBounds_toArray, List.set_cons_zero, List.set_cons_succ]))
        -- stops at: load (Go.Op.load 41 (Go.Operand.tmp 14)) slot 15
        iterate 1 (first | (refine wpOrd_skip rfl (fun _ _ _ => hQp _ _ _ _ _) ?_; simp only [Act.put, List.setIfInBounds_toArray, List.set_cons_zero, List.set_cons_succ]) | (refine wpOrd_quiet (v := ?_) rfl (fun _ _ _ => hQp _ _ _ _ _) ?_ ?_; rotate_left; (intro w' hS; have ce := c1.out _ hS.1; have ce2 := c2.out _ hS.1; (first | (go_simp; done) | (go_simp; with_reducible rfl))); simp only [Act.put, List.setIfInBounds_toArray, List.set_cons_zero, List.set_cons_succ]))
        iterate 1 (first | (refine wpOrd_skip rfl (fun _ _ _ => hQp _ _ _ _ _) ?_; simp only [Act.put, List.setIfInBounds_toArray, List.set_cons_zero, List.set_cons_succ]) | (refine wpOrd_quiet (v := ?_) rfl (fun _ _ _ => hQp _ _ _ _ _) ?_ ?_; rotate_left; (intro w' hS; have c_0_0 := hS.cell 0 rfl 0 rfl; have c_0_1 := hS.cell 0 rfl 1 rfl; (first | (go_simp; done) | (go_simp; with_reducible rfl))); simp only [Act.put, List.setIfInBounds_toArray, List.set_cons_zero, List.set_cons_succ]))
        -- stops at: eff:call (Go.Op.call {'callee': (Go.Callee.value (Go.Operand.func 28)), 'args': [(Go.Operand.tmp 15), (Go.Operand.tmp 16)], 'argTypes': [41, 41]}) slot 17
        refine wpOrd_effQ rfl (fun K Q' hK => ?_); go_simp
        refine (rless_ok H _ y x h2.fits).mono ?_
        rintro e wA ⟨rfl, hkA⟩
        rw [hyx]
        have h3 := h2.callk hkA
        refine hK _ _ (h3.sat' (GH.le_refl _) [0] (by kernel_rfl)) ?_; clear hK K; try clear Q'
        iterate 1 (refine wpOrd_quiet (v := ?_) rfl (fun _ _ _ => hQp _ _ _ _ _) ?_ ?_; rotate_left; (intro w' hS; (first | (go_simp; done) | (go_simp; with_reducible rfl))); simp only [Act.put, List.setIfInBounds_toArray, List.set_cons_zero, List.set_cons_succ])
        refine wpOrd_nil (hQn _ _ ?_); clear hQn hQp QR
        show Code.wp _ _ _ _ _
        -- stops at: cond
        refine wp_cond_true (rfl) ?_
        refine wp_skip ?_
        show Code.wp _ _ _ _ _
        refine wp_block ?_
        refine wp_region_lit ?_
        iterate 3 (refine wpList_plainQ rfl (fun K Q' hK => ?_); go_simp; refine hK _ _ ?_; clear hK K; try clear Q')
        refine wpList_nil ?_
        -- stops at: end ('roundend',)
        show _ ∧ _
        go_roundw
        case rel => exact ⟨k + 1, hk1.out, by omega, by simp, h3⟩
        case measure => simp [intOf]; omega
      | false =>
        have hlk : Hid (lessN l x = k) := by
          refine lessN_of l x k (fun j hj => lessN_lt l x j (by omega)) (.inr ⟨y, hly, hyx⟩)
        refine wp_seq ?_
        refine wp_seq ?_
        refine hs.region [0] [(0, true), (1, true), (2, true), (3, true), (4, true), (5, true), (6, true), (7, true), (8, true), (9, true), (10, false), (11, true)] (by kernel_rfl) (by kernel_rfl) (fun w4 h4 => ?_)
        refine wpOrd_hide (fun _ _ d _ _ h => by cases d <;> exact h) (fun QR hQn hQp => ?_)
        simp only [ordOps, List.map_cons, List.map_nil, List.getD_cons_zero, List.getD_cons_succ]
        iterate 5 (refine wpOrd_quiet (v := ?_) rfl (fun _ _ _ => hQp _ _ _ _ _) ?_ ?_; rotate_left; (intro w' hS; (first | (go_simp; done) | (go_simp; with_reducible rfl))); simp only [Act.put, List.setIfInBounds_toArray, List.set_cons_zero, List.set_cons_succ])
        iterate 3 (first | (refine wpOrd_skip rfl (fun _ _ _ => hQp _ _ _ _ _) ?_; simp only [Act.put, List.setIfInBounds_toArray, List.set_cons_zero, List.set_cons_succ]) | (refine wpOrd_quiet (v := ?_) rfl (fun _ _ _ => hQp _ _ _ _ _) ?_ ?_; rotate_left; (intro w' hS; (first | (go_simp; done) | (go_simp; with_reducible rfl))); simp only [Act.put, List.setIfInBounds_toArray, List.set_cons_zero, List.set_cons_succ]))
        -- stops at: load (Go.Op.load 41 (Go.Operand.tmp 14)) slot 15
        iterate 1 (first | (refine wpOrd_skip rfl (fun _ _ _ => hQp _ _ _ _ _) ?_; simp only [Act.put, List.setIfInBounds_toArray, List.set_cons_zero, List.set_cons_succ]) | (refine wpOrd_quiet (v := ?_) rfl (fun _ _ _ => hQp _ _ _ _ _) ?_ ?_; rotate_left; (intro w' hS; have ce := c1.out _ hS.1; have ce2 := c2.out _ hS.1; (first | (go_simp; done) | (go_simp; with_reducible rfl))); simp only [Act.put, List.setIfInBounds_toArray, List.set_cons_zero, List.set_cons_succ]))
        iterate 1 (first | (refine wpOrd_skip rfl (fun _ _ _ => hQp _ _ _ _ _) ?_; simp only [Act.put, List.setIfInBounds_toArray, List.set_cons_zero, List.set_cons_succ]) | (refine wpOrd_quiet (v := ?_) rfl (fun _ _ _ => hQp _ _ _ _ _) ?_ ?_; rotate_left; (intro w' hS; have c_0_0 := hS.cell 0 rfl 0 rfl; have c_0_1 := hS.cell 0 rfl 1 rfl; (first | (go_simp; done) | (go_simp; with_reducible rfl))); simp only [Act.put, List.setIfInBounds_toArray, List.set_cons_zero, List.set_cons_succ]))
        -- stops at: eff:call (Go.Op.call {'callee': (Go.Callee.value (Go.Operand.func 28)), 'args': [(Go.Operand.tmp 15), (Go.Operand.tmp 16)], 'argTypes': [41, 41]}) slot 17
        refine wpOrd_effQ rfl (fun K Q' hK => ?_); go_simp
        refine (rless_ok H _ y x h4.fits).mono ?_
        rintro e wA ⟨rfl, hkA⟩
        rw [hyx]
        have h5 := h4.callk hkA
        refine hK _ _ (h5.sat' (GH.le_refl _) [0] (by kernel_rfl)) ?_; clear hK K; try clear Q'
        iterate 1 (refine wpOrd_quiet (v := ?_) rfl (fun _ _ _ => hQp _ _ _ _ _) ?_ ?_; rotate_left; (intro w' hS; (first | (go_simp; done) | (go_simp; with_reducible rfl))); simp only [Act.put, List.setIfInBounds_toArray, List.set_cons_zero, List.set_cons_succ])
        refine wpOrd_nil (hQn _ _ ?_); clear hQn hQp QR
        show Code.wp _ _ _ _ _
        -- stops at: cond
        refine wp_cond_false (rfl) ?_
        have hadd : (⟨b, off, none⟩ : Addr).add (k * 2) = ⟨b, off + k * 2, none⟩ := by unfold Addr.add; split <;> simp_all
        simp only [Option.map_some, hadd] at hvS
        skip
        refine wp_exit ?_
        show Code.wp _ _ _ _ _
        refine wp_seq ?_
        refine wp_region_lit ?_
        iterate 1 (refine wpList_plainQ rfl (fun K Q' hK => ?_); go_simp; refine hK _ _ ?_; clear hK K; try clear Q')
        refine wpList_nil ?_
        show Code.wp _ _ _ _ _
        refine wp_seq ?_
        refine wp_region_lit ?_
        iterate 4 (refine wpList_plainQ rfl (fun K Q' hK => ?_); go_simp; refine hK _ _ ?_; clear hK K; try clear Q')
        -- stops at: eff:Builtin.append (Go.Op.call {'callee': (Go.Callee.builtin Go.Builtin.append), 'args': [(Go.Operand.tmp 21), (Go.Operand.tmp 24)], 'argTypes': [22, 22]}) slot 25
        refine wpList_plainQ rfl (fun K Q' hK => ?_)
        have hA := h5.row0 41 2
        refine hA.op_append_rep 0 rfl rfl infoE rfl ((l.take k).flatMap elC) rfl r1 (elC_one _) (by omega) (by unfold maxLen; omega) (fun v1 wB hB => ?_)
        refine hK _ _ ?_; clear hK K; try clear Q'
        iterate 1 (refine wpList_plainQ rfl (fun K Q' hK => ?_); go_simp; refine hK _ _ ?_; clear hK K; try clear Q')
        refine wpList_nil ?_
        show Code.wp _ _ _ _ _
        refine wp_seq ?_
        refine wp_region_lit ?_
        have c_0_0 := hB.cell 0 rfl 0 rfl
        have c_0_1 := hB.cell 0 rfl 1 rfl
        iterate 2 (refine wpList_plainQ rfl (fun K Q' hK => ?_); go_simp; refine hK _ _ ?_; clear hK K; try clear Q')
        clear c_0_0 c_0_1
        refine wpList_plainQ rfl (fun K Q' hK => ?_); go_simp
        refine hB.k_alloc (fun w6 h6 => ?_)
        refine hK _ _ ?_; clear hK K; try clear Q'
        -- stops at: eff:Builtin.append (Go.Op.call {'callee': (Go.Callee.builtin Go.Builtin.append), 'args': [(Go.Operand.tmp 26), (Go.Operand.tmp 28)], 'argTypes': [22, 22]}) slot 29
        refine wpList_plainQ rfl (fun K Q' hK => ?_)
        refine h6.op_append 0 rfl rfl infoE rfl [.int .i64 x.1, .int .i64 x.2] rfl rfl (fun j u hj => ?_) (by simp [Value.oneCell']) (by omega) (by unfold maxLen; omega) (fun v2 wC hC oC hnC => ?_)
        · match j, hj with
          | 0, hj => exact h6.cell 1 rfl 0 hj
          | 1, hj => exact h6.cell 1 rfl 1 hj
        refine hK _ _ ?_; clear hK K; try clear Q'
        iterate 1 (refine wpList_plainQ rfl (fun K Q' hK => ?_); go_simp; refine hK _ _ ?_; clear hK K; try clear Q')
        refine wpList_nil ?_
        show Code.wp _ _ _ _ _
        refine wp_seq ?_
        refine wp_region_lit ?_
        iterate 4 (refine wpList_plainQ rfl (fun K Q' hK => ?_); go_simp; refine hK _ _ ?_; clear hK K; try clear Q')
        -- stops at: eff:Builtin.append (Go.Op.call {'callee': (Go.Callee.builtin Go.Builtin.append), 'args': [(Go.Operand.tmp 30), (Go.Operand.tmp 33)], 'argTypes': [22, 22]}) slot 34
        refine wpList_plainQ rfl (fun K Q' hK => ?_)
        refine hC.op_append_rep 0 rfl rfl infoE rfl ((l.drop k).flatMap elC) rfl r2 (elC_one _) (by omega) (by unfold maxLen; omega) (fun v3 wD hD => ?_)
        refine hK _ _ ?_; clear hK K; try clear Q'
        obtain ⟨H6, h6, rA, leA⟩ := hD.settleRow 0 rfl
        iterate 1 (refine wpList_plainQ rfl (fun K Q' hK => ?_); go_simp; refine hK _ _ ?_; clear hK K; try clear Q')
        refine wpList_nil ?_
        show Code.wp _ _ _ _ _
        -- stops at: ret
        refine wp_ret ?_
        go_ret
        refine ⟨_, H6, rfl, h6.post, ?_⟩
        unfold ElRep
        rw [putE_length, putE_eq, hlk.out]
        have e2 : 0 + k + 1 + (l.length - k) = l.length + 1 := by omega
        rw [← e2]
        simpa [List.flatMap_append, elC] using rA
    · obtain rfl : k = l.length := by omega
      have hlk : Hid (lessN l x = l.length) := by
        show _ = _
        have := lessN_le l x
        omega
      refine wp_seq ?_
      refine wp_seq ?_
      refine hs.region [0] [(0, true), (1, true), (2, true), (3, true), (4, true), (5, true), (6, true), (7, true), (8, true), (9, true), (10, false), (11, true)] (by kernel_rfl) (by kernel_rfl) (fun w7 h7 => ?_)
      refine wpOrd_hide (fun _ _ d _ _ h => by cases d <;> exact h) (fun QR hQn hQp => ?_)
      simp only [ordOps, List.map_cons, List.map_nil, List.getD_cons_zero, List.getD_cons_succ]
      iterate 5 (refine wpOrd_quiet (v := ?_) rfl (fun _ _ _ => hQp _ _ _ _ _) ?_ ?_; rotate_left; (intro w' hS; (first | (go_simp; done) | (go_simp; with_reducible rfl))); simp only [Act.put, List.setIfInBounds_toArray, List.set_cons_zero, List.set_cons_succ])
      iterate 3 (first | (refine wpOrd_skip rfl (fun _ _ _ => hQp _ _ _ _ _) ?_; simp only [Act.put, List.setIfInBounds_toArray, List.set_cons_zero, List.set_cons_succ]) | (refine wpOrd_quiet (v := ?_) rfl (fun _ _ _ => hQp _ _ _ _ _) ?_ ?_; rotate_left; (intro w' hS; (first | (go_simp; done) | (go_simp; with_reducible rfl))); simp only [Act.put, List.setIfInBounds_toArray, List.set_cons_zero, List.set_cons_succ]))
      -- stops at: load (Go.Op.load 41 (Go.Operand.tmp 14)) slot 15
      iterate 1 (first | (refine wpOrd_skip rfl (fun _ _ _ => hQp _ _ _ _ _) ?_; simp only [Act.put, List.setIfInBounds_toArray, List.set_cons_zero, List.set_cons_succ]) | (refine wpOrd_quiet (v := ?_) rfl (fun _ _ _ => hQp _ _ _ _ _) ?_ ?_; rotate_left; (intro w' hS;  (first | (go_simp; done) | (go_simp; with_reducible rfl))); simp only [Act.put, List.setIfInBounds_toArray, List.set_cons_zero, List.set_cons_succ]))
      iterate 1 (first | (refine wpOrd_skip rfl (fun _ _ _ => hQp _ _ _ _ _) ?_; simp only [Act.put, List.setIfInBounds_toArray, List.set_cons_zero, List.set_cons_succ]) | (refine wpOrd_quiet (v := ?_) rfl (fun _ _ _ => hQp _ _ _ _ _) ?_ ?_; rotate_left; (intro w' hS; have c_0_0 := hS.cell 0 rfl 0 rfl; have c_0_1 := hS.cell 0 rfl 1 rfl; (first | (go_simp; done) | (go_simp; with_reducible rfl))); simp only [Act.put, List.setIfInBounds_toArray, List.set_cons_zero, List.set_cons_succ]))
      -- stops at: eff:call (Go.Op.call {'callee': (Go.Callee.value (Go.Operand.func 28)), 'args': [(Go.Operand.tmp 15), (Go.Operand.tmp 16)], 'argTypes': [41, 41]}) slot 17
      refine wpOrd_effskip rfl ?_; simp only [Act.put, List.setIfInBounds_toArray, List.set_cons_zero, List.set_cons_succ]
      iterate 1 (refine wpOrd_quiet (v := ?_) rfl (fun _ _ _ => hQp _ _ _ _ _) ?_ ?_; rotate_left; (intro w' hS; (first | (go_simp; done) | (go_simp; with_reducible rfl))); simp only [Act.put, List.setIfInBounds_toArray, List.set_cons_zero, List.set_cons_succ])
      refine wpOrd_nil (hQn _ _ ?_); clear hQn hQp QR
      show Code.wp _ _ _ _ _
      -- stops at: cond
      refine wp_cond_false (rfl) ?_
      rw [Nat.sub_self] at hvS
      skip
      refine wp_exit ?_
      show Code.wp _ _ _ _ _
      refine wp_seq ?_
      refine wp_region_lit ?_
      iterate 1 (refine wpList_plainQ rfl (fun K Q' hK => ?_); go_simp; refine hK _ _ ?_; clear hK K; try clear Q')
      refine wpList_nil ?_
      show Code.wp _ _ _ _ _
      refine wp_seq ?_
      refine wp_region_lit ?_
      iterate 4 (refine wpList_plainQ rfl (fun K Q' hK => ?_); go_simp; refine hK _ _ ?_; clear hK K; try clear Q')
      -- stops at: eff:Builtin.append (Go.Op.call {'callee': (Go.Callee.builtin Go.Builtin.append), 'args': [(Go.Operand.tmp 21), (Go.Operand.tmp 24)], 'argTypes': [22, 22]}) slot 25
      refine wpList_plainQ rfl (fun K Q' hK => ?_)
      have hA := h7.row0 41 2
      refine hA.op_append_rep 0 rfl rfl infoE rfl ((l.take l.length).flatMap elC) rfl r1 (elC_one _) (by omega) (by unfold maxLen; omega) (fun v1 wB hB => ?_)
      refine hK _ _ ?_; clear hK K; try clear Q'
      iterate 1 (refine wpList_plainQ rfl (fun K Q' hK => ?_); go_simp; refine hK _ _ ?_; clear hK K; try clear Q')
      refine wpList_nil ?_
      show Code.wp _ _ _ _ _
      refine wp_seq ?_
      refine wp_region_lit ?_
      have c_0_0 := hB.cell 0 rfl 0 rfl
      have c_0_1 := hB.cell 0 rfl 1 rfl
      iterate 2 (refine wpList_plainQ rfl (fun K Q' hK => ?_); go_simp; refine hK _ _ ?_; clear hK K; try clear Q')
      clear c_0_0 c_0_1
      refine wpList_plainQ rfl (fun K Q' hK => ?_); go_simp
      refine hB.k_alloc (fun w8 h8 => ?_)
      refine hK _ _ ?_; clear hK K; try clear Q'
      -- stops at: eff:Builtin.append (Go.Op.call {'callee': (Go.Callee.builtin Go.Builtin.append), 'args': [(Go.Operand.tmp 26), (Go.Operand.tmp 28)], 'argTypes': [22, 22]}) slot 29
      refine wpList_plainQ rfl (fun K Q' hK => ?_)
      refine h8.op_append 0 rfl rfl infoE rfl [.int .i64 x.1, .int .i64 x.2] rfl rfl (fun j u hj => ?_) (by simp [Value.oneCell']) (by omega) (by unfold maxLen; omega) (fun v2 wC hC oC hnC => ?_)
      · match j, hj with
        | 0, hj => exact h8.cell 1 rfl 0 hj
        | 1, hj => exact h8.cell 1 rfl 1 hj
      refine hK _ _ ?_; clear hK K; try clear Q'
      iterate 1 (refine wpList_plainQ rfl (fun K Q' hK => ?_); go_simp; refine hK _ _ ?_; clear hK K; try clear Q')
      refine wpList_nil ?_
      show Code.wp _ _ _ _ _
      refine wp_seq ?_
      refine wp_region_lit ?_
      iterate 4 (refine wpList_plainQ rfl (fun K Q' hK => ?_); go_simp; refine hK _ _ ?_; clear hK K; try clear Q')
      -- stops at: eff:Builtin.append (Go.Op.call {'callee': (Go.Callee.builtin Go.Builtin.append), 'args': [(Go.Operand.tmp 30), (Go.Operand.tmp 33)], 'argTypes': [22, 22]}) slot 34
      refine wpList_plainQ rfl (fun K Q' hK => ?_)
      refine hC.op_append_rep 0 rfl rfl infoE rfl ((l.drop l.length).flatMap elC) rfl r2 (elC_one _) (by omega) (by unfold maxLen; omega) (fun v3 wD hD => ?_)
      refine hK _ _ ?_; clear hK K; try clear Q'
      obtain ⟨H6, h6, rA, leA⟩ := hD.settleRow 0 rfl
      iterate 1 (refine wpList_plainQ rfl (fun K Q' hK => ?_); go_simp; refine hK _ _ ?_; clear hK K; try clear Q')
      refine wpList_nil ?_
      show Code.wp _ _ _ _ _
      -- stops at: ret
      refine wp_ret ?_
      go_ret
      refine ⟨_, H6, rfl, h6.post, ?_⟩
      unfold ElRep
      rw [putE_length, putE_eq, hlk.out]
      have e2 : 0 + l.length + 1 + (l.length - l.length) = l.length + 1 := by omega
      rw [← e2]
      simpa [List.flatMap_append, elC] using rA

theorem sumE_snoc (a b : List El) (x : El) : sumE a (b ++ [x]) = putE (sumE a b) x := by simp [sumE, List.foldl_append]
theorem sumE_nil (a : List El) : sumE a [] = a := rfl


set_option maxRecDepth 100000 in
set_option maxHeartbeats 2000000 in
theorem rsort_ok (H : GH) (w : World) (v : Value) (l : List El) (hn : l.length < 1000000) (hf : Fits w H) (hr : ElRep H v l) :
    Calls Tryd.prog 16 #[v] w fun e w' => ∃ v' H', e = .returned v' ∧ Post w H none w' H' 0 0 ∧ ElRep H' v' (sortE l) := by
  have hpre : Pre w H none 0 0 := Pre.none hf 0 0
  obtain ⟨a, cap, rfl, hc1, hc2⟩ := hr.nil_or
  unfold maxLen at hc2
  go_enter Tryd.func16, Tryd.ntmps16
  have h0 := St.start hpre
  refine wp_seq ?_
  refine wp_region_lit ?_
  iterate 1 (refine wpList_plainQ rfl (fun K Q' hK => ?_); go_simp; refine hK _ _ ?_; clear hK K; try clear Q')
  refine wpList_nil ?_
  show Code.wp _ _ _ _ _
  refine wp_seq ?_
  refine wp_region_lit ?_
  iterate 1 (refine wpList_plainQ rfl (fun K Q' hK => ?_); go_simp; refine hK _ _ ?_; clear hK K; try clear Q')
  refine wpList_nil ?_
  show Code.wp _ _ _ _ _
  refine wp_seq ?_
  refine wp_seq ?_
  refine wp_region_lit ?_
  iterate 1 (refine wpList_plainQ rfl (fun K Q' hK => ?_); go_simp; refine hK _ _ ?_; clear hK K; try clear Q')
  refine wpList_nil ?_
  show Code.wp _ _ _ _ _
  refine wp_block ?_
  -- stops at: loop
  go_loopw [3, 4] (fun v3 v4 wr => ∃ (k : Nat) (H' : GH), k ≤ l.length ∧ v4 = .int .i64 k ∧ St w H none 0 0 wr H' [] [] ∧ ElRep H' v3 (sumE [] (l.take k))) (fun _ v4 _ => l.length - (intOf v4).toNat)
  case atStart => exact ⟨0, H, by omega, rfl, h0, SliceRep.nil _ _⟩
  case round =>
    obtain ⟨k, H1, hk, rfl, hs, hr1⟩ := hrel
    by_cases hlt : k < l.length
    · skip
      obtain ⟨b, off, cap2, ee, _⟩ := hr.ne_nil (by omega)
      simp only [Value.slice.injEq, true_and] at ee
      obtain ⟨rfl, rfl⟩ := ee
      obtain ⟨c1, c2⟩ := elRep_cells hr (k := k) (a := l[k]) (by simp [hlt])
      obtain ⟨y, hy⟩ : ∃ y, Hid (l[k] = y) := ⟨l[k], show _ = _ from rfl⟩
      rw [hy.out] at c1 c2
      have hly : l[k]? = some y := by rw [List.getElem?_eq_getElem hlt, hy.out]
      have htk : l.take (k + 1) = l.take k ++ [y] := by rw [List.take_add_one, hly]; rfl
      have e1 : IntKind.i64.wrap ((k : Int) + 1) = (k : Int) + 1 := IntWalk.i64_in _ (by omega)
      refine wp_seq ?_
      refine wp_seq ?_
      refine wp_region_lit ?_
      iterate 4 (refine wpList_plainQ rfl (fun K Q' hK => ?_); go_simp; refine hK _ _ ?_; clear hK K; try clear Q')
      refine wpList_nil ?_
      show Code.wp _ _ _ _ _
      -- stops at: cond
      refine wp_cond_true (rfl) ?_
      refine wp_skip ?_
      show Code.wp _ _ _ _ _
      refine wp_seq ?_
      refine wp_block ?_
      refine wp_region_lit ?_
      iterate 4 (refine wpList_plainQ rfl (fun K Q' hK => ?_); go_simp; refine hK _ _ ?_; clear hK K; try clear Q')
      -- stops at: load (Go.Op.load 41 (Go.Operand.tmp 14)) slot 15
      have ce := c1.out _ (hs.fits.le hs.le)
      have ce2 := c2.out _ (hs.fits.le hs.le)
      iterate 1 (refine wpList_plainQ rfl (fun K Q' hK => ?_); go_simp; refine hK _ _ ?_; clear hK K; try clear Q')
      clear ce ce2
      -- stops at: eff:call (Go.Op.call {'callee': (Go.Callee.value (Go.Operand.func 24)), 'args': [(Go.Operand.tmp 11), (Go.Operand.tmp 15)], 'argTypes': [22, 41]}) slot 16
      refine wpList_plainQ rfl (fun K Q' hK => ?_); go_simp
      refine (rput_ok H1 _ _ _ y (by rw [sumE_length]; simp; omega) hs.fits hr1).mono ?_
      rintro e wA ⟨v', H2, rfl, hpA, hrA⟩
      have h1 := hs.call0 hpA
      refine hK _ _ ?_; clear hK K; try clear Q'
      iterate 1 (refine wpList_plainQ rfl (fun K Q' hK => ?_); go_simp; refine hK _ _ ?_; clear hK K; try clear Q')
      refine wpList_nil ?_
      show Code.wp _ _ _ _ _
      refine wp_region_lit ?_
      iterate 3 (refine wpList_plainQ rfl (fun K Q' hK => ?_); go_simp; refine hK _ _ ?_; clear hK K; try clear Q')
      refine wpList_nil ?_
      -- stops at: end ('roundend',)
      show _ ∧ _
      go_roundw
      case rel => exact ⟨k + 1, H2, by omega, by simp, h1, by rw [htk, sumE_snoc]; exact hrA⟩
      case measure => simp [intOf]; omega
    · obtain rfl : k = l.length := by omega
      refine wp_seq ?_
      refine wp_seq ?_
      refine wp_region_lit ?_
      iterate 4 (refine wpList_plainQ rfl (fun K Q' hK => ?_); go_simp; refine hK _ _ ?_; clear hK K; try clear Q')
      refine wpList_nil ?_
      show Code.wp _ _ _ _ _
      -- stops at: cond
      refine wp_cond_false (rfl) ?_
      refine wp_exit ?_
      show Code.wp _ _ _ _ _
      refine wp_seq ?_
      refine wp_region_lit ?_
      iterate 2 (refine wpList_plainQ rfl (fun K Q' hK => ?_); go_simp; refine hK _ _ ?_; clear hK K; try clear Q')
      refine wpList_nil ?_
      show Code.wp _ _ _ _ _
      -- stops at: ret
      refine wp_ret ?_
      go_ret
      rw [List.take_length] at hr1
      exact ⟨_, H1, rfl, hs.post, hr1⟩

set_option maxRecDepth 100000 in
set_option maxHeartbeats 2000000 in
theorem rsum_ok (H : GH) (w : World) (v u : Value) (j l : List El) (hn : j.length + l.length < 1000000) (hf : Fits w H) (hj : ElRep H v j) (hr : ElRep H u l) :
    Calls Tryd.prog 19 #[v, u] w fun e w' => ∃ v' H', e = .returned v' ∧ Post w H none w' H' 0 0 ∧ ElRep H' v' (sumE j l) := by
  have hpre : Pre w H none 0 0 := Pre.none hf 0 0
  obtain ⟨a, cap, rfl, hc1, hc2⟩ := hr.nil_or
  unfold maxLen at hc2
  go_enter Tryd.func19, Tryd.ntmps19
  have h0 := St.start hpre
  refine wp_seq ?_
  refine wp_region_lit ?_
  iterate 1 (refine wpList_plainQ rfl (fun K Q' hK => ?_); go_simp; refine hK _ _ ?_; clear hK K; try clear Q')
  refine wpList_nil ?_
  show Code.wp _ _ _ _ _
  refine wp_seq ?_
  refine wp_region_lit ?_
  iterate 2 (refine wpList_plainQ rfl (fun K Q' hK => ?_); go_simp; refine hK _ _ ?_; clear hK K; try clear Q')
  refine wpList_nil ?_
  show Code.wp _ _ _ _ _
  refine wp_seq ?_
  refine wp_seq ?_
  refine wp_region_lit ?_
  iterate 1 (refine wpList_plainQ rfl (fun K Q' hK => ?_); go_simp; refine hK _ _ ?_; clear hK K; try clear Q')
  refine wpList_nil ?_
  show Code.wp _ _ _ _ _
  refine wp_block ?_
  -- stops at: loop
  go_loopw [5, 6] (fun v3 v4 wr => ∃ (k : Nat) (H' : GH), k ≤ l.length ∧ v4 = .int .i64 k ∧ St w H none 0 0 wr H' [] [] ∧ ElRep H' v3 (sumE j (l.take k))) (fun _ v4 _ => l.length - (intOf v4).toNat)
  case atStart => exact ⟨0, H, by omega, rfl, h0, hj⟩
  case round =>
    obtain ⟨k, H1, hk, rfl, hs, hr1⟩ := hrel
    by_cases hlt : k < l.length
    · skip
      obtain ⟨b, off, cap2, ee, _⟩ := hr.ne_nil (by omega)
      simp only [Value.slice.injEq, true_and] at ee
      obtain ⟨rfl, rfl⟩ := ee
      obtain ⟨c1, c2⟩ := elRep_cells hr (k := k) (a := l[k]) (by simp [hlt])
      obtain ⟨y, hy⟩ : ∃ y, Hid (l[k] = y) := ⟨l[k], show _ = _ from rfl⟩
      rw [hy.out] at c1 c2
      have hly : l[k]? = some y := by rw [List.getElem?_eq_getElem hlt, hy.out]
      have htk : l.take (k + 1) = l.take k ++ [y] := by rw [List.take_add_one, hly]; rfl
      have e1 : IntKind.i64.wrap ((k : Int) + 1) = (k : Int) + 1 := IntWalk.i64_in _ (by omega)
      refine wp_seq ?_
      refine wp_seq ?_
      refine wp_region_lit ?_
      iterate 4 (refine wpList_plainQ rfl (fun K Q' hK => ?_); go_simp; refine hK _ _ ?_; clear hK K; try clear Q')
      refine wpList_nil ?_
      show Code.wp _ _ _ _ _
      -- stops at: cond
      refine wp_cond_true (rfl) ?_
      refine wp_skip ?_
      show Code.wp _ _ _ _ _
      refine wp_seq ?_
      refine wp_block ?_
      refine wp_region_lit ?_
      iterate 4 (refine wpList_plainQ rfl (fun K Q' hK => ?_); go_simp; refine hK _ _ ?_; clear hK K; try clear Q')
      -- stops at: load (Go.Op.load 41 (Go.Operand.tmp 17)) slot 18
      have ce := c1.out _ (hs.fits.le hs.le)
      have ce2 := c2.out _ (hs.fits.le hs.le)
      iterate 1 (refine wpList_plainQ rfl (fun K Q' hK => ?_); go_simp; refine hK _ _ ?_; clear hK K; try clear Q')
      clear ce ce2
      -- stops at: eff:call (Go.Op.call {'callee': (Go.Callee.value (Go.Operand.func 24)), 'args': [(Go.Operand.tmp 14), (Go.Operand.tmp 18)], 'argTypes': [22, 41]}) slot 19
      refine wpList_plainQ rfl (fun K Q' hK => ?_); go_simp
      refine (rput_ok H1 _ _ _ y (by rw [sumE_length]; simp; omega) hs.fits hr1).mono ?_
      rintro e wA ⟨v', H2, rfl, hpA, hrA⟩
      have h1 := hs.call0 hpA
      refine hK _ _ ?_; clear hK K; try clear Q'
      iterate 1 (refine wpList_plainQ rfl (fun K Q' hK => ?_); go_simp; refine hK _ _ ?_; clear hK K; try clear Q')
      refine wpList_nil ?_
      show Code.wp _ _ _ _ _
      refine wp_region_lit ?_
      iterate 3 (refine wpList_plainQ rfl (fun K Q' hK => ?_); go_simp; refine hK _ _ ?_; clear hK K; try clear Q')
      refine wpList_nil ?_
      -- stops at: end ('roundend',)
      show _ ∧ _
      go_roundw
      case rel => exact ⟨k + 1, H2, by omega, by simp, h1, by rw [htk, sumE_snoc]; exact hrA⟩
      case measure => simp [intOf]; omega
    · obtain rfl : k = l.length := by omega
      refine wp_seq ?_
      refine wp_seq ?_
      refine wp_region_lit ?_
      iterate 4 (refine wpList_plainQ rfl (fun K Q' hK => ?_); go_simp; refine hK _ _ ?_; clear hK K; try clear Q')
      refine wpList_nil ?_
      show Code.wp _ _ _ _ _
      -- stops at: cond
      refine wp_cond_false (rfl) ?_
      refine wp_exit ?_
      show Code.wp _ _ _ _ _
      refine wp_seq ?_
      refine wp_region_lit ?_
      iterate 2 (refine wpList_plainQ rfl (fun K Q' hK => ?_); go_simp; refine hK _ _ ?_; clear hK K; try clear Q')
      refine wpList_nil ?_
      show Code.wp _ _ _ _ _
      -- stops at: ret
      refine wp_ret ?_
      go_ret
      rw [List.take_length] at hr1
      exact ⟨_, H1, rfl, hs.post, hr1⟩

set_option maxRecDepth 100000 in
set_option maxHeartbeats 2000000 in
theorem rsame_ok (H : GH) (w : World) (v u : Value) (j l : List El) (hn : j.length < 1000000) (hn2 : l.length < 1000000) (hf : Fits w H) (hj : ElRep H v j) (hr : ElRep H u l) :
    Calls Tryd.prog 18 #[v, u] w fun e w' => e = .returned (.bool (decide (j = l))) ∧ Keep none w w' := by
  have hpre : Pre w H none 0 0 := Pre.none hf 0 0
  obtain ⟨a, cap, rfl, hc1, hc2⟩ := hj.nil_or
  obtain ⟨b, cap2, rfl, hd1, hd2⟩ := hr.nil_or
  unfold maxLen at hc2 hd2
  by_cases hl : j.length = l.length
  · have hl2 : ((j.length : Int) != (l.length : Int)) = false := by simp [hl]
    have HL : Hid (j.length = l.length) := hl
    clear hl
    go_enter Tryd.func18, Tryd.ntmps18
    have h0 := St.start hpre
    refine wp_seq ?_
    refine wp_region_lit ?_
    iterate 1 (refine wpList_plainQ rfl (fun K Q' hK => ?_); go_simp; refine hK _ _ ?_; clear hK K; try clear Q')
    refine wpList_nil ?_
    show Code.wp _ _ _ _ _
    refine wp_seq ?_
    refine wp_seq ?_
    refine wp_region_lit ?_
    iterate 5 (refine wpList_plainQ rfl (fun K Q' hK => ?_); go_simp; refine hK _ _ ?_; clear hK K; try clear Q')
    refine wpList_nil ?_
    show Code.wp _ _ _ _ _
    -- stops at: cond
    refine wp_cond_false (rfl) ?_
    refine wp_skip ?_
    show Code.wp _ _ _ _ _
    refine wp_seq ?_
    refine wp_seq ?_
    refine wp_region_lit ?_
    iterate 1 (refine wpList_plainQ rfl (fun K Q' hK => ?_); go_simp; refine hK _ _ ?_; clear hK K; try clear Q')
    refine wpList_nil ?_
    show Code.wp _ _ _ _ _
    refine wp_block ?_
    -- stops at: loop
    go_loopw [5] (fun v5 wr => ∃ k : Nat, k ≤ j.length ∧ v5 = .int .i64 k ∧ Hid (j.take k = l.take k) ∧ St w H none 0 0 wr H [] []) (fun v5 _ => j.length - (intOf v5).toNat)
    case atStart => exact ⟨0, by omega, rfl, by simp [Hid], h0⟩
    case round =>
      obtain ⟨k, hk, rfl, hx, hs1⟩ := hrel
      by_cases hlt : k < j.length
      · have hlt2 : k < l.length := by have := HL.out; omega
        obtain ⟨b1, o1, _, e1, _⟩ := hj.ne_nil (by omega)
        obtain ⟨b2, o2, _, e2, _⟩ := hr.ne_nil (by omega)
        simp only [Value.slice.injEq, true_and] at e1 e2
        obtain ⟨rfl, rfl⟩ := e1
        obtain ⟨rfl, rfl⟩ := e2
        obtain ⟨c1, c2⟩ := elRep_cells hj (k := k) (a := j[k]) (by simp [hlt])
        obtain ⟨d1, d2⟩ := elRep_cells hr (k := k) (a := l[k]) (by simp [hlt2])
        obtain ⟨x, hxx⟩ : ∃ x, Hid (j[k] = x) := ⟨j[k], show _ = _ from rfl⟩
        obtain ⟨y, hyy⟩ : ∃ y, Hid (l[k] = y) := ⟨l[k], show _ = _ from rfl⟩
        rw [hxx.out] at c1 c2
        rw [hyy.out] at d1 d2
        have e1 : IntKind.i64.wrap ((k : Int) + 1) = (k : Int) + 1 := IntWalk.i64_in _ (by omega)
        by_cases hxy : x = y
        · subst hxy
          refine wp_seq ?_
          refine wp_seq ?_
          refine wp_region_lit ?_
          iterate 4 (refine wpList_plainQ rfl (fun K Q' hK => ?_); go_simp; refine hK _ _ ?_; clear hK K; try clear Q')
          refine wpList_nil ?_
          show Code.wp _ _ _ _ _
          -- stops at: cond
          refine wp_cond_true (rfl) ?_
          refine wp_skip ?_
          show Code.wp _ _ _ _ _
          refine wp_seq ?_
          refine wp_block ?_
          refine wp_seq ?_
          refine hs1.region [] [(0, true), (1, true), (2, true), (3, true), (4, true), (5, true), (6, true), (7, true), (8, true)] (by kernel_rfl) (by kernel_rfl) (fun w1 h1 => ?_)
          refine wpOrd_hide (fun _ _ d _ _ h => by cases d <;> exact h) (fun QR hQn hQp => ?_)
          simp only [ordOps, List.map_cons, List.map_nil, List.getD_cons_zero, List.getD_cons_succ]
          iterate 3 (refine wpOrd_quiet (v := ?_) rfl (fun _ _ _ => hQp _ _ _ _ _) ?_ ?_; rotate_left; (intro w' hS; (first | (go_simp; done) | (go_simp; with_reducible rfl))); simp only [Act.put, List.setIfInBounds_toArray, List.set_cons_zero, List.set_cons_succ])
          -- stops at: load (Go.Op.load 41 (Go.Operand.tmp 19)) slot 20
          iterate 1 (refine wpOrd_quiet (v := ?_) rfl (fun _ _ _ => hQp _ _ _ _ _) ?_ ?_; rotate_left; (intro w' hS; have ce := c1.out _ hS.1; have ce2 := c2.out _ hS.1; (first | (go_simp; done) | (go_simp; with_reducible rfl))); simp only [Act.put, List.setIfInBounds_toArray, List.set_cons_zero, List.set_cons_succ])
          iterate 3 (refine wpOrd_quiet (v := ?_) rfl (fun _ _ _ => hQp _ _ _ _ _) ?_ ?_; rotate_left; (intro w' hS; (first | (go_simp; done) | (go_simp; with_reducible rfl))); simp only [Act.put, List.setIfInBounds_toArray, List.set_cons_zero, List.set_cons_succ])
          -- stops at: load (Go.Op.load 41 (Go.Operand.tmp 23)) slot 24
          iterate 1 (refine wpOrd_quiet (v := ?_) rfl (fun _ _ _ => hQp _ _ _ _ _) ?_ ?_; rotate_left; (intro w' hS; have ce := d1.out _ hS.1; have ce2 := d2.out _ hS.1; (first | (go_simp; done) | (go_simp; with_reducible rfl))); simp only [Act.put, List.setIfInBounds_toArray, List.set_cons_zero, List.set_cons_succ])
          iterate 1 (refine wpOrd_quiet (v := ?_) rfl (fun _ _ _ => hQp _ _ _ _ _) ?_ ?_; rotate_left; (intro w' hS; (first | (go_simp; done) | (go_simp; with_reducible rfl))); simp only [Act.put, List.setIfInBounds_toArray, List.set_cons_zero, List.set_cons_succ])
          refine wpOrd_nil (hQn _ _ ?_); clear hQn hQp QR
          show Code.wp _ _ _ _ _
          -- stops at: cond
          refine wp_cond_false (rfl) ?_
          refine wp_skip ?_
          show Code.wp _ _ _ _ _
          refine wp_region_lit ?_
          iterate 3 (refine wpList_plainQ rfl (fun K Q' hK => ?_); go_simp; refine hK _ _ ?_; clear hK K; try clear Q')
          refine wpList_nil ?_
          -- stops at: end ('roundend',)
          show _ ∧ _
          go_roundw
          case rel =>
            refine ⟨k + 1, by omega, by simp, ?_, h1⟩
            show j.take (k + 1) = l.take (k + 1)
            rw [List.take_add_one, List.take_add_one, hx.out, List.getElem?_eq_getElem hlt, List.getElem?_eq_getElem hlt2, hxx.out, hyy.out]
          case measure => simp [intOf]; omega
        · have hne : Hid (j ≠ l) := fun e => hxy (by
            have h1 := congrArg (fun l => l[k]?) e
            simp only [List.getElem?_eq_getElem hlt, List.getElem?_eq_getElem hlt2, hxx.out, hyy.out] at h1
            exact Option.some.inj h1)
          have hab1 : ∀ {α : Type} (p q : α), (if x.1 = y.1 then if x.2 = y.2 then p else q else q) = q := by
            intro α p q
            split
            · split
              · exact absurd (Prod.ext ‹_› ‹_›) hxy
              · rfl
            · rfl
          clear hxy
          refine wp_seq ?_
          refine wp_seq ?_
          refine wp_region_lit ?_
          iterate 4 (refine wpList_plainQ rfl (fun K Q' hK => ?_); go_simp; refine hK _ _ ?_; clear hK K; try clear Q')
          refine wpList_nil ?_
          show Code.wp _ _ _ _ _
          -- stops at: cond
          refine wp_cond_true (rfl) ?_
          refine wp_skip ?_
          show Code.wp _ _ _ _ _
          refine wp_seq ?_
          refine wp_block ?_
          refine wp_seq ?_
          refine hs1.region [] [(0, true), (1, true), (2, true), (3, true), (4, true), (5, true), (6, true), (7, true), (8, true)] (by kernel_rfl) (by kernel_rfl) (fun w2 h2 => ?_)
          refine wpOrd_hide (fun _ _ d _ _ h => by cases d <;> exact h) (fun QR hQn hQp => ?_)
          simp only [ordOps, List.map_cons, List.map_nil, List.getD_cons_zero, List.getD_cons_succ]
          iterate 3 (refine wpOrd_quiet (v := ?_) rfl (fun _ _ _ => hQp _ _ _ _ _) ?_ ?_; rotate_left; (intro w' hS; (first | (go_simp; done) | (go_simp; with_reducible rfl))); simp only [Act.put, List.setIfInBounds_toArray, List.set_cons_zero, List.set_cons_succ])
          -- stops at: load (Go.Op.load 41 (Go.Operand.tmp 19)) slot 20
          iterate 1 (refine wpOrd_quiet (v := ?_) rfl (fun _ _ _ => hQp _ _ _ _ _) ?_ ?_; rotate_left; (intro w' hS; have ce := c1.out _ hS.1; have ce2 := c2.out _ hS.1; (first | (go_simp; done) | (go_simp; with_reducible rfl))); simp only [Act.put, List.setIfInBounds_toArray, List.set_cons_zero, List.set_cons_succ])
          iterate 3 (refine wpOrd_quiet (v := ?_) rfl (fun _ _ _ => hQp _ _ _ _ _) ?_ ?_; rotate_left; (intro w' hS; (first | (go_simp; done) | (go_simp; with_reducible rfl))); simp only [Act.put, List.setIfInBounds_toArray, List.set_cons_zero, List.set_cons_succ])
          -- stops at: load (Go.Op.load 41 (Go.Operand.tmp 23)) slot 24
          iterate 1 (refine wpOrd_quiet (v := ?_) rfl (fun _ _ _ => hQp _ _ _ _ _) ?_ ?_; rotate_left; (intro w' hS; have ce := d1.out _ hS.1; have ce2 := d2.out _ hS.1; (first | (go_simp; done) | (go_simp; with_reducible rfl))); simp only [Act.put, List.setIfInBounds_toArray, List.set_cons_zero, List.set_cons_succ])
          iterate 1 (refine wpOrd_quiet (v := ?_) rfl (fun _ _ _ => hQp _ _ _ _ _) ?_ ?_; rotate_left; (intro w' hS; (first | (go_simp; done) | (go_simp; with_reducible rfl))); simp only [Act.put, List.setIfInBounds_toArray, List.set_cons_zero, List.set_cons_succ])
          refine wpOrd_nil (hQn _ _ ?_); clear hQn hQp QR
          show Code.wp _ _ _ _ _
          -- stops at: cond
          refine wp_cond_true (rfl) ?_
          refine wp_seq ?_
          refine wp_region_lit ?_
          iterate 1 (refine wpList_plainQ rfl (fun K Q' hK => ?_); go_simp; refine hK _ _ ?_; clear hK K; try clear Q')
          refine wpList_nil ?_
          show Code.wp _ _ _ _ _
          -- stops at: ret
          refine wp_ret ?_
          go_ret
          exact ⟨by rw [decide_eq_false hne.out]; rfl, h2.post.keep⟩
      · obtain rfl : k = j.length := by omega
        have heq : j = l := by
          have := hx.out
          rw [List.take_length, HL.out, List.take_length] at this
          exact this
        refine wp_seq ?_
        refine wp_seq ?_
        refine wp_region_lit ?_
        iterate 4 (refine wpList_plainQ rfl (fun K Q' hK => ?_); go_simp; refine hK _ _ ?_; clear hK K; try clear Q')
        refine wpList_nil ?_
        show Code.wp _ _ _ _ _
        -- stops at: cond
        refine wp_cond_false (rfl) ?_
        refine wp_exit ?_
        show Code.wp _ _ _ _ _
        refine wp_seq ?_
        refine wp_region_lit ?_
        iterate 1 (refine wpList_plainQ rfl (fun K Q' hK => ?_); go_simp; refine hK _ _ ?_; clear hK K; try clear Q')
        refine wpList_nil ?_
        show Code.wp _ _ _ _ _
        -- stops at: ret
        refine wp_ret ?_
        go_ret
        exact ⟨by rw [decide_eq_true heq]; rfl, hs1.post.keep⟩
  · have hl2 : ((j.length : Int) != (l.length : Int)) = true := by simp; omega
    have hne : j ≠ l := fun e => hl (by rw [e])
    go_enter Tryd.func18, Tryd.ntmps18
    have h0 := St.start hpre
    refine wp_seq ?_
    refine wp_region_lit ?_
    iterate 1 (refine wpList_plainQ rfl (fun K Q' hK => ?_); go_simp; refine hK _ _ ?_; clear hK K; try clear Q')
    refine wpList_nil ?_
    show Code.wp _ _ _ _ _
    refine wp_seq ?_
    refine wp_seq ?_
    refine wp_region_lit ?_
    iterate 5 (refine wpList_plainQ rfl (fun K Q' hK => ?_); go_simp; refine hK _ _ ?_; clear hK K; try clear Q')
    refine wpList_nil ?_
    show Code.wp _ _ _ _ _
    -- stops at: cond
    refine wp_cond_true (rfl) ?_
    refine wp_seq ?_
    refine wp_region_lit ?_
    iterate 1 (refine wpList_plainQ rfl (fun K Q' hK => ?_); go_simp; refine hK _ _ ?_; clear hK K; try clear Q')
    refine wpList_nil ?_
    show Code.wp _ _ _ _ _
    -- stops at: ret
    refine wp_ret ?_
    go_ret
    exact ⟨by rw [decide_eq_false hne]; rfl, h0.post.keep⟩
end Go.Proofs.YtceamdacacacjaaDoor
