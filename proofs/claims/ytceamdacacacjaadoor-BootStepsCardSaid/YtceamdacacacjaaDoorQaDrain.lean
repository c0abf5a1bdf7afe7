/-
A heap's elements, taken out one by one.
-/
import Derived.Test.YtceamdacacacjaaDoorPaHeap
import Derived.Test.YtceamdacacacjaaDoorNbRef
namespace Go.Proofs.YtceamdacacacjaaDoor
open Go Go.RowKit
set_option linter.unusedVariables false

/-- What is taken out, so many at most. -/
def drainL : Nat → Hp → List El
  | 0, _ => []
  | n + 1, t => match Hp.min? t with
    | none => []
    | some x => x :: drainL n (Hp.pop t)
theorem drainL_none (n : Nat) {t : Hp} (h : Hp.min? t = none) : drainL n t = [] := by
  cases n with
  | zero => rfl
  | succ n => unfold drainL; rw [h]
theorem drainL_some (n : Nat) {t : Hp} {x : El} (h : Hp.min? t = some x) : drainL (n + 1) t = x :: drainL n (Hp.pop t) := by
  rw [drainL, h]
theorem drainL_take (n : Nat) (t : Hp) (ht : Hp.ok t) : drainL n t = (sortE (Hp.els t)).take n := by
  induction n generalizing t with
  | zero => simp [drainL]
  | succ n ih =>
    cases h : Hp.min? t with
    | none => rw [drainL_none _ h, Hp.min_none ht h]; rfl
    | some x =>
      rw [drainL_some n h, ih _ (Hp.ok_pop ht), ← sortE_congr (Hp.min_perm ht h), sortE_cons_least (Hp.min_least ht h)]
      rfl
theorem drainL_all (n : Nat) (t : Hp) (ht : Hp.ok t) (hn : Hp.size t ≤ n) : drainL n t = sortE (Hp.els t) := by
  rw [drainL_take n t ht, List.take_of_length_le]
  rw [sortE_length]; exact hn
theorem Hp.size_pop {t : Hp} (ht : Hp.ok t) : Hp.size (Hp.pop t) ≤ Hp.size t := by
  cases h : Hp.min? t with
  | none =>
    cases hs : Hp.els (Hp.pop t) with
    | nil => rw [Hp.size_eq, hs]; simp
    | cons a l =>
      have e := Hp.min_none ht h
      rw [Hp.pop_none ht h]
      exact Nat.le_refl _
  | some x =>
    have := (Hp.min_perm ht h).length_eq
    rw [Hp.size_eq, Hp.size_eq]
    simp at this
    omega


set_option maxRecDepth 100000 in
set_option maxHeartbeats 2000000 in
theorem drain_ok (H : GH) (w : World) (p : Option Addr) (t : Hp) (n : Nat) (hn : n ≤ 1000000) (hsz : Hp.size t < 900000) (hf : Fits w H) (ht : HpR H p t) :
    Calls Tryd.prog 17 #[hV p, .int .i64 n] w fun e w' => ∃ v H', e = .returned v ∧ Post w H none w' H' 0 0 ∧ ElRep H' v (drainL n t) := by
  have hpre : Pre w H none 0 0 := Pre.none hf 0 0
  go_enter Tryd.func17, Tryd.ntmps17
  have h0 := St.start hpre
  refine wp_seq ?_
  refine wp_region_lit ?_
  refine wpList_plainQ rfl (fun K Q' hK => ?_); go_simp
  refine h0.k_alloc (fun w1 h1 => ?_)
  refine hK _ _ ?_; clear hK K; try clear Q'
  iterate 1 (refine wpList_plainQ rfl (fun K Q' hK => ?_); go_simp; refine hK _ _ ?_; clear hK K; try clear Q')
  refine wpList_nil ?_
  show Code.wp _ _ _ _ _
  refine wp_seq ?_
  refine wp_region_lit ?_
  iterate 1 (refine wpList_plainQ rfl (fun K Q' hK => ?_); go_simp; refine hK _ _ ?_; clear hK K; try clear Q')
  refine wpList_nil ?_
  show Code.wp _ _ _ _ _
  refine wp_seq ?_
  refine wp_region_lit ?_
  have c_0_0 := h1.cell 0 rfl 0 rfl
  iterate 1 (refine wpList_plainQ rfl (fun K Q' hK => ?_); go_simp; refine hK _ _ ?_; clear hK K; try clear Q')
  clear c_0_0
  -- stops at: eff:call (Go.Op.call {'callee': (Go.Callee.value (Go.Operand.func 27)), 'args': [(Go.Operand.tmp 10), (Go.Operand.const (Go.Value.pointer none))], 'argTypes': [26, 36]}) slot 11
  refine wpList_plainQ rfl (fun K Q' hK => ?_); go_simp
  refine (hmin_ok (m := none) h1.pre hsz ht).mono ?_
  rintro e wA ⟨H1, rfl, hpA⟩
  have h2 := h1.call0 hpA
  refine hK _ _ ?_; clear hK K; try clear Q'
  iterate 3 (refine wpList_plainQ rfl (fun K Q' hK => ?_); go_simp; refine hK _ _ ?_; clear hK K; try clear Q')
  refine wpList_plainQ rfl (fun K Q' hK => ?_); go_simp
  refine h2.k_alloc (fun w3 h3 => ?_)
  refine hK _ _ ?_; clear hK K; try clear Q'
  have c_0 := h3.cell 1 rfl 0 rfl
  have f_0 := h3.free 1 rfl 0
  have c_1 := h3.cell 1 rfl 1 rfl
  have f_1 := h3.free 1 rfl 1
  refine wpList_plainQ rfl (fun K Q' hK => ?_); go_simp
  clear c_0 f_0 c_1 f_1
  refine (h3.set (i := 1) rfl 0 _).k_set 1 rfl (fun w4 h4 => ?_)
  refine hK _ _ ?_; clear hK K; try clear Q'
  iterate 1 (refine wpList_plainQ rfl (fun K Q' hK => ?_); go_simp; refine hK _ _ ?_; clear hK K; try clear Q')
  refine wpList_nil ?_
  show Code.wp _ _ _ _ _
  refine wp_seq ?_
  refine wp_seq ?_
  refine wp_region_lit ?_
  iterate 1 (refine wpList_plainQ rfl (fun K Q' hK => ?_); go_simp; refine hK _ _ ?_; clear hK K; try clear Q')
  refine wpList_nil ?_
  show Code.wp _ _ _ _ _
  refine wp_block ?_
  -- stops at: loop
  have h90 := h4.row0 41 2
  go_loopw [5, 7, 8] (fun v5 v7 v8 wr => ∃ (t' : Hp) (q : Option Addr) (H' : GH) (dn : List El), Hid (dn ++ drainL (n - dn.length) t' = drainL n t) ∧ dn.length ≤ n ∧ v8 = .int .i64 dn.length ∧ v7 = .bool (Hp.min? t').isSome ∧ Hid (Hp.size t' < 900000) ∧ HpR H' q t' ∧ St w H none 0 0 wr H' [(w.heap.size, .cells #[.pointer q] 26), (wA.heap.size, .cells #[.int .i64 ((Hp.min? t').getD (0, 0)).1, .int .i64 ((Hp.min? t').getD (0, 0)).2] 41)] [⟨v5, 41, 2, dn.length, dn.flatMap elC⟩]) (fun _ _ v8 _ => n - (intOf v8).toNat)
  case atStart => exact ⟨t, p, H1, [], rfl, by simp, rfl, rfl, hsz, ht.mono hpA.le, h90⟩
  case round =>
    obtain ⟨t', q, H2, dn, hdn, hle, rfl, rfl, hs2, hq, hs⟩ := hrel
    obtain ⟨k, hk⟩ : ∃ k, Hid (dn.length = k) := ⟨dn.length, show _ = _ from rfl⟩
    rw [hk.out] at hdn hle hs ⊢
    by_cases hlt : k < n
    · cases hm : Hp.min? t' with
      | none =>
        simp only [Option.isSome_none]
        refine wp_seq ?_
        refine wp_seq ?_
        refine wp_region_lit ?_
        iterate 4 (refine wpList_plainQ rfl (fun K Q' hK => ?_); go_simp; refine hK _ _ ?_; clear hK K; try clear Q')
        first | go_skip | (iterate 1 (refine wpList_stepQ (o := { dst := _, op := _, type := _, pos := _, after := _, guard := some (3, true) }) (fun K Q' hK => ?_); go_simp; refine hK _ _ ?_; clear hK K; try clear Q')) | skip
        iterate 1 (refine wpList_plainQ rfl (fun K Q' hK => ?_); go_simp; refine hK _ _ ?_; clear hK K; try clear Q')
        refine wpList_nil ?_
        show Code.wp _ _ _ _ _
        -- stops at: cond
        refine wp_cond_false (rfl) ?_
        refine wp_exit ?_
        show Code.wp _ _ _ _ _
        refine wp_seq ?_
        refine wp_region_lit ?_
        iterate 2 (refine wpList_plainQ rfl (fun K Q' hK => ?_); go_simp; refine hK _ _ ?_; clear hK K; try clear Q')
        refine wpList_nil ?_
        show Code.wp _ _ _ _ _
        -- stops at: ret
        obtain ⟨H9, h99, rS, leS⟩ := hs.settleRow 0 rfl
        refine wp_ret ?_
        go_ret
        refine ⟨_, H9, rfl, h99.post, ?_⟩
        rw [← hdn.out, drainL_none _ hm, List.append_nil]
        unfold ElRep
        rw [hk.out]
        exact rS
      | some x =>
        have e1 : IntKind.i64.wrap ((k : Int) + 1) = (k : Int) + 1 := IntWalk.i64_in _ (by omega)
        simp only [hm, Option.getD_some] at hs
        obtain ⟨j, hj⟩ : ∃ j, n - k = j + 1 := ⟨n - k - 1, by omega⟩
        have hszp : Hp.size (Hp.pop t') < 900000 := by have := Hp.size_pop hq.ok; have := hs2.out; omega
        simp only [Option.isSome_some]
        refine wp_seq ?_
        refine wp_seq ?_
        refine wp_region_lit ?_
        iterate 4 (refine wpList_plainQ rfl (fun K Q' hK => ?_); go_simp; refine hK _ _ ?_; clear hK K; try clear Q')
        first | go_skip | (iterate 1 (refine wpList_stepQ (o := { dst := _, op := _, type := _, pos := _, after := _, guard := some (3, true) }) (fun K Q' hK => ?_); go_simp; refine hK _ _ ?_; clear hK K; try clear Q')) | skip
        iterate 1 (refine wpList_plainQ rfl (fun K Q' hK => ?_); go_simp; refine hK _ _ ?_; clear hK K; try clear Q')
        refine wpList_nil ?_
        show Code.wp _ _ _ _ _
        -- stops at: cond
        refine wp_cond_true (rfl) ?_
        refine wp_skip ?_
        show Code.wp _ _ _ _ _
        refine wp_seq ?_
        refine wp_block ?_
        refine wp_seq ?_
        refine wp_region_lit ?_
        have c_1_0 := hs.cell 1 rfl 0 rfl
        have c_1_1 := hs.cell 1 rfl 1 rfl
        iterate 2 (refine wpList_plainQ rfl (fun K Q' hK => ?_); go_simp; refine hK _ _ ?_; clear hK K; try clear Q')
        clear c_1_0 c_1_1
        refine wpList_plainQ rfl (fun K Q' hK => ?_); go_simp
        refine hs.k_alloc (fun w5 h5 => ?_)
        refine hK _ _ ?_; clear hK K; try clear Q'
        -- stops at: eff:Builtin.append (Go.Op.call {'callee': (Go.Callee.builtin Go.Builtin.append), 'args': [(Go.Operand.tmp 22), (Go.Operand.tmp 24)], 'argTypes': [22, 22]}) slot 25
        refine wpList_plainQ rfl (fun K Q' hK => ?_)
        refine h5.op_append 0 rfl rfl infoE rfl [.int .i64 x.1, .int .i64 x.2] rfl rfl (fun q u hj => ?_) (by simp [Value.oneCell']) (by omega) (by unfold maxLen; omega) (fun v' wF hF oF hnF => ?_)
        · match q, hj with
          | 0, hj => exact h5.cell 2 rfl 0 hj
          | 1, hj => exact h5.cell 2 rfl 1 hj
        refine hK _ _ ?_; clear hK K; try clear Q'
        iterate 1 (refine wpList_plainQ rfl (fun K Q' hK => ?_); go_simp; refine hK _ _ ?_; clear hK K; try clear Q')
        refine wpList_nil ?_
        show Code.wp _ _ _ _ _
        refine wp_seq ?_
        refine wp_region_lit ?_
        have c_0_0 := hF.cell 0 rfl 0 rfl
        iterate 1 (refine wpList_plainQ rfl (fun K Q' hK => ?_); go_simp; refine hK _ _ ?_; clear hK K; try clear Q')
        clear c_0_0
        -- stops at: eff:call (Go.Op.call {'callee': (Go.Callee.value (Go.Operand.func 25)), 'args': [(Go.Operand.tmp 27), (Go.Operand.const (Go.Value.pointer none))], 'argTypes': [26, 36]}) slot 28
        refine wpList_plainQ rfl (fun K Q' hK => ?_); go_simp
        refine (hpop_ok (m := none) hF.pre hs2.out hq).mono ?_
        rintro e wB ⟨r, H3, rfl, hpB, hrB⟩
        have h6 := hF.call0 hpB
        refine hK _ _ ?_; clear hK K; try clear Q'
        iterate 3 (refine wpList_plainQ rfl (fun K Q' hK => ?_); go_simp; refine hK _ _ ?_; clear hK K; try clear Q')
        have c_0 := h6.cell 0 rfl 0 rfl
        have f_0 := h6.free 0 rfl 0
        refine wpList_plainQ rfl (fun K Q' hK => ?_); go_simp
        clear c_0 f_0
        refine h6.k_set 0 rfl (fun w7 h7 => ?_)
        refine hK _ _ ?_; clear hK K; try clear Q'
        refine wpList_nil ?_
        show Code.wp _ _ _ _ _
        refine wp_region_lit ?_
        have c_0_0 := h7.cell 0 rfl 0 rfl
        iterate 1 (refine wpList_plainQ rfl (fun K Q' hK => ?_); go_simp; refine hK _ _ ?_; clear hK K; try clear Q')
        clear c_0_0
        -- stops at: eff:call (Go.Op.call {'callee': (Go.Callee.value (Go.Operand.func 27)), 'args': [(Go.Operand.tmp 32), (Go.Operand.const (Go.Value.pointer none))], 'argTypes': [26, 36]}) slot 33
        refine wpList_plainQ rfl (fun K Q' hK => ?_); go_simp
        refine (hmin_ok (m := none) h7.pre hszp hrB).mono ?_
        rintro e wC ⟨H4, rfl, hpC⟩
        have h8 := h7.call0 hpC
        refine hK _ _ ?_; clear hK K; try clear Q'
        iterate 3 (refine wpList_plainQ rfl (fun K Q' hK => ?_); go_simp; refine hK _ _ ?_; clear hK K; try clear Q')
        have c_0 := h8.cell 1 rfl 0 rfl
        have f_0 := h8.free 1 rfl 0
        have c_1 := h8.cell 1 rfl 1 rfl
        have f_1 := h8.free 1 rfl 1
        refine wpList_plainQ rfl (fun K Q' hK => ?_); go_simp
        clear c_0 f_0 c_1 f_1
        refine (h8.set (i := 1) rfl 0 _).k_set 1 rfl (fun w9 h9 => ?_)
        refine hK _ _ ?_; clear hK K; try clear Q'
        iterate 1 (refine wpList_plainQ rfl (fun K Q' hK => ?_); go_simp; refine hK _ _ ?_; clear hK K; try clear Q')
        refine wpList_nil ?_
        show Code.wp _ _ _ _ _
        refine wp_region_lit ?_
        iterate 3 (refine wpList_plainQ rfl (fun K Q' hK => ?_); go_simp; refine hK _ _ ?_; clear hK K; try clear Q')
        refine wpList_nil ?_
        -- stops at: end ('roundend',)
        show _ ∧ _
        go_roundw
        case rel =>
          have hdl : (dn ++ [x]).length = k + 1 := by rw [List.length_append, hk.out]; rfl
          refine ⟨Hp.pop t', r, H4, dn ++ [x], ?_, by omega, by rw [hdl]; simp, rfl, hszp, hrB.mono hpC.le, ?_⟩
          · show _ = _
            rw [hdl, ← hdn.out, hj, drainL_some j hm, show n - (k + 1) = j by omega, List.append_assoc]; rfl
          · rw [hdl, show (dn ++ [x]).flatMap elC = dn.flatMap elC ++ [.int .i64 x.1, .int .i64 x.2] by simp [List.flatMap_append, elC]]
            exact h9.take 2
        case measure => simp [intOf]; omega
    · obtain rfl : k = n := by omega
      refine wp_seq ?_
      refine wp_seq ?_
      refine wp_region_lit ?_
      iterate 4 (refine wpList_plainQ rfl (fun K Q' hK => ?_); go_simp; refine hK _ _ ?_; clear hK K; try clear Q')
      first | go_skip | (iterate 1 (refine wpList_stepQ (o := { dst := _, op := _, type := _, pos := _, after := _, guard := some (3, true) }) (fun K Q' hK => ?_); go_simp; refine hK _ _ ?_; clear hK K; try clear Q')) | skip
      iterate 1 (refine wpList_plainQ rfl (fun K Q' hK => ?_); go_simp; refine hK _ _ ?_; clear hK K; try clear Q')
      refine wpList_nil ?_
      show Code.wp _ _ _ _ _
      -- stops at: cond
      refine wp_cond_false (rfl) ?_
      refine wp_exit ?_
      show Code.wp _ _ _ _ _
      refine wp_seq ?_
      refine wp_region_lit ?_
      iterate 2 (refine wpList_plainQ rfl (fun K Q' hK => ?_); go_simp; refine hK _ _ ?_; clear hK K; try clear Q')
      refine wpList_nil ?_
      show Code.wp _ _ _ _ _
      -- stops at: ret
      obtain ⟨H9, h99, rS, leS⟩ := hs.settleRow 0 rfl
      refine wp_ret ?_
      go_ret
      refine ⟨_, H9, rfl, h99.post, ?_⟩
      rw [← hdn.out, (show drainL (k - k) t' = [] by rw [Nat.sub_self]; rfl), List.append_nil]
      unfold ElRep
      rw [hk.out]
      exact rS
end Go.Proofs.YtceamdacacacjaaDoor
