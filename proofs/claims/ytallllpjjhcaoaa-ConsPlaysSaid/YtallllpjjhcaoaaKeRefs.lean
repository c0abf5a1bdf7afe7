/-
The references of layer 3: the rows that they make.
-/
import Derived.Test.YtallllpjjhcaoaaIcRef
import Derived.Test.YtallllpjjhcaoaaKbRow
namespace Go.Proofs.Ytallllpjjhcaoaa
open Go Go.RowKit

set_option maxRecDepth 100000 in
set_option maxHeartbeats 1000000 in
theorem rpush_ok (H : GH) (w : World) (v : Value) (xs : List Int) (x : Int) (hn : xs.length < 1000000) (hf : Fits w H) (hr : IntRep H v xs) :
    Calls Try.prog 15 #[v, .int .i64 x] w fun e w' => ∃ v', e = .returned v' ∧ St w H none 0 0 w' H [] [⟨v', 3, 1, xs.length + 1, (x :: xs).map (Value.int .i64)⟩] := by
  have hpre : Pre w H none 0 0 := Pre.none hf 0 0
  go_enter Try.func15, Try.ntmps15
  have h0 := St.start hpre
  refine wp_seq ?_
  refine wp_region_lit ?_
  iterate 1 (refine wpList_plain rfl (fun K hK => ?_); go_simp; refine hK _ _ ?_; clear hK K)
  refine wpList_nil ?_
  show Code.wp _ _ _ _ _
  refine wp_seq ?_
  refine wp_region_lit ?_
  iterate 1 (refine wpList_plain rfl (fun K hK => ?_); go_simp; refine hK _ _ ?_; clear hK K)
  refine wpList_plain rfl (fun K hK => ?_); go_simp
  refine h0.k_alloc (fun w1 h1 => ?_)
  refine hK _ _ ?_; clear hK K
  iterate 1 (refine wpList_plain rfl (fun K hK => ?_); go_simp; refine hK _ _ ?_; clear hK K)
  refine wpList_nil ?_
  show Code.wp _ _ _ _ _
  refine wp_seq ?_
  refine wp_region_lit ?_
  iterate 2 (refine wpList_plain rfl (fun K hK => ?_); go_simp; refine hK _ _ ?_; clear hK K)
  -- stops at: eff:Builtin.append (Go.Op.call {'callee': (Go.Callee.builtin Go.Builtin.append), 'args': [(Go.Operand.tmp 8), (Go.Operand.tmp 9)], 'argTypes': [22, 22]}) slot 10
  refine wpList_plain rfl (fun K hK => ?_)
  have hA := h1.rowOf 0 rfl 1 1 rfl (by unfold maxLen; omega)
  refine hA.op_append_rep 0 rfl rfl CInt.einfo rfl (xs.map (Value.int .i64)) rfl hr (by simp [Value.oneCell']) (by omega) (by unfold maxLen; omega) (fun v' wB hB => ?_)
  refine hK _ _ ?_; clear hK K
  iterate 1 (refine wpList_plain rfl (fun K hK => ?_); go_simp; refine hK _ _ ?_; clear hK K)
  refine wpList_nil ?_
  show Code.wp _ _ _ _ _
  -- stops at: ret
  refine wp_ret ?_
  go_ret
  exact ⟨_, rfl, by rw [show xs.length + 1 = 1 + xs.length by omega]; exact hB⟩

set_option maxRecDepth 100000 in
set_option maxHeartbeats 1000000 in
theorem rjoin_ok (H : GH) (w : World) (v u : Value) (xs ys : List Int) (hn : xs.length + ys.length < 1000000) (hf : Fits w H) (hr : IntRep H v xs) (hs : IntRep H u ys) :
    Calls Try.prog 20 #[v, u] w fun e w' => ∃ v', e = .returned v' ∧ St w H none 0 0 w' H [] [⟨v', 3, 1, xs.length + ys.length, (xs ++ ys).map (Value.int .i64)⟩] := by
  have hpre : Pre w H none 0 0 := Pre.none hf 0 0
  go_enter Try.func20, Try.ntmps20
  have h0 := St.start hpre
  refine wp_seq ?_
  refine wp_region_lit ?_
  iterate 1 (refine wpList_plain rfl (fun K hK => ?_); go_simp; refine hK _ _ ?_; clear hK K)
  refine wpList_nil ?_
  show Code.wp _ _ _ _ _
  refine wp_seq ?_
  refine wp_region_lit ?_
  iterate 1 (refine wpList_plain rfl (fun K hK => ?_); go_simp; refine hK _ _ ?_; clear hK K)
  refine wpList_nil ?_
  show Code.wp _ _ _ _ _
  refine wp_seq ?_
  refine wp_region_lit ?_
  iterate 2 (refine wpList_plain rfl (fun K hK => ?_); go_simp; refine hK _ _ ?_; clear hK K)
  -- stops at: eff:Builtin.append (Go.Op.call {'callee': (Go.Callee.builtin Go.Builtin.append), 'args': [(Go.Operand.tmp 6), (Go.Operand.tmp 7)], 'argTypes': [22, 22]}) slot 8
  refine wpList_plain rfl (fun K hK => ?_)
  have hA := h0.row0 3 1
  refine hA.op_append_rep 0 rfl rfl CInt.einfo rfl (xs.map (Value.int .i64)) rfl hr (by simp [Value.oneCell']) (by omega) (by unfold maxLen; omega) (fun v' wB hB => ?_)
  refine hK _ _ ?_; clear hK K
  iterate 1 (refine wpList_plain rfl (fun K hK => ?_); go_simp; refine hK _ _ ?_; clear hK K)
  refine wpList_nil ?_
  show Code.wp _ _ _ _ _
  refine wp_seq ?_
  refine wp_region_lit ?_
  iterate 2 (refine wpList_plain rfl (fun K hK => ?_); go_simp; refine hK _ _ ?_; clear hK K)
  -- stops at: eff:Builtin.append (Go.Op.call {'callee': (Go.Callee.builtin Go.Builtin.append), 'args': [(Go.Operand.tmp 9), (Go.Operand.tmp 10)], 'argTypes': [22, 22]}) slot 11
  refine wpList_plain rfl (fun K hK => ?_)
  refine hB.op_append_rep 0 rfl rfl CInt.einfo rfl (ys.map (Value.int .i64)) rfl hs (by simp [Value.oneCell']) (by omega) (by unfold maxLen; omega) (fun v' wC hC => ?_)
  refine hK _ _ ?_; clear hK K
  iterate 1 (refine wpList_plain rfl (fun K hK => ?_); go_simp; refine hK _ _ ?_; clear hK K)
  refine wpList_nil ?_
  show Code.wp _ _ _ _ _
  -- stops at: ret
  refine wp_ret ?_
  go_ret
  refine ⟨_, rfl, ?_⟩
  have := hC
  simp only [List.nil_append, ← List.map_append, Nat.zero_add] at this
  exact this

set_option maxRecDepth 100000 in
set_option maxHeartbeats 1000000 in
theorem rrest_ok (H : GH) (w : World) (v : Value) (xs : List Int) (hf : Fits w H) (hr : IntRep H v xs) :
    Calls Try.prog 16 #[v] w fun e w' => ∃ v', e = .returned v' ∧ Keep none w w' ∧ IntRep H v' xs.tail := by
  have hpre : Pre w H none 0 0 := Pre.none hf 0 0
  obtain ⟨a, cap, rfl, hc1, hc2⟩ := hr.nil_or
  unfold maxLen at hc2
  by_cases hl : xs.length = 0
  · obtain rfl : xs = [] := List.eq_nil_of_length_eq_zero hl
    go_enter Try.func16, Try.ntmps16
    have h0 := St.start hpre
    refine wp_seq ?_
    refine wp_region_lit ?_
    iterate 1 (refine wpList_plain rfl (fun K hK => ?_); go_simp; refine hK _ _ ?_; clear hK K)
    refine wpList_nil ?_
    show Code.wp _ _ _ _ _
    refine wp_seq ?_
    refine wp_seq ?_
    refine wp_region_lit ?_
    iterate 3 (refine wpList_plain rfl (fun K hK => ?_); go_simp; refine hK _ _ ?_; clear hK K)
    refine wpList_nil ?_
    show Code.wp _ _ _ _ _
    -- stops at: cond
    refine wp_cond_true (rfl) ?_
    refine wp_seq ?_
    refine wp_region_lit ?_
    iterate 2 (refine wpList_plain rfl (fun K hK => ?_); go_simp; refine hK _ _ ?_; clear hK K)
    refine wpList_nil ?_
    show Code.wp _ _ _ _ _
    -- stops at: ret
    refine wp_ret ?_
    go_ret
    exact ⟨_, rfl, h0.post.keep, hr⟩
  · obtain ⟨vS, hvS, hrS⟩ : ∃ vS, (Value.slice (if cap = 1 then a else Option.map (fun x => x.add 1) a) (xs.length - 1) (cap - 1)) = vS ∧ IntRep H vS xs.tail := by
      refine ⟨_, rfl, ?_⟩
      have := hr.from 1 (by omega)
      simp only [Nat.mul_one, ← List.map_drop] at this
      unfold IntRep
      rw [List.length_tail, ← List.drop_one]
      exact this
    have t1 : ((xs.length : Int) == 0) = false := beq_eq_false_iff_ne.2 (by omega)
    simp [Addr.add] at hvS
    have hl1 : (1 : Int) ≤ (xs.length : Int) := by omega
    go_enter Try.func16, Try.ntmps16
    have h0 := St.start hpre
    refine wp_seq ?_
    refine wp_region_lit ?_
    iterate 1 (refine wpList_plain rfl (fun K hK => ?_); go_simp; refine hK _ _ ?_; clear hK K)
    refine wpList_nil ?_
    show Code.wp _ _ _ _ _
    refine wp_seq ?_
    refine wp_seq ?_
    refine wp_region_lit ?_
    iterate 3 (refine wpList_plain rfl (fun K hK => ?_); go_simp; refine hK _ _ ?_; clear hK K)
    refine wpList_nil ?_
    show Code.wp _ _ _ _ _
    -- stops at: cond
    refine wp_cond_false (rfl) ?_
    refine wp_skip ?_
    show Code.wp _ _ _ _ _
    refine wp_seq ?_
    refine wp_region_lit ?_
    iterate 3 (refine wpList_plain rfl (fun K hK => ?_); go_simp; refine hK _ _ ?_; clear hK K)
    refine wpList_nil ?_
    show Code.wp _ _ _ _ _
    -- stops at: ret
    refine wp_ret ?_
    go_ret
    exact ⟨_, rfl, h0.post.keep, hrS⟩

set_option maxRecDepth 100000 in
set_option maxHeartbeats 1000000 in
theorem rdrop_ok (H : GH) (w : World) (v : Value) (xs : List Int) (n : Int) (hf : Fits w H) (hr : IntRep H v xs) :
    Calls Try.prog 21 #[v, .int .i64 n] w fun e w' => ∃ v', e = .returned v' ∧ Keep none w w' ∧ IntRep H v' (xs.drop n.toNat) := by
  have hpre : Pre w H none 0 0 := Pre.none hf 0 0
  obtain ⟨a, cap, rfl, hc1, hc2⟩ := hr.nil_or
  unfold maxLen at hc2
  by_cases hl : n < 0
  · have t1 : decide (n < 0) = true := by simp [hl]
    go_enter Try.func21, Try.ntmps21
    have h0 := St.start hpre
    refine wp_seq ?_
    refine wp_region_lit ?_
    iterate 1 (refine wpList_plain rfl (fun K hK => ?_); go_simp; refine hK _ _ ?_; clear hK K)
    refine wpList_nil ?_
    show Code.wp _ _ _ _ _
    refine wp_seq ?_
    refine wp_seq ?_
    refine wp_region_lit ?_
    iterate 2 (refine wpList_plain rfl (fun K hK => ?_); go_simp; refine hK _ _ ?_; clear hK K)
    refine wpList_nil ?_
    show Code.wp _ _ _ _ _
    -- stops at: cond
    refine wp_cond_true (rfl) ?_
    refine wp_seq ?_
    refine wp_region_lit ?_
    iterate 2 (refine wpList_plain rfl (fun K hK => ?_); go_simp; refine hK _ _ ?_; clear hK K)
    refine wpList_nil ?_
    show Code.wp _ _ _ _ _
    -- stops at: ret
    refine wp_ret ?_
    go_ret
    exact ⟨_, rfl, h0.post.keep, by rw [show n.toNat = 0 by omega]; exact hr⟩
  · obtain ⟨k, rfl⟩ : ∃ k : Nat, n = (k : Int) := ⟨n.toNat, by omega⟩
    obtain ⟨j, hj, hjl, hjm⟩ : ∃ j : Nat, (if xs.length < k then (xs.length : Int) else (k : Int)) = (j : Int) ∧ j ≤ xs.length ∧ Hid (xs.drop k = xs.drop j) := by
      by_cases hm : xs.length < k
      · exact ⟨xs.length, by rw [if_pos (by omega)], by omega, by show _ = _; rw [List.drop_length, List.drop_eq_nil_of_le (by omega)]⟩
      · exact ⟨k, by rw [if_neg (by omega)], by omega, rfl⟩
    obtain ⟨vS, hvS, hrS⟩ : ∃ vS, (Value.slice (if cap = j then a else Option.map (fun x => x.add j) a) (xs.length - j) (cap - j)) = vS ∧ IntRep H vS (xs.drop j) := by
      refine ⟨_, rfl, ?_⟩
      have := hr.from j hjl
      simp only [Nat.mul_one, ← List.map_drop] at this
      unfold IntRep
      rw [List.length_drop]
      exact this
    go_enter Try.func21, Try.ntmps21
    have h0 := St.start hpre
    refine wp_seq ?_
    refine wp_region_lit ?_
    iterate 1 (refine wpList_plain rfl (fun K hK => ?_); go_simp; refine hK _ _ ?_; clear hK K)
    refine wpList_nil ?_
    show Code.wp _ _ _ _ _
    refine wp_seq ?_
    refine wp_seq ?_
    refine wp_region_lit ?_
    iterate 2 (refine wpList_plain rfl (fun K hK => ?_); go_simp; refine hK _ _ ?_; clear hK K)
    refine wpList_nil ?_
    show Code.wp _ _ _ _ _
    -- stops at: cond
    refine wp_cond_false (rfl) ?_
    refine wp_skip ?_
    show Code.wp _ _ _ _ _
    refine wp_seq ?_
    refine wp_region_lit ?_
    iterate 7 (refine wpList_plain rfl (fun K hK => ?_); go_simp; refine hK _ _ ?_; clear hK K)
    refine wpList_nil ?_
    show Code.wp _ _ _ _ _
    -- stops at: ret
    refine wp_ret ?_
    go_ret
    exact ⟨_, rfl, h0.post.keep, by rw [Int.toNat_natCast, hjm.out]; exact hrS⟩

set_option maxRecDepth 100000 in
set_option maxHeartbeats 1000000 in
theorem rrev_ok (H : GH) (w : World) (v : Value) (xs : List Int) (hn : xs.length < 1000000) (hf : Fits w H) (hr : IntRep H v xs) :
    Calls Try.prog 18 #[v] w fun e w' => ∃ v', e = .returned v' ∧ St w H none 0 0 w' H [] [⟨v', 3, 1, xs.length, xs.reverse.map (Value.int .i64)⟩] := by
  have hpre : Pre w H none 0 0 := Pre.none hf 0 0
  obtain ⟨a, cap, rfl, hc1, hc2⟩ := hr.nil_or
  unfold maxLen at hc2
  have e0 : IntKind.i64.wrap (↑xs.length - 1) = (xs.length : Int) - 1 := IntWalk.i64_in _ (by omega)
  go_enter Try.func18, Try.ntmps18
  have h0 := St.start hpre
  refine wp_seq ?_
  refine wp_region_lit ?_
  iterate 1 (refine wpList_plain rfl (fun K hK => ?_); go_simp; refine hK _ _ ?_; clear hK K)
  refine wpList_nil ?_
  show Code.wp _ _ _ _ _
  refine wp_seq ?_
  refine wp_region_lit ?_
  iterate 1 (refine wpList_plain rfl (fun K hK => ?_); go_simp; refine hK _ _ ?_; clear hK K)
  refine wpList_nil ?_
  show Code.wp _ _ _ _ _
  refine wp_seq ?_
  refine wp_seq ?_
  refine wp_region_lit ?_
  iterate 4 (refine wpList_plain rfl (fun K hK => ?_); go_simp; refine hK _ _ ?_; clear hK K)
  refine wpList_nil ?_
  show Code.wp _ _ _ _ _
  refine wp_block ?_
  -- stops at: loop
  go_loopw [3, 4] (fun v3 v4 wr => ∃ (k : Nat), k ≤ xs.length ∧ v4 = .int .i64 ((k : Int) - 1) ∧ St w H none 0 0 wr H [] [⟨v3, 3, 1, xs.length - k, (xs.drop k).reverse.map (Value.int .i64)⟩]) (fun _ v4 _ => (intOf v4 + 1).toNat)
  case atStart => exact ⟨xs.length, by omega, rfl, by simpa using h0.row0 3 1⟩
  case round =>
    obtain ⟨k, hk1, rfl, hs⟩ := hrel
    by_cases hk : 0 < k
    · obtain ⟨b, off, cap2, ee, _⟩ := hr.ne_nil (by omega)
      simp only [Value.slice.injEq, true_and] at ee
      obtain ⟨rfl, rfl⟩ := ee
      obtain ⟨j, rfl⟩ : ∃ j, k = j + 1 := ⟨k - 1, by omega⟩
      rw [show ((j + 1 : Nat) : Int) - 1 = (j : Int) by omega] at *
      have hj : j < xs.length := by omega
      have e1 : IntKind.i64.wrap ((j : Int) - 1) = (j : Int) - 1 := IntWalk.i64_in _ (by omega)
      have hx : (xs.map (Value.int .i64))[j]? = some (.int .i64 xs[j]) := by simp [hj]
      have ht : decide ((0 : Int) ≤ (j : Int)) = true := by simp
      refine wp_seq ?_
      refine wp_seq ?_
      refine wp_region_lit ?_
      iterate 2 (refine wpList_plain rfl (fun K hK => ?_); go_simp; refine hK _ _ ?_; clear hK K)
      refine wpList_nil ?_
      show Code.wp _ _ _ _ _
      -- stops at: cond
      refine wp_cond_true (rfl) ?_
      refine wp_skip ?_
      show Code.wp _ _ _ _ _
      refine wp_seq ?_
      refine wp_block ?_
      refine wp_region_lit ?_
      iterate 4 (refine wpList_plain rfl (fun K hK => ?_); go_simp; refine hK _ _ ?_; clear hK K)
      -- stops at: load (Go.Op.load 3 (Go.Operand.tmp 15)) slot 16
      have ce := hr.cell hs.fits j hx
      iterate 1 (refine wpList_plain rfl (fun K hK => ?_); go_simp; refine hK _ _ ?_; clear hK K)
      refine wpList_plain rfl (fun K hK => ?_); go_simp
      refine hs.k_alloc (fun w1 h1 => ?_)
      refine hK _ _ ?_; clear hK K
      -- stops at: eff:Builtin.append (Go.Op.call {'callee': (Go.Callee.builtin Go.Builtin.append), 'args': [(Go.Operand.tmp 12), (Go.Operand.tmp 17)], 'argTypes': [22, 22]}) slot 18
      refine wpList_plain rfl (fun K hK => ?_)
      refine h1.op_append 0 rfl rfl CInt.einfo rfl [Value.int .i64 xs[j]] rfl rfl (fun j u hj => ?_) (by simp [Value.oneCell']) (by omega) (by unfold maxLen; omega) (fun v' wB hB oB hnB => ?_)
      · match j, hj with
        | 0, hj => exact h1.cell 0 rfl 0 hj
      refine hK _ _ ?_; clear hK K
      iterate 1 (refine wpList_plain rfl (fun K hK => ?_); go_simp; refine hK _ _ ?_; clear hK K)
      refine wpList_nil ?_
      show Code.wp _ _ _ _ _
      refine wp_region_lit ?_
      iterate 3 (refine wpList_plain rfl (fun K hK => ?_); go_simp; refine hK _ _ ?_; clear hK K)
      refine wpList_nil ?_
      -- stops at: end ('roundend',)
      show _ ∧ _
      go_roundw
      case rel =>
        refine ⟨j, by omega, by simp, ?_⟩
        have e3 : (xs.drop j) = xs[j] :: (xs.drop (j + 1)) := List.drop_eq_getElem_cons hj
        rw [e3, List.reverse_cons, List.map_append, show xs.length - j = xs.length - (j + 1) + 1 by omega]
        exact hB.take 0
      case measure => simp [intOf]
    · obtain rfl : k = 0 := by omega
      refine wp_seq ?_
      refine wp_seq ?_
      refine wp_region_lit ?_
      iterate 2 (refine wpList_plain rfl (fun K hK => ?_); go_simp; refine hK _ _ ?_; clear hK K)
      refine wpList_nil ?_
      show Code.wp _ _ _ _ _
      -- stops at: cond
      refine wp_cond_false (rfl) ?_
      refine wp_exit ?_
      show Code.wp _ _ _ _ _
      refine wp_seq ?_
      refine wp_region_lit ?_
      iterate 2 (refine wpList_plain rfl (fun K hK => ?_); go_simp; refine hK _ _ ?_; clear hK K)
      refine wpList_nil ?_
      show Code.wp _ _ _ _ _
      -- stops at: ret
      refine wp_ret ?_
      go_ret
      exact ⟨_, rfl, by simpa using hs⟩
end Go.Proofs.Ytallllpjjhcaoaa
