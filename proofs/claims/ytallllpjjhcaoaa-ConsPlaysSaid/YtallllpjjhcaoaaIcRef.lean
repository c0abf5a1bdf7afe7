/-
The references of layer 3: rows of numbers.
-/
import Derived.Test.YtallllpjjhcaoaaHcInt
namespace Go.Proofs.Ytallllpjjhcaoaa
open Go Go.RowKit
abbrev IntRep (H : GH) (v : Value) (xs : List Int) : Prop := SliceRep H 1 v xs.length (xs.map (Value.int .i64))

set_option maxRecDepth 100000 in
set_option maxHeartbeats 1000000 in
theorem same_ok (H : GH) (w : World) (v u : Value) (xs ys : List Int) (hn : xs.length < 1000000) (hn2 : ys.length < 1000000) (hf : Fits w H) (hr : IntRep H v xs) (hs : IntRep H u ys) :
    Calls Try.prog 9 #[v, u] w fun e w' => e = .returned (.bool (decide (xs = ys))) ∧ Keep none w w' := by
  have hpre : Pre w H none 0 0 := Pre.none hf 0 0
  obtain ⟨a, cap, rfl, hc1, hc2⟩ := hr.nil_or
  obtain ⟨b, cap2, rfl, hd1, hd2⟩ := hs.nil_or
  unfold maxLen at hc2 hd2
  by_cases hl : xs.length = ys.length
  · have hl2 : ((xs.length : Int) != (ys.length : Int)) = false := by simp [hl]
    have HL : Hid (xs.length = ys.length) := hl
    clear hl
    go_enter Try.func9, Try.ntmps9
    have h0 := St.start hpre
    refine wp_seq ?_
    refine wp_region_lit ?_
    iterate 1 (refine wpList_plain rfl (fun K hK => ?_); go_simp; refine hK _ _ ?_; clear hK K)
    refine wpList_nil ?_
    show Code.wp _ _ _ _ _
    refine wp_seq ?_
    refine wp_seq ?_
    refine wp_region_lit ?_
    iterate 5 (refine wpList_plain rfl (fun K hK => ?_); go_simp; refine hK _ _ ?_; clear hK K)
    refine wpList_nil ?_
    show Code.wp _ _ _ _ _
    -- stops at: cond
    refine wp_cond_false (rfl) ?_
    refine wp_skip ?_
    show Code.wp _ _ _ _ _
    refine wp_seq ?_
    refine wp_seq ?_
    refine wp_region_lit ?_
    iterate 1 (refine wpList_plain rfl (fun K hK => ?_); go_simp; refine hK _ _ ?_; clear hK K)
    refine wpList_nil ?_
    show Code.wp _ _ _ _ _
    refine wp_block ?_
    -- stops at: loop
    go_loopw [5] (fun v5 wr => ∃ k : Nat, k ≤ xs.length ∧ v5 = .int .i64 k ∧ Hid (xs.take k = ys.take k) ∧ St w H none 0 0 wr H [] []) (fun v5 _ => xs.length - (intOf v5).toNat)
    case atStart => exact ⟨0, by omega, rfl, by simp [Hid], h0⟩
    case round =>
      obtain ⟨k, hk, rfl, hx, hs1⟩ := hrel
      by_cases hlt : k < xs.length
      · have hlt2 : k < ys.length := by have := HL.out; omega
        obtain ⟨b1, o1, _, e1, _⟩ := hr.ne_nil (by omega)
        obtain ⟨b2, o2, _, e2, _⟩ := hs.ne_nil (by omega)
        simp only [Value.slice.injEq, true_and] at e1 e2
        obtain ⟨rfl, rfl⟩ := e1
        obtain ⟨rfl, rfl⟩ := e2
        have g1 : (xs.map (Value.int .i64))[k]? = some (.int .i64 xs[k]) := by simp [hlt]
        have g2 : (ys.map (Value.int .i64))[k]? = some (.int .i64 ys[k]) := by simp [hlt2]
        by_cases hxy : xs[k] = ys[k]
        · have hb : (xs[k] != ys[k]) = false := by simp [hxy]
          have HXY : Hid (xs[k] = ys[k]) := hxy
          have e1 : IntKind.i64.wrap ((k : Int) + 1) = (k : Int) + 1 := IntWalk.i64_in _ (by omega)
          clear hxy
          refine wp_seq ?_
          refine wp_seq ?_
          refine wp_region_lit ?_
          iterate 4 (refine wpList_plain rfl (fun K hK => ?_); go_simp; refine hK _ _ ?_; clear hK K)
          refine wpList_nil ?_
          show Code.wp _ _ _ _ _
          -- stops at: cond
          refine wp_cond_true (rfl) ?_
          refine wp_skip ?_
          show Code.wp _ _ _ _ _
          refine wp_seq ?_
          refine wp_block ?_
          refine wp_seq ?_
          refine hs1.region [] [(0, true), (1, true), (2, true), (3, true), (4, true), (5, true), (6, true), (7, true), (8, true)] (by kernel_rfl) (by kernel_rfl) (fun w1 h1 => ?_)
          simp only [ordOps, List.map_cons, List.map_nil, List.getD_cons_zero, List.getD_cons_succ]
          iterate 3 (refine wpOrd_quiet (v := ?_) rfl (fun _ _ _ h => h) ?_ ?_; rotate_left; (intro w' hS; (first | (go_simp; done) | (go_simp; with_reducible rfl))); simp only [Act.put, List.setIfInBounds_toArray, List.set_cons_zero, List.set_cons_succ])
          -- stops at: load (Go.Op.load 3 (Go.Operand.tmp 19)) slot 20
          iterate 1 (refine wpOrd_quiet (v := ?_) rfl (fun _ _ _ h => h) ?_ ?_; rotate_left; (intro w' hS; have ce := hr.cell hS.1 k g1; (first | (go_simp; done) | (go_simp; with_reducible rfl))); simp only [Act.put, List.setIfInBounds_toArray, List.set_cons_zero, List.set_cons_succ])
          iterate 3 (refine wpOrd_quiet (v := ?_) rfl (fun _ _ _ h => h) ?_ ?_; rotate_left; (intro w' hS; (first | (go_simp; done) | (go_simp; with_reducible rfl))); simp only [Act.put, List.setIfInBounds_toArray, List.set_cons_zero, List.set_cons_succ])
          -- stops at: load (Go.Op.load 3 (Go.Operand.tmp 23)) slot 24
          iterate 1 (refine wpOrd_quiet (v := ?_) rfl (fun _ _ _ h => h) ?_ ?_; rotate_left; (intro w' hS; have ce := hs.cell hS.1 k g2; (first | (go_simp; done) | (go_simp; with_reducible rfl))); simp only [Act.put, List.setIfInBounds_toArray, List.set_cons_zero, List.set_cons_succ])
          iterate 1 (refine wpOrd_quiet (v := ?_) rfl (fun _ _ _ h => h) ?_ ?_; rotate_left; (intro w' hS; (first | (go_simp; done) | (go_simp; with_reducible rfl))); simp only [Act.put, List.setIfInBounds_toArray, List.set_cons_zero, List.set_cons_succ])
          refine wpOrd_nil ?_
          show Code.wp _ _ _ _ _
          -- stops at: cond
          refine wp_cond_false (rfl) ?_
          refine wp_skip ?_
          show Code.wp _ _ _ _ _
          refine wp_region_lit ?_
          iterate 3 (refine wpList_plain rfl (fun K hK => ?_); go_simp; refine hK _ _ ?_; clear hK K)
          refine wpList_nil ?_
          -- stops at: end ('roundend',)
          show _ ∧ _
          go_roundw
          case rel =>
            refine ⟨k + 1, by omega, by simp, ?_, h1⟩
            show xs.take (k + 1) = ys.take (k + 1)
            rw [List.take_add_one, List.take_add_one, hx.out, List.getElem?_eq_getElem hlt, List.getElem?_eq_getElem hlt2, HXY.out]
          case measure => simp [intOf]; omega
        · have hb : (xs[k] != ys[k]) = true := by simp [hxy]
          have HXY : Hid (¬ xs[k] = ys[k]) := hxy
          clear hxy
          refine wp_seq ?_
          refine wp_seq ?_
          refine wp_region_lit ?_
          iterate 4 (refine wpList_plain rfl (fun K hK => ?_); go_simp; refine hK _ _ ?_; clear hK K)
          refine wpList_nil ?_
          show Code.wp _ _ _ _ _
          -- stops at: cond
          refine wp_cond_true (rfl) ?_
          refine wp_skip ?_
          show Code.wp _ _ _ _ _
          refine wp_seq ?_
          refine wp_block ?_
          refine wp_seq ?_
          refine hs1.region [] [(0, true), (1, true), (2, true), (3, true), (4, true), (5, true), (6, true), (7, true), (8, true)] (by kernel_rfl) (by kernel_rfl) (fun w2 h2 => ?_)
          simp only [ordOps, List.map_cons, List.map_nil, List.getD_cons_zero, List.getD_cons_succ]
          iterate 3 (refine wpOrd_quiet (v := ?_) rfl (fun _ _ _ h => h) ?_ ?_; rotate_left; (intro w' hS; (first | (go_simp; done) | (go_simp; with_reducible rfl))); simp only [Act.put, List.setIfInBounds_toArray, List.set_cons_zero, List.set_cons_succ])
          -- stops at: load (Go.Op.load 3 (Go.Operand.tmp 19)) slot 20
          iterate 1 (refine wpOrd_quiet (v := ?_) rfl (fun _ _ _ h => h) ?_ ?_; rotate_left; (intro w' hS; have ce := hr.cell hS.1 k g1; (first | (go_simp; done) | (go_simp; with_reducible rfl))); simp only [Act.put, List.setIfInBounds_toArray, List.set_cons_zero, List.set_cons_succ])
          iterate 3 (refine wpOrd_quiet (v := ?_) rfl (fun _ _ _ h => h) ?_ ?_; rotate_left; (intro w' hS; (first | (go_simp; done) | (go_simp; with_reducible rfl))); simp only [Act.put, List.setIfInBounds_toArray, List.set_cons_zero, List.set_cons_succ])
          -- stops at: load (Go.Op.load 3 (Go.Operand.tmp 23)) slot 24
          iterate 1 (refine wpOrd_quiet (v := ?_) rfl (fun _ _ _ h => h) ?_ ?_; rotate_left; (intro w' hS; have ce := hs.cell hS.1 k g2; (first | (go_simp; done) | (go_simp; with_reducible rfl))); simp only [Act.put, List.setIfInBounds_toArray, List.set_cons_zero, List.set_cons_succ])
          iterate 1 (refine wpOrd_quiet (v := ?_) rfl (fun _ _ _ h => h) ?_ ?_; rotate_left; (intro w' hS; (first | (go_simp; done) | (go_simp; with_reducible rfl))); simp only [Act.put, List.setIfInBounds_toArray, List.set_cons_zero, List.set_cons_succ])
          refine wpOrd_nil ?_
          show Code.wp _ _ _ _ _
          -- stops at: cond
          refine wp_cond_true (rfl) ?_
          refine wp_seq ?_
          refine wp_region_lit ?_
          iterate 1 (refine wpList_plain rfl (fun K hK => ?_); go_simp; refine hK _ _ ?_; clear hK K)
          refine wpList_nil ?_
          show Code.wp _ _ _ _ _
          -- stops at: ret
          refine wp_ret ?_
          go_ret
          refine ⟨?_, h2.post.keep⟩
          rw [show decide (xs = ys) = false from decide_eq_false (fun e => HXY.out (by simp [e]))]
          rfl
      · obtain rfl : k = xs.length := by omega
        refine wp_seq ?_
        refine wp_seq ?_
        refine wp_region_lit ?_
        iterate 4 (refine wpList_plain rfl (fun K hK => ?_); go_simp; refine hK _ _ ?_; clear hK K)
        refine wpList_nil ?_
        show Code.wp _ _ _ _ _
        -- stops at: cond
        refine wp_cond_false (rfl) ?_
        refine wp_exit ?_
        show Code.wp _ _ _ _ _
        refine wp_seq ?_
        refine wp_region_lit ?_
        iterate 1 (refine wpList_plain rfl (fun K hK => ?_); go_simp; refine hK _ _ ?_; clear hK K)
        refine wpList_nil ?_
        show Code.wp _ _ _ _ _
        -- stops at: ret
        refine wp_ret ?_
        go_ret
        refine ⟨?_, hs1.post.keep⟩
        rw [show decide (xs = ys) = true from decide_eq_true (by have := hx.out; rw [List.take_length, HL.out, List.take_length] at this; exact this)]
        rfl
  · have hl2 : ((xs.length : Int) != (ys.length : Int)) = true := by simp; omega
    have HL : Hid (¬ xs.length = ys.length) := hl
    clear hl
    go_enter Try.func9, Try.ntmps9
    have h0 := St.start hpre
    refine wp_seq ?_
    refine wp_region_lit ?_
    iterate 1 (refine wpList_plain rfl (fun K hK => ?_); go_simp; refine hK _ _ ?_; clear hK K)
    refine wpList_nil ?_
    show Code.wp _ _ _ _ _
    refine wp_seq ?_
    refine wp_seq ?_
    refine wp_region_lit ?_
    iterate 5 (refine wpList_plain rfl (fun K hK => ?_); go_simp; refine hK _ _ ?_; clear hK K)
    refine wpList_nil ?_
    show Code.wp _ _ _ _ _
    -- stops at: cond
    refine wp_cond_true (rfl) ?_
    refine wp_seq ?_
    refine wp_region_lit ?_
    iterate 1 (refine wpList_plain rfl (fun K hK => ?_); go_simp; refine hK _ _ ?_; clear hK K)
    refine wpList_nil ?_
    show Code.wp _ _ _ _ _
    -- stops at: ret
    refine wp_ret ?_
    go_ret
    refine ⟨?_, h0.post.keep⟩
    rw [show decide (xs = ys) = false from decide_eq_false (fun e => HL.out (by rw [e]))]
    rfl
end Go.Proofs.Ytallllpjjhcaoaa
