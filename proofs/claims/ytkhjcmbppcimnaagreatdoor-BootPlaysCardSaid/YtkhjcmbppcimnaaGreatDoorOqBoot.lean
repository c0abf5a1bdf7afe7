/-
Heaps whose others are heaps: how many things there are (begun: the iterator itself, the count).
-/
import Derived.Test.YtkhjcmbppcimnaaGreatDoorOoBoot
import Derived.Test.YtkhjcmbppcimnaaGreatDoorOlSkew
import Derived.Test.YtkhjcmbppcimnaaGreatDoorNhRange
import Derived.Test.YtkhjcmbppcimnaaGreatDoorRows
namespace Go.Proofs.YtkhjcmbppcimnaaGreatDoor
open Go Go.RowKit
set_option linter.unusedVariables false

set_option maxRecDepth 100000 in
set_option maxHeartbeats 400000 in
theorem beach_ok (H : GH) (w : World) (p : Option Addr) (hf : Fits w H) :
    Calls Tryz.prog 40 #[.agg #[.pointer p]] w fun e w' => ∃ b, e = .returned (.func (.func 72) #[] #[.pointer (some ⟨b, 0, none⟩)]) ∧ Keep none w w' ∧ w.heap.size ≤ b ∧ w'.heap[b]? = some (.cells #[.pointer p] 29) := by
  have hpre : Pre w H none 0 0 := Pre.none hf 0 0
  go_enter Tryz.func40, Tryz.ntmps40
  have h0 := St.start hpre
  refine wp_seq ?_
  refine wp_region_lit ?_
  refine wpList_plainQ rfl (fun K Q' hK => ?_); go_simp
  refine h0.k_alloc (fun w1 h1 => ?_)
  refine hK _ _ ?_; clear hK K; try clear Q'
  iterate 1 (refine wpList_plainQ rfl (fun K Q' hK => ?_); go_simp; refine hK _ _ ?_; clear hK K; try clear Q')
  refine wpList_nil ?_
  show Code.wp _ _ _ _ _
  refine wp_seq ?_
  refine wp_region_lit ?_
  iterate 2 (refine wpList_plainQ rfl (fun K Q' hK => ?_); go_simp; refine hK _ _ ?_; clear hK K; try clear Q')
  refine wpList_nil ?_
  show Code.wp _ _ _ _ _
  -- stops at: ret
  refine wp_ret ?_
  go_ret
  exact ⟨_, rfl, h1.post.keep, Nat.le_refl _, h1.at (i := 0) rfl⟩

set_option maxRecDepth 100000 in
set_option maxHeartbeats 400000 in
theorem bcount_ok (w : World) (bc : Nat) (k : Int) (hb : w.heap[bc]? = some (.cells #[.int .i64 k] 3)) (hk : IntKind.i64.wrap (k + 1) = k + 1) :
    Calls Tryz.prog 39 #[.pointer (some ⟨bc, 0, none⟩)] w fun e w' => (∃ v, e = .returned v) ∧ w' = w.setCell ⟨bc, 0, none⟩ (.int .i64 (k + 1)) := by
  have c0 : w.cell? ⟨bc, 0, none⟩ = some (.int .i64 k) := by rw [blk_cell hb]; rfl
  have f0 := blk_free hb 0
  have hpre : Pre w (fun _ => none) none 0 0 := Pre.none (fun _ _ e => by cases e) 0 0
  go_enter Tryz.func39, Tryz.ntmps39
  have h0 := St.start hpre
  refine wp_region_lit ?_
  iterate 2 (refine wpList_plainQ rfl (fun K Q' hK => ?_); go_simp; refine hK _ _ ?_; clear hK K; try clear Q')
  -- stops at: store (Go.Op.store 3 (Go.Operand.tmp 0) (Go.Operand.tmp 2)) slot None
  refine wpList_plainQ rfl (fun K Q' hK => ?_); go_simp; refine hK _ _ ?_; clear hK K; try clear Q'
  refine wpList_nil ?_
  go_end0
  exact ⟨⟨_, rfl⟩, rfl⟩

theorem cellsOne {w : World} {b : Nat} {c : Array Value} {T : TypeId} {v : Value} (hb : w.heap[b]? = some (.cells c T)) (h0 : c[0]? = some v) : w.cell? ⟨b, 0, none⟩ = some v := by rw [blk_cell hb]; exact h0

set_option maxRecDepth 100000 in
set_option maxHeartbeats 1000000 in
theorem beach1_none (n : Nat) (l Bn : Nat) (H : GH) (J : Nat → World → Prop) (w : World)
    (hJ : ∀ k A A', J k A → SameBelow w.heap.size A A' → J k A') (hf : Fits w H) (hBn : w.cell? ⟨Bn, 0, none⟩ = some (.pointer none)) (hJ0 : J 0 w) :
    CallsIn Fence.wide n Tryz.prog 72 #[.func (.yield l) #[] #[], .pointer (some ⟨Bn, 0, none⟩)] w fun e W' => (∃ v, e = .returned v) ∧ J 0 W' := by
  have hpre : Pre w H none 0 0 := Pre.none hf 0 0
  refine callsIn_wide.2 ?_
  go_enter Tryz.func72, Tryz.ntmps72
  have h0 := St.start hpre
  refine wp_seq ?_
  refine wp_region_lit ?_
  iterate 1 (refine wpList_plainQ rfl (fun K Q' hK => ?_); go_simp; refine hK _ _ ?_; clear hK K; try clear Q')
  refine wpList_plainQ rfl (fun K Q' hK => ?_); go_simp
  refine h0.k_alloc (fun w1 h1 => ?_)
  refine hK _ _ ?_; clear hK K; try clear Q'
  iterate 1 (refine wpList_plainQ rfl (fun K Q' hK => ?_); go_simp; refine hK _ _ ?_; clear hK K; try clear Q')
  refine wpList_nil ?_
  show Code.wp _ _ _ _ _
  refine wp_block ?_
  -- stops at: loop
  have hR := h1.rowOf 0 rfl 1 1 rfl (by unfold maxLen; omega)
  go_loopw [3] (fun v3 wr => ∃ z : Nat, z ≤ 1 ∧ J 0 wr ∧ St w H none 0 0 wr H [] [⟨v3, 29, 1, z, List.replicate z (.pointer none)⟩]) (fun v3 _ => lenOf v3)
  case atStart => exact ⟨1, Nat.le_refl _, hJ _ _ _ hJ0 (h0.same hR), hR⟩
  case round =>
    obtain ⟨z, hz, hJk, hs⟩ := hrel
    obtain ⟨a3, c3, rfl⟩ := hs.row_form 0 rfl
    match z, hz with
    | 0, _ =>
      refine wp_seq ?_
      refine wp_seq ?_
      refine wp_region_lit ?_
      iterate 3 (refine wpList_plainQ rfl (fun K Q' hK => ?_); go_simp; refine hK _ _ ?_; clear hK K; try clear Q')
      refine wpList_nil ?_
      show Code.wp _ _ _ _ _
      -- stops at: cond
      refine wp_cond_false (rfl) ?_
      refine wp_exit ?_
      -- stops at: bodyend
      simp only [Exit.inBlock, Exit.then, if_true]
      refine bodyPost_end (results_none rfl _ _ _) rfl ?_
      exact ⟨⟨_, rfl⟩, hJk⟩
    | 1, _ =>
      obtain ⟨g, cap, ee⟩ := hs.row_some 0 rfl (by omega)
      simp only [Value.slice.injEq, true_and] at ee
      obtain ⟨rfl, rfl⟩ := ee
      have hcap := hs.rowCap 0 rfl
      have e0 : IntKind.i64.wrap 0 = 0 := rfl
      have ce := hs.rowcell 0 rfl 0 (u := .pointer none) rfl
      refine wp_seq ?_
      refine wp_seq ?_
      refine wp_region_lit ?_
      iterate 3 (refine wpList_plainQ rfl (fun K Q' hK => ?_); go_simp; refine hK _ _ ?_; clear hK K; try clear Q')
      refine wpList_nil ?_
      show Code.wp _ _ _ _ _
      -- stops at: cond
      refine wp_cond_true (rfl) ?_
      refine wp_skip ?_
      show Code.wp _ _ _ _ _
      refine wp_block ?_
      refine wp_seq ?_
      refine wp_region_lit ?_
      iterate 5 (refine wpList_plainQ rfl (fun K Q' hK => ?_); go_simp; refine hK _ _ ?_; clear hK K; try clear Q')
      -- stops at: load (Go.Op.load 29 (Go.Operand.tmp 14)) slot 15
      iterate 1 (refine wpList_plainQ rfl (fun K Q' hK => ?_); go_simp; refine hK _ _ ?_; clear hK K; try clear Q')
      clear ce
      refine wpList_plainQ rfl (fun K Q' hK => ?_); go_simp
      refine hs.k_alloc (fun w2 h2 => ?_)
      refine hK _ _ ?_; clear hK K; try clear Q'
      have c_0 := h2.cell 0 rfl 0 rfl
      have f_0 := h2.free 0 rfl 0
      refine wpList_plainQ rfl (fun K Q' hK => ?_); go_simp
      clear c_0 f_0
      refine h2.k_set 0 rfl (fun w3 h3 => ?_)
      refine hK _ _ ?_; clear hK K; try clear Q'
      refine wpList_nil ?_
      show Code.wp _ _ _ _ _
      refine wp_seq ?_
      refine wp_region_lit ?_
      iterate 6 (refine wpList_plainQ rfl (fun K Q' hK => ?_); go_simp; refine hK _ _ ?_; clear hK K; try clear Q')
      refine wpList_nil ?_
      show Code.wp _ _ _ _ _
      refine wp_seq ?_
      refine wp_seq ?_
      refine wp_region_lit ?_
      have c_0_0 := h3.cell 0 rfl 0 rfl
      iterate 3 (refine wpList_plainQ rfl (fun K Q' hK => ?_); go_simp; refine hK _ _ ?_; clear hK K; try clear Q')
      clear c_0_0
      refine wpList_nil ?_
      show Code.wp _ _ _ _ _
      -- stops at: cond
      refine wp_cond_true (rfl) ?_
      refine wp_exit ?_
      -- stops at: roundend
      simp only [Exit.inBlock, Exit.then, if_true]
      go_roundw
      case rel => exact ⟨0, by omega, hJ _ _ _ hJk (hs.same h3), (h3.rowPop 0 (xs := []) (last := [.pointer none]) rfl rfl).take 0⟩
      case measure => simp [lenOf]

theorem St.norm {w0 w : World} {H : GH} {L : List (Nat × Obj)} {R : List Row} (h : St w0 H none 0 0 w H L R) : St w0 H none 0 0 w H L R := h
theorem snoc_or {α : Type} (S : List α) : S = [] ∨ ∃ k x, S = k ++ [x] := by
  by_cases h : S = []
  · exact .inl h
  · exact .inr ⟨S.dropLast, S.getLast h, (List.dropLast_concat_getLast h).symm⟩
theorem elsL_snoc (S : List BH) (x : BH) : BH.elsL (S ++ [x]) = BH.elsL S ++ x.els := by rw [BH.elsL_append]; simp [BH.elsL]

set_option maxRecDepth 100000 in
set_option maxHeartbeats 4000000 in
theorem beach1_some (n : Nat) (hn : 1 ≤ n) (l Bn : Nat) (H : GH) (p0 : Option Addr) (t : BH) (N : Nat) (hN : Hid (t.els.length = N)) (hNl : N < 900000) (J : Nat → World → Prop) (w : World)
    (hJ : ∀ k A A', J k A → SameBelow w.heap.size A A' → J k A')
    (hY : ∀ k (x : Value) A, J k A → k < N → YieldAt Fence.wide (n - 1) Tryz.prog l #[x] A fun e A' => e = .returned (.bool true) ∧ J (k + 1) A' ∧ SameFrom w.heap.size A A')
    (hP : ∀ k A, J k A → Fits A H) (hBn : w.cell? ⟨Bn, 0, none⟩ = some (.pointer p0)) (ht : BtR H p0 t) (hJ0 : J 0 w) :
    CallsIn Fence.wide n Tryz.prog 72 #[.func (.yield l) #[] #[], .pointer (some ⟨Bn, 0, none⟩)] w fun e W' => (∃ v, e = .returned v) ∧ J N W' := by
  have hf := hP 0 w hJ0
  have hpre : Pre w H none 0 0 := Pre.none hf 0 0
  refine callsIn_wide.2 ?_
  go_enter Tryz.func72, Tryz.ntmps72
  have h0 := St.start hpre
  refine wp_seq ?_
  refine wp_region_lit ?_
  iterate 1 (refine wpList_plainQ rfl (fun K Q' hK => ?_); go_simp; refine hK _ _ ?_; clear hK K; try clear Q')
  refine wpList_plainQ rfl (fun K Q' hK => ?_); go_simp
  refine h0.k_alloc (fun w1 h1 => ?_)
  refine hK _ _ ?_; clear hK K; try clear Q'
  iterate 1 (refine wpList_plainQ rfl (fun K Q' hK => ?_); go_simp; refine hK _ _ ?_; clear hK K; try clear Q')
  refine wpList_nil ?_
  show Code.wp _ _ _ _ _
  refine wp_block ?_
  -- stops at: loop
  have hR := h1.rowOf 0 rfl 1 1 rfl (by unfold maxLen; omega)
  obtain ⟨Rel, hRel⟩ : ∃ R : Value → World → Nat → Prop, ∀ v wr m, R v wr m ↔ ∃ (w0 : World) (k : Nat) (S : List Bp), w0.heap.size = w.heap.size ∧ J k wr ∧ Hid (k + (BH.elsL (S.map Prod.snd)).length = N) ∧ (∀ y ∈ S, BtR H y.1 y.2) ∧ m = N - k ∧ St w0 H none 0 0 wr H [] [⟨v, 29, 1, S.length, S.map fun y => .pointer y.1⟩] := ⟨_, fun _ _ _ => Iff.rfl⟩
  go_loopw [3] (fun v3 wr => ∃ m, Rel v3 wr m) (fun v3 wr => leastOf (Rel v3 wr))
  case atStart => exact ⟨_, (hRel _ _ _).2 ⟨w, 0, [(p0, t)], rfl, hJ _ _ _ hJ0 (h0.same hR), by show _ = _; rw [← hN.out]; simp [BH.elsL], by simpa using ht, rfl, hR⟩⟩
  case round =>
    obtain ⟨m, hm, hmin⟩ := leastOf_spec hrel
    obtain ⟨w0, k, S, hw0, hJk, hsum, hS, rfl, hs⟩ := (hRel _ _ _).1 hm
    obtain ⟨a3, c3, rfl⟩ := hs.row_form 0 rfl
    rcases snoc_or S with rfl | ⟨S, x, rfl⟩
    · skip
      refine wp_seq ?_
      refine wp_seq ?_
      refine wp_region_lit ?_
      iterate 3 (refine wpList_plainQ rfl (fun K Q' hK => ?_); go_simp; refine hK _ _ ?_; clear hK K; try clear Q')
      refine wpList_nil ?_
      show Code.wp _ _ _ _ _
      -- stops at: cond
      refine wp_cond_false (rfl) ?_
      refine wp_exit ?_
      -- stops at: bodyend
      simp only [Exit.inBlock, Exit.then, if_true]
      refine bodyPost_end (results_none rfl _ _ _) rfl ?_
      obtain rfl : k = N := by have := hsum.out; simp [BH.elsL] at this; exact this
      exact ⟨⟨_, rfl⟩, hJk⟩
    · obtain ⟨nn, hnn⟩ : ∃ nn, Hid (S.length = nn) := ⟨_, show _ = _ from rfl⟩
      have el : (S ++ [x]).length = nn + 1 := by simp [hnn.out]
      have em : (S ++ [x]).map (fun y : Bp => Value.pointer y.1) = S.map (fun y : Bp => Value.pointer y.1) ++ [.pointer x.1] := by simp
      have hx := hS x (by simp)
      have hS' : ∀ y ∈ S, BtR H y.1 y.2 := fun y hy => hS y (by simp [hy])
      obtain ⟨px, tx⟩ := x
      obtain ⟨bx, qx, ts, hpx, hbx, hlx, hqx, hdx⟩ := BtR.open hx
      simp only at hpx hbx hqx hsum
      subst hpx
      rw [el, em] at hs
      rw [el] at hmin ⊢
      clear el em
      have hqe : (Rw.els ts).map Prod.snd = Rw.els tx.queue := by rw [← hqx.out, Rw.map_els]
      obtain ⟨qq, hqq⟩ : ∃ qq, Hid ((Rw.els ts).length = qq) := ⟨_, show _ = _ from rfl⟩
      have hsum2 : Hid (k + 1 + (BH.elsL ((S ++ Rw.els ts).map Prod.snd)).length = N) := by
        have h1 := hsum.out
        rw [List.map_append, List.map_cons, List.map_nil, elsL_snoc, BH.els_eq, List.length_append, List.length_cons] at h1
        show _ = _
        rw [List.map_append, BH.elsL_append, hqe, List.length_append]
        simp only at h1
        omega
      have hlq : nn + qq < 900000 := by
        have h1 := hsum2.out
        have h2 := BH.length_le ((S ++ Rw.els ts).map Prod.snd)
        rw [List.length_map, List.length_append, hnn.out, hqq.out] at h2
        omega
      obtain ⟨g, cap, ee⟩ := hs.row_some 0 rfl (by omega)
      simp only [Value.slice.injEq, true_and] at ee
      obtain ⟨rfl, rfl⟩ := ee
      have hcap := hs.rowCap 0 rfl
      have ce := hs.rowcell 0 rfl nn (u := .pointer (some ⟨bx, 0, none⟩)) (by rw [← hnn.out]; simp)
      have hnl : nn < 900000 := by have := hsum.out; have := BH.length_le (S.map Prod.snd); simp [elsL_snoc] at *; have := hnn.out; omega
      have e0 : IntKind.i64.wrap (nn : Int) = (nn : Int) := IntWalk.i64_in _ (by omega)
      clear hrel hm
      have hlt1 : (nn : Int) < (nn : Int) + 1 := by omega
      have hcap1 : nn ≤ c3 := by omega
      refine wp_seq ?_
      refine wp_seq ?_
      refine wp_region_lit ?_
      iterate 3 (refine wpList_plainQ rfl (fun K Q' hK => ?_); go_simp; refine hK _ _ ?_; clear hK K; try clear Q')
      refine wpList_nil ?_
      show Code.wp _ _ _ _ _
      -- stops at: cond
      refine wp_cond_true (rfl) ?_
      refine wp_skip ?_
      show Code.wp _ _ _ _ _
      refine wp_block ?_
      refine wp_seq ?_
      refine wp_region_lit ?_
      iterate 5 (refine wpList_plainQ rfl (fun K Q' hK => ?_); go_simp; refine hK _ _ ?_; clear hK K; try clear Q')
      -- stops at: load (Go.Op.load 29 (Go.Operand.tmp 14)) slot 15
      iterate 1 (refine wpList_plainQ rfl (fun K Q' hK => ?_); go_simp; refine hK _ _ ?_; clear hK K; try clear Q')
      clear ce
      refine wpList_plainQ rfl (fun K Q' hK => ?_); go_simp
      refine hs.k_alloc (fun w2 h2 => ?_)
      refine hK _ _ ?_; clear hK K; try clear Q'
      have c_0 := h2.cell 0 rfl 0 rfl
      have f_0 := h2.free 0 rfl 0
      refine wpList_plainQ rfl (fun K Q' hK => ?_); go_simp
      clear c_0 f_0
      refine h2.k_set 0 rfl (fun w3 h3 => ?_)
      refine hK _ _ ?_; clear hK K; try clear Q'
      refine wpList_nil ?_
      show Code.wp _ _ _ _ _
      refine wp_seq ?_
      refine wp_region_lit ?_
      iterate 6 (refine wpList_plainQ rfl (fun K Q' hK => ?_); go_simp; refine hK _ _ ?_; clear hK K; try clear Q')
      refine wpList_nil ?_
      show Code.wp _ _ _ _ _
      refine wp_seq ?_
      refine wp_seq ?_
      refine wp_region_lit ?_
      have c_0_0 := h3.cell 0 rfl 0 rfl
      iterate 3 (refine wpList_plainQ rfl (fun K Q' hK => ?_); go_simp; refine hK _ _ ?_; clear hK K; try clear Q')
      clear c_0_0
      refine wpList_nil ?_
      show Code.wp _ _ _ _ _
      -- stops at: cond
      refine wp_cond_false (rfl) ?_
      refine wp_skip ?_
      show Code.wp _ _ _ _ _
      refine wp_seq ?_
      refine wp_seq ?_
      refine (wpIn_wide (n := n)).1 ?_
      refine wpIn_region_lit ?_
      have c_0_0 := h3.cell 0 rfl 0 rfl
      iterate 2 (refine wpListIn_plain rfl (fun K hK => ?_); go_simp; refine hK _ _ ?_; clear hK K; try clear Q')
      clear c_0_0
      -- stops at: eff:call (Go.Op.call {'callee': (Go.Callee.value (Go.Operand.tmp 24)), 'args': [(Go.Operand.tmp 25)], 'argTypes': [29]}) slot 26
      have hpop := (h3.rowPop 0 rfl (by simp [hnn.out])).norm
      have hsm := hs.same hpop
      rw [hw0] at hsm
      have hk : k < N := by have := hsum.out; rw [List.map_append, List.map_cons, List.map_nil, elsL_snoc, List.length_append] at this; have := BH.els_pos tx; simp only at *; omega
      obtain ⟨fn, tmps, assign, body, hy, hR⟩ := hY k (.agg #[.pointer (some ⟨bx, 0, none⟩)]) w3 (hJ _ _ _ hJk hsm) hk
      refine wpListIn_plain rfl (fun K hK => ?_); go_simp
      refine hR.mono ?_
      rintro e w9 ⟨rfl, hJ9, hs9⟩
      have h9 := hpop.rebase hw0 hs9 (hP _ _ hJ9)
      have hle9 : w.heap.size ≤ w9.heap.size := by have := hpop.keep.size; have := hs9.size; omega
      refine hK _ _ ?_; clear hK K; try clear Q'
      iterate 1 (refine wpListIn_plain rfl (fun K hK => ?_); go_simp; refine hK _ _ ?_; clear hK K; try clear Q')
      refine wpListIn_nil ?_
      show Code.wp _ _ _ _ _
      -- stops at: cond
      refine wp_cond_false (rfl) ?_
      refine wp_skip ?_
      show Code.wp _ _ _ _ _
      refine wp_region_lit ?_
      have c_0_0 := h9.cell 0 rfl 0 rfl
      have c_hbx_2 := h9.gh hbx 2 rfl
      iterate 6 (refine wpList_plainQ rfl (fun K Q' hK => ?_); go_simp; refine hK _ _ ?_; clear hK K; try clear Q')
      clear c_0_0 c_hbx_2
      -- stops at: eff:call (Go.Op.call {'callee': (Go.Callee.value (Go.Operand.func 36)), 'args': [(Go.Operand.tmp 33)], 'argTypes': [71]}) slot 34
      refine wpList_plainQ rfl (fun K Q' hK => ?_); go_simp
      refine (skall_ok H _ qx ts h9.fits (by show (Rw.els ts).length < _; rw [hqq.out]; omega) hlx).mono ?_
      rintro e wC ⟨vC, rfl, hpC⟩
      obtain ⟨H6, h66, rC, leC⟩ := (h9.callrow hpC).settleRow 1 rfl
      rw [bpFlat, hqq.out] at rC
      obtain ⟨aC, cC, rfl, _, _⟩ := rC.nil_or
      refine hK _ _ ?_; clear hK K; try clear Q'
      refine wpList_plainQ rfl (fun K Q' hK => ?_)
      refine h66.op_append_rep 0 rfl rfl infoT rfl ((Rw.els ts).map fun y : Bp => Value.pointer y.1) (u := .slice aC qq cC) (k := qq) rfl rC (fun u hu => by obtain ⟨y, _, rfl⟩ := List.mem_map.1 hu; rfl) (by omega) (by unfold maxLen; omega) (fun v1 wF hF => ?_)
      refine hK _ _ ?_; clear hK K; try clear Q'
      have hF' := hF.lower leC (GH.le_refl _)
      obtain ⟨a1, c1, rfl⟩ := hF'.row_form 0 rfl
      iterate 1 (refine wpList_plainQ rfl (fun K Q' hK => ?_); go_simp; refine hK _ _ ?_; clear hK K; try clear Q')
      refine wpList_nil ?_
      -- stops at: end ('roundend',)
      have hsm2 := h9.same hF'
      rw [cut_size hle9] at hsm2
      have hnew : Rel (.slice a1 (nn + qq) c1) wF (N - (k + 1)) := (hRel _ _ _).2 ⟨_, k + 1, S ++ Rw.els ts, cut_size hle9, hJ _ _ _ hJ9 hsm2, hsum2, fun y hy => (List.mem_append.1 hy).elim (hS' y) (hdx y), rfl, by
        have e1 : (S ++ Rw.els ts).length = nn + qq := by rw [List.length_append, hnn.out, hqq.out]
        rw [e1, List.map_append]
        exact hF'.take 0⟩
      show _ ∧ _
      go_roundw
      case rel => exact ⟨_, hnew⟩
      case measure =>
        have h1 := leastOf_le hnew
        show leastOf (Rel _ _) < leastOf (Rel _ _)
        rw [hmin]
        omega

theorem beach1_ok (n : Nat) (hn : 1 ≤ n) (l Bn : Nat) (H : GH) (p0 : Option Addr) (t : Hp) (hNl : Hp.size t < 900000) (J : Nat → World → Prop) (w : World)
    (hJ : ∀ k A A', J k A → SameBelow w.heap.size A A' → J k A')
    (hY : ∀ k (x : Value) A, J k A → k < Hp.size t → YieldAt Fence.wide (n - 1) Tryz.prog l #[x] A fun e A' => e = .returned (.bool true) ∧ J (k + 1) A' ∧ SameFrom w.heap.size A A')
    (hP : ∀ k A, J k A → Fits A H) (hBn : w.cell? ⟨Bn, 0, none⟩ = some (.pointer p0)) (ht : HbR H p0 t) (hJ0 : J 0 w) :
    CallsIn Fence.wide n Tryz.prog 72 #[.func (.yield l) #[] #[], .pointer (some ⟨Bn, 0, none⟩)] w fun e W' => (∃ v, e = .returned v) ∧ J (Hp.size t) W' := by
  match t, hNl, hY, ht with
  | none, _, hY, ht =>
    obtain rfl : p0 = none := ht
    exact beach1_none n l Bn H J w hJ (hP _ _ hJ0) hBn hJ0
  | some t, hNl, hY, ht => exact beach1_some n hn l Bn H p0 t _ (show _ = _ from rfl) hNl J w hJ hY hP hBn ht hJ0

theorem run_store_fn {P : Program} {w : World} {a : Addr} {m : Mode} (fn : Fn) (first captured : Array Value) : (store a (.func fn first captured) m).run P w = stored P w a (.func fn first captured) m := run_store P w a _ m rfl
attribute [local go_sem] run_store_fn Oper.semAt_some
theorem SameFrom.setCell (A : World) {a : Addr} {B : Nat} (v : Value) (hl : a.block < B) : SameFrom B A (A.setCell a v) :=
  ⟨by simp, fun k o hk e => (Below.heap_setCell _ _ _ _ (by omega)).trans e⟩
set_option maxRecDepth 100000 in
set_option maxHeartbeats 4000000 in
theorem bsize_ok (H : GH) (w : World) (p : Option Addr) (t : Hp) (hf : Fits w H) (hn : Hp.size t < 900000) (ht : HbR H p t) :
    Calls Tryz.prog 20 #[hV p] w fun e w' => ∃ H', e = .returned (.int .i64 (Hp.size t : Nat)) ∧ Post w H none w' H' 0 0 := by
  have hpre : Pre w H none 0 0 := Pre.none hf 0 0
  refine (callsIn_wide (n := 9)).1 ?_
  refine callsIn_of_wp_marks Tryz.func20 rfl trivial ?_ rfl
  simp only [Tryz.ntmps20, List.size_toArray, List.length_cons, List.length_nil, Nat.reduceAdd, Nat.reduceSub, Array.replicate_succ, Array.replicate_zero, List.push_toArray, List.append_toArray, List.nil_append, List.cons_append]
  refine wpIn_wide.2 ?_
  have h0 := St.start hpre
  refine wp_seq ?_
  refine wp_region_lit ?_
  refine wpList_plainQ rfl (fun K Q' hK => ?_); go_simp
  refine h0.k_alloc (fun w1 h1 => ?_)
  refine hK _ _ ?_; clear hK K; try clear Q'
  iterate 1 (refine wpList_plainQ rfl (fun K Q' hK => ?_); go_simp; refine hK _ _ ?_; clear hK K; try clear Q')
  refine wpList_nil ?_
  show Code.wp _ _ _ _ _
  refine wp_seq ?_
  refine wp_region_lit ?_
  refine wpList_plainQ rfl (fun K Q' hK => ?_); go_simp
  refine h1.k_alloc (fun w2 h2 => ?_)
  refine hK _ _ ?_; clear hK K; try clear Q'
  have c_0 := h2.cell 1 rfl 0 rfl
  have f_0 := h2.free 1 rfl 0
  refine wpList_plainQ rfl (fun K Q' hK => ?_); go_simp
  clear c_0 f_0
  refine h2.k_set 1 rfl (fun w3 h3 => ?_)
  refine hK _ _ ?_; clear hK K; try clear Q'
  refine wpList_nil ?_
  show Code.wp _ _ _ _ _
  refine wp_seq ?_
  refine wp_region_lit ?_
  iterate 1 (refine wpList_plainQ rfl (fun K Q' hK => ?_); go_simp; refine hK _ _ ?_; clear hK K; try clear Q')
  refine wpList_plainQ rfl (fun K Q' hK => ?_); go_simp
  refine h3.k_alloc (fun w4 h4 => ?_)
  refine hK _ _ ?_; clear hK K; try clear Q'
  have c_0 := h4.cell 2 rfl 0 rfl
  have f_0 := h4.free 2 rfl 0
  refine wpList_plainQ rfl (fun K Q' hK => ?_); go_simp
  clear c_0 f_0
  refine h4.k_set 2 rfl (fun w5 h5 => ?_)
  refine hK _ _ ?_; clear hK K; try clear Q'
  refine wpList_nil ?_
  show Code.wp _ _ _ _ _
  refine wp_seq ?_
  refine wp_seq ?_
  refine wp_region_lit ?_
  have c_0_0 := h5.cell 0 rfl 0 rfl
  iterate 1 (refine wpList_plainQ rfl (fun K Q' hK => ?_); go_simp; refine hK _ _ ?_; clear hK K; try clear Q')
  clear c_0_0
  -- stops at: eff:call (Go.Op.call {'callee': (Go.Callee.value (Go.Operand.func 40)), 'args': [(Go.Operand.tmp 6)], 'argTypes': [29]}) slot 7
  refine wpList_plainQ rfl (fun K Q' hK => ?_); go_simp
  refine (beach_ok H _ p h5.fits).mono ?_
  rintro e wA ⟨bA, rfl, hkA, hbA, hoA⟩
  have hA := h5.callnew hkA hbA hoA rfl
  refine hK _ _ ?_; clear hK K; try clear Q'
  refine wpList_nil ?_
  show Code.wp _ _ _ _ _
  refine wp_block ?_
  -- stops at: rangeFunc
  have hwA : w.heap.size ≤ wA.heap.size := hA.keep.size
  have hnat : ∀ k : Nat, k < Hp.size t → IntKind.i64.wrap ((k : Int) + 1) = ((k + 1 : Nat) : Int) := fun k hk => by rw [IntWalk.i64_in _ (by omega)]; omega
  have hb1 : w1.heap.size < wA.heap.size := blk_lt (hA.at (i := 1) rfl)
  have hLlt : ∀ q ∈ [w.heap.size, w1.heap.size, w3.heap.size, bA], q < wA.heap.size := by
    simp only [List.mem_cons, List.not_mem_nil, or_false]
    rintro q (rfl | rfl | rfl | rfl)
    · exact blk_lt (hA.at (i := 0) rfl)
    · exact hb1
    · exact blk_lt (hA.at (i := 2) rfl)
    · exact blk_lt (hA.at (i := 3) rfl)
  have hH : ∀ b o, H b = some o → b < wA.heap.size := fun b o e => hA.fits.lt e
  refine (wpIn_wide (n := 9)).1 ?_
  refine wpIn_range_count (F := Fence.wide) rfl (by omega) (gf := 72) (lb := #[.pointer (some ⟨bA, 0, none⟩)]) rfl trivial (enters_of Tryz.func72 (by kernel_rfl) rfl) (N := Hp.size t)
    (fun k W => St w H none 0 0 W H [(w.heap.size, .cells #[.pointer p] 29), (w1.heap.size, .cells #[.int .i64 (k : Nat)] 3), (w3.heap.size, .cells #[.func (.func 39) #[] #[.pointer (some ⟨w1.heap.size, 0, none⟩)]] 1), (bA, .cells #[.pointer p] 29)] [])
    (fun A => Fits A H) (fun k A h => h.fits) (fun k A A' h hs => h.below hwA (fun q hq => hLlt _ (by simp only [List.mem_cons, List.not_mem_nil, or_false] at hq; rcases hq with rfl | rfl | rfl | rfl <;> simp)) hH hs) hA
    (fun l J W hW hJ hY hP h0 => beach1_ok 8 (by omega) l bA H p t hn J W hJ hY hP (by rw [blk_cell ((hW.block _ (hLlt bA (by simp))).trans (hA.at (i := 3) rfl))]; rfl) ht h0)
    (fun x => { tmps := #[hV p, .pointer (some ⟨w.heap.size, 0, none⟩), .int .i64 0, .pointer (some ⟨w1.heap.size, 0, none⟩), .pointer (some ⟨w3.heap.size, 0, none⟩), .func (.func 39) #[] #[.pointer (some ⟨w1.heap.size, 0, none⟩)], .agg #[.pointer p], .func (.func 72) #[] #[.pointer (some ⟨bA, 0, none⟩)], x, undef, undef, undef], defers := [] })
    (fun l x W K hK => ?_) (fun l k x W hi hk => ?_) (fun D W hD hi hK => ?_)
  · exact wpIn_skip hK
  · skip
    refine wpIn_block ?_
    refine wpIn_region_lit ?_
    have c_2_0 := hi.cell 2 rfl 0 rfl
    iterate 1 (refine wpListIn_plain rfl (fun K hK => ?_); go_simp; refine hK _ _ ?_; clear hK K; try clear Q')
    clear c_2_0
    -- stops at: eff:call (Go.Op.call {'callee': (Go.Callee.value (Go.Operand.tmp 9)), 'args': [], 'argTypes': []}) slot 10
    refine wpListIn_plain rfl (fun K hK => ?_); go_simp
    refine ⟨trivial, (CallsIn.inRound l (callsIn_wide.2 (bcount_ok W w1.heap.size k (hi.at (i := 1) rfl) (by rw [hnat k hk]; omega)))).mono ?_⟩
    rintro e wB ⟨⟨v, rfl⟩, rfl⟩
    have hB := hi.set (i := 1) rfl 0 (.int .i64 ((k : Int) + 1))
    have hs3 : SameFrom wA.heap.size W (W.setCell ⟨w1.heap.size, 0, none⟩ (.int .i64 ((k : Int) + 1))) := SameFrom.setCell W _ hb1
    refine hK _ _ ?_; clear hK K; try clear Q'
    refine wpListIn_nil ?_
    -- stops at: end ('bodyend',)
    exact ⟨rfl, hB, hs3⟩
  · skip
    show Code.wp _ _ _ _ _
    refine wp_seq ?_
    refine wp_region_lit ?_
    have c_1_0 := hi.cell 1 rfl 0 rfl
    iterate 2 (refine wpList_plainQ rfl (fun K Q' hK => ?_); go_simp; refine hK _ _ ?_; clear hK K; try clear Q')
    clear c_1_0
    refine wpList_nil ?_
    show Code.wp _ _ _ _ _
    -- stops at: ret
    refine wp_ret ?_
    refine ⟨by simp, .inl ⟨_, _, rfl, run_takeDeferred hK, ?_⟩⟩
    refine ⟨_, results_tmp rfl _ _ _, ?_⟩
    exact ⟨H, rfl, (hi.grown (grownBy_putObj' W D _) (fun r e => by cases e; exact ⟨hD, _, hK, rfl⟩) hwA hH).post⟩
end Go.Proofs.YtkhjcmbppcimnaaGreatDoor
