/-
Pairing heaps: putting in, the least one, how many there are, taking out.
-/
import Derived.Test.YtnimanhoegbicaaDoorOaPair
namespace Go.Proofs.YtnimanhoegbicaaDoor
open Go Go.RowKit
set_option linter.unusedVariables false

set_option maxRecDepth 100000 in
set_option maxHeartbeats 2000000 in
theorem size_ok (H : GH) (w : World) (p : Option Addr) (t : PT) (hf : Fits w H) (ht : HeapR H p t) :
    Calls Tryd.prog 20 #[hV p] w fun e w' => e = .returned (.int .i64 (PT.size t : Nat)) ∧ Keep none w w' := by
  have hpre : Pre w H none 0 0 := Pre.none hf 0 0
  rcases ht with ⟨rfl, rfl⟩ | ⟨y, j, rfl, ht⟩
  · skip
    go_enter Tryd.func20, Tryd.ntmps20
    have h0 := St.start hpre
    refine wp_seq ?_
    refine wp_region_lit ?_
    refine wpList_plainQ rfl (fun K Q' hK => ?_); go_simp
    refine h0.k_alloc (fun w1 h1 => ?_)
    refine hK _ _ ?_; clear hK K; try clear Q'
    iterate 1 (refine wpList_plainQ rfl (fun K Q' hK => ?_); go_simp; refine hK _ _ ?_; clear hK K; try clear Q')
    refine wpList_nil ?_
    show Code.wp _ _ _ _ _
    refine wp_seq ?_
    refine wp_seq ?_
    refine wp_region_lit ?_
    have c_0_0 := h1.cell 0 rfl 0 rfl
    iterate 3 (refine wpList_plainQ rfl (fun K Q' hK => ?_); go_simp; refine hK _ _ ?_; clear hK K; try clear Q')
    clear c_0_0
    refine wpList_nil ?_
    show Code.wp _ _ _ _ _
    -- stops at: cond
    refine wp_cond_true (rfl) ?_
    refine wp_seq ?_
    refine wp_region_lit ?_
    iterate 1 (refine wpList_plainQ rfl (fun K Q' hK => ?_); go_simp; refine hK _ _ ?_; clear hK K; try clear Q')
    refine wpList_nil ?_
    show Code.wp _ _ _ _ _
    -- stops at: ret
    refine wp_ret ?_
    go_ret
    exact ⟨rfl, h1.post.keep⟩
  · obtain ⟨bt, qt, nt, kt, _, e, ys, hbt, yc, yk, _⟩ := ht
    simp only [List.cons.injEq] at e
    obtain ⟨rfl, _⟩ := e
    go_enter Tryd.func20, Tryd.ntmps20
    have h0 := St.start hpre
    refine wp_seq ?_
    refine wp_region_lit ?_
    refine wpList_plainQ rfl (fun K Q' hK => ?_); go_simp
    refine h0.k_alloc (fun w1 h1 => ?_)
    refine hK _ _ ?_; clear hK K; try clear Q'
    iterate 1 (refine wpList_plainQ rfl (fun K Q' hK => ?_); go_simp; refine hK _ _ ?_; clear hK K; try clear Q')
    refine wpList_nil ?_
    show Code.wp _ _ _ _ _
    refine wp_seq ?_
    refine wp_seq ?_
    refine wp_region_lit ?_
    have c_0_0 := h1.cell 0 rfl 0 rfl
    iterate 3 (refine wpList_plainQ rfl (fun K Q' hK => ?_); go_simp; refine hK _ _ ?_; clear hK K; try clear Q')
    clear c_0_0
    refine wpList_nil ?_
    show Code.wp _ _ _ _ _
    -- stops at: cond
    refine wp_cond_false (rfl) ?_
    refine wp_skip ?_
    show Code.wp _ _ _ _ _
    refine wp_seq ?_
    refine wp_region_lit ?_
    have c_0_0 := h1.cell 0 rfl 0 rfl
    have c_hbt_3 := h1.gh hbt 3 rfl
    iterate 6 (refine wpList_plainQ rfl (fun K Q' hK => ?_); go_simp; refine hK _ _ ?_; clear hK K; try clear Q')
    clear c_0_0 c_hbt_3
    refine wpList_nil ?_
    show Code.wp _ _ _ _ _
    -- stops at: ret
    refine wp_ret ?_
    go_ret
    refine ⟨?_, h1.post.keep⟩
    rw [show PT.size (.node y j .nil) = nt by have := ys.out; simp [PT.size, PT.els]; omega]
    rfl

set_option maxRecDepth 100000 in
set_option maxHeartbeats 2000000 in
theorem min_ok (H : GH) (w : World) (p : Option Addr) (v : Value) (t : PT) (hf : Fits w H) (ht : HeapR H p t) :
    Calls Tryd.prog 16 #[hV p, v] w fun e w' => e = .returned (.tuple #[elV ((PT.min? t).getD (0, 0)), .bool (PT.min? t).isSome]) ∧ Keep none w w' := by
  have hpre : Pre w H none 0 0 := Pre.none hf 0 0
  rcases ht with ⟨rfl, rfl⟩ | ⟨y, j, rfl, ht⟩
  · skip
    go_enter Tryd.func16, Tryd.ntmps16
    have h0 := St.start hpre
    refine wp_seq ?_
    refine wp_region_lit ?_
    refine wpList_plainQ rfl (fun K Q' hK => ?_); go_simp
    refine h0.k_alloc (fun w1 h1 => ?_)
    refine hK _ _ ?_; clear hK K; try clear Q'
    refine wpList_plainQ rfl (fun K Q' hK => ?_); go_simp
    refine h1.k_alloc (fun w2 h2 => ?_)
    refine hK _ _ ?_; clear hK K; try clear Q'
    iterate 1 (refine wpList_plainQ rfl (fun K Q' hK => ?_); go_simp; refine hK _ _ ?_; clear hK K; try clear Q')
    refine wpList_nil ?_
    show Code.wp _ _ _ _ _
    refine wp_seq ?_
    refine wp_seq ?_
    refine wp_region_lit ?_
    have c_0_0 := h2.cell 0 rfl 0 rfl
    iterate 3 (refine wpList_plainQ rfl (fun K Q' hK => ?_); go_simp; refine hK _ _ ?_; clear hK K; try clear Q')
    clear c_0_0
    refine wpList_nil ?_
    show Code.wp _ _ _ _ _
    -- stops at: cond
    refine wp_cond_true (rfl) ?_
    refine wp_seq ?_
    refine wp_region_lit ?_
    iterate 1 (refine wpList_plainQ rfl (fun K Q' hK => ?_); go_simp; refine hK _ _ ?_; clear hK K; try clear Q')
    have c_0 := h2.cell 1 rfl 0 rfl
    have f_0 := h2.free 1 rfl 0
    have c_1 := h2.cell 1 rfl 1 rfl
    have f_1 := h2.free 1 rfl 1
    refine wpList_plainQ rfl (fun K Q' hK => ?_); go_simp
    clear c_0 f_0 c_1 f_1
    refine (h2.set (i := 1) rfl 0 _).k_set 1 rfl (fun w3 h3 => ?_)
    refine hK _ _ ?_; clear hK K; try clear Q'
    iterate 1 (refine wpList_plainQ rfl (fun K Q' hK => ?_); go_simp; refine hK _ _ ?_; clear hK K; try clear Q')
    refine wpList_nil ?_
    show Code.wp _ _ _ _ _
    -- stops at: ret
    refine wp_ret ?_
    have r_1_0 := h3.cell 1 rfl 0 rfl
    have r_1_1 := h3.cell 1 rfl 1 rfl
    first | show bodyPost _ _ _ _ _ _ | (simp only [Exit.then]; show bodyPost _ _ _ _ _ _) | (simp only [Exit.inBlock]; show bodyPost _ _ _ _ _ _) | (simp only [Exit.inBlock, Exit.then]; show bodyPost _ _ _ _ _ _) | (simp only [Exit.noGoto, Exit.inBlock, Exit.then]; show bodyPost _ _ _ _ _ _)
    refine bodyPost_ret (v := ?_) ?_ rfl ?_
    rotate_left
    · simp only [results, Tryd.results16]; go_simp; with_reducible rfl
    clear r_1_0 r_1_1
    exact ⟨rfl, h3.post.keep⟩
  · obtain ⟨bt, qt, nt, kt, _, e, ys, hbt, yc, yk, _⟩ := ht
    simp only [List.cons.injEq] at e
    obtain ⟨rfl, _⟩ := e
    go_enter Tryd.func16, Tryd.ntmps16
    have h0 := St.start hpre
    refine wp_seq ?_
    refine wp_region_lit ?_
    refine wpList_plainQ rfl (fun K Q' hK => ?_); go_simp
    refine h0.k_alloc (fun w1 h1 => ?_)
    refine hK _ _ ?_; clear hK K; try clear Q'
    refine wpList_plainQ rfl (fun K Q' hK => ?_); go_simp
    refine h1.k_alloc (fun w2 h2 => ?_)
    refine hK _ _ ?_; clear hK K; try clear Q'
    iterate 1 (refine wpList_plainQ rfl (fun K Q' hK => ?_); go_simp; refine hK _ _ ?_; clear hK K; try clear Q')
    refine wpList_nil ?_
    show Code.wp _ _ _ _ _
    refine wp_seq ?_
    refine wp_seq ?_
    refine wp_region_lit ?_
    have c_0_0 := h2.cell 0 rfl 0 rfl
    iterate 3 (refine wpList_plainQ rfl (fun K Q' hK => ?_); go_simp; refine hK _ _ ?_; clear hK K; try clear Q')
    clear c_0_0
    refine wpList_nil ?_
    show Code.wp _ _ _ _ _
    -- stops at: cond
    refine wp_cond_false (rfl) ?_
    refine wp_skip ?_
    show Code.wp _ _ _ _ _
    refine wp_seq ?_
    refine wp_region_lit ?_
    have c_0_0 := h2.cell 0 rfl 0 rfl
    have c_hbt_0 := h2.gh hbt 0 rfl
    have c_hbt_1 := h2.gh hbt 1 rfl
    iterate 5 (refine wpList_plainQ rfl (fun K Q' hK => ?_); go_simp; refine hK _ _ ?_; clear hK K; try clear Q')
    clear c_0_0 c_hbt_0 c_hbt_1
    have c_0 := h2.cell 1 rfl 0 rfl
    have f_0 := h2.free 1 rfl 0
    have c_1 := h2.cell 1 rfl 1 rfl
    have f_1 := h2.free 1 rfl 1
    refine wpList_plainQ rfl (fun K Q' hK => ?_); go_simp
    clear c_0 f_0 c_1 f_1
    refine (h2.set (i := 1) rfl 0 _).k_set 1 rfl (fun w3 h3 => ?_)
    refine hK _ _ ?_; clear hK K; try clear Q'
    iterate 1 (refine wpList_plainQ rfl (fun K Q' hK => ?_); go_simp; refine hK _ _ ?_; clear hK K; try clear Q')
    refine wpList_nil ?_
    show Code.wp _ _ _ _ _
    -- stops at: ret
    refine wp_ret ?_
    have r_1_0 := h3.cell 1 rfl 0 rfl
    have r_1_1 := h3.cell 1 rfl 1 rfl
    first | show bodyPost _ _ _ _ _ _ | (simp only [Exit.then]; show bodyPost _ _ _ _ _ _) | (simp only [Exit.inBlock]; show bodyPost _ _ _ _ _ _) | (simp only [Exit.inBlock, Exit.then]; show bodyPost _ _ _ _ _ _) | (simp only [Exit.noGoto, Exit.inBlock, Exit.then]; show bodyPost _ _ _ _ _ _)
    refine bodyPost_ret (v := ?_) ?_ rfl ?_
    rotate_left
    · simp only [results, Tryd.results16]; go_simp; with_reducible rfl
    clear r_1_0 r_1_1
    exact ⟨rfl, h3.post.keep⟩

set_option maxRecDepth 100000 in
set_option maxHeartbeats 2000000 in
theorem insert_ok (H : GH) (w : World) (m : Option Nat) (c d : Int) (p : Option Addr) (x : El) (t : PT) (hpre : Pre w H m c d) (hn : PT.size t < 900000) (ht : HeapR H p t) :
    Calls Tryd.prog 8 #[hV p, mV m, elV x] w fun e w' => ∃ r H', e = .returned (hV r) ∧ Post w H m w' H' (c + PT.meldN (.node x .nil .nil) t) (d + 1 + PT.meldN (.node x .nil .nil) t) ∧ HeapR H' r (PT.insert x t) := by
  go_enter Tryd.func8, Tryd.ntmps8
  have h0 := St.start hpre
  refine wp_seq ?_
  refine wp_region_lit ?_
  refine wpList_plainQ rfl (fun K Q' hK => ?_); go_simp
  refine h0.k_alloc (fun w1 h1 => ?_)
  refine hK _ _ ?_; clear hK K; try clear Q'
  refine wpList_plainQ rfl (fun K Q' hK => ?_); go_simp
  refine h1.k_alloc (fun w2 h2 => ?_)
  refine hK _ _ ?_; clear hK K; try clear Q'
  refine wpList_plainQ rfl (fun K Q' hK => ?_); go_simp
  refine h2.k_alloc (fun w3 h3 => ?_)
  refine hK _ _ ?_; clear hK K; try clear Q'
  refine wpList_nil ?_
  show Code.wp _ _ _ _ _
  refine wp_seq ?_
  refine wp_region_lit ?_
  iterate 1 (refine wpList_plainQ rfl (fun K Q' hK => ?_); go_simp; refine hK _ _ ?_; clear hK K; try clear Q')
  -- stops at: eff:call (Go.Op.call {'callee': (Go.Callee.value (Go.Operand.func 22)), 'args': [(Go.Operand.tmp 7), (Go.Operand.const (Go.Value.int Go.IntKind.i64 1))], 'argTypes': [25 slot 8
  refine wpList_plainQ rfl (fun K Q' hK => ?_); go_simp
  refine (made_ok H _ m _ _ h3.pre).mono ?_
  rintro e wB ⟨⟨v, rfl⟩, hpB⟩
  have h4 := h3.call hpB
  have ht_4 := ht.mono hpB.le
  refine hK _ _ ?_; clear hK K; try clear Q'
  refine wpList_nil ?_
  show Code.wp _ _ _ _ _
  refine wp_seq ?_
  refine wp_region_lit ?_
  have c_1_0 := h4.cell 1 rfl 0 rfl
  have c_1_1 := h4.cell 1 rfl 1 rfl
  iterate 2 (refine wpList_plainQ rfl (fun K Q' hK => ?_); go_simp; refine hK _ _ ?_; clear hK K; try clear Q')
  clear c_1_0 c_1_1
  refine wpList_plainQ rfl (fun K Q' hK => ?_); go_simp
  refine h4.k_alloc (fun w5 h5 => ?_)
  refine hK _ _ ?_; clear hK K; try clear Q'
  have c_0_0 := h5.cell 0 rfl 0 rfl
  iterate 3 (refine wpList_plainQ rfl (fun K Q' hK => ?_); go_simp; refine hK _ _ ?_; clear hK K; try clear Q')
  clear c_0_0
  -- stops at: eff:call (Go.Op.call {'callee': (Go.Callee.value (Go.Operand.func 10)), 'args': [(Go.Operand.tmp 12), (Go.Operand.tmp 13), (Go.Operand.tmp 14)], 'argTypes': [29, 25, 29] slot 15
  obtain ⟨H3, h99, l99, e99⟩ := h5.settled 3 rfl
  have ht_6 := ht_4.mono l99
  refine wpList_plainQ rfl (fun K Q' hK => ?_); go_simp
  refine (meld_ok H3 _ m _ _ _ p (.node x .nil .nil) t h99.pre (by simp [PT.size, PT.els] at *; omega) (.inr ⟨x, .nil, rfl, _, none, 1, [], [], rfl, rfl, e99, .nil, rfl, rfl⟩) ht_6).mono ?_
  rintro e wC ⟨r, H4, rfl, hpC, hrC⟩
  have h7 := h99.call hpC
  have ht_7 := ht_6.mono hpC.le
  refine hK _ _ ?_; clear hK K; try clear Q'
  have c_0 := h7.cell 2 rfl 0 rfl
  have f_0 := h7.free 2 rfl 0
  refine wpList_plainQ rfl (fun K Q' hK => ?_); go_simp
  clear c_0 f_0
  refine h7.k_set 2 rfl (fun w8 h8 => ?_)
  refine hK _ _ ?_; clear hK K; try clear Q'
  refine wpList_nil ?_
  show Code.wp _ _ _ _ _
  -- stops at: ret
  refine wp_ret ?_
  have r_2_0 := h8.cell 2 rfl 0 rfl
  first | show bodyPost _ _ _ _ _ _ | (simp only [Exit.then]; show bodyPost _ _ _ _ _ _) | (simp only [Exit.inBlock]; show bodyPost _ _ _ _ _ _) | (simp only [Exit.inBlock, Exit.then]; show bodyPost _ _ _ _ _ _) | (simp only [Exit.noGoto, Exit.inBlock, Exit.then]; show bodyPost _ _ _ _ _ _)
  refine bodyPost_ret (v := ?_) ?_ rfl ?_
  rotate_left
  · simp only [results, Tryd.results8]; go_simp; with_reducible rfl
  clear r_2_0
  exact ⟨r, H4, rfl, h8.post, hrC⟩

set_option maxRecDepth 100000 in
set_option maxHeartbeats 2000000 in
theorem of_ok (H : GH) (w : World) (m : Option Nat) (c d : Int) (v : Value) (xs : List El) (hpre : Pre w H m c d) (hn : xs.length < 900000) (hr : ElRep H v xs) :
    Calls Tryd.prog 14 #[mV m, v] w fun e w' => ∃ r H', e = .returned (hV r) ∧ Post w H m w' H' (c + PT.ofN xs) (d + xs.length + PT.ofN xs) ∧ HeapR H' r (PT.ofL xs) := by
  obtain ⟨a, cap, rfl, hc1, hc2⟩ := hr.nil_or
  unfold maxLen at hc2
  go_enter Tryd.func14, Tryd.ntmps14
  have h0 := St.start hpre
  refine wp_seq ?_
  refine wp_region_lit ?_
  refine wpList_plainQ rfl (fun K Q' hK => ?_); go_simp
  refine h0.k_alloc (fun w1 h1 => ?_)
  refine hK _ _ ?_; clear hK K; try clear Q'
  refine wpList_nil ?_
  show Code.wp _ _ _ _ _
  refine wp_seq ?_
  refine wp_region_lit ?_
  iterate 1 (refine wpList_plainQ rfl (fun K Q' hK => ?_); go_simp; refine hK _ _ ?_; clear hK K; try clear Q')
  refine wpList_plainQ rfl (fun K Q' hK => ?_); go_simp
  refine h1.k_alloc (fun w2 h2 => ?_)
  refine hK _ _ ?_; clear hK K; try clear Q'
  have c_0 := h2.cell 1 rfl 0 rfl
  have f_0 := h2.free 1 rfl 0
  refine wpList_plainQ rfl (fun K Q' hK => ?_); go_simp
  clear c_0 f_0
  refine h2.k_set 1 rfl (fun w3 h3 => ?_)
  refine hK _ _ ?_; clear hK K; try clear Q'
  refine wpList_nil ?_
  show Code.wp _ _ _ _ _
  refine wp_seq ?_
  refine wp_seq ?_
  refine wp_region_lit ?_
  iterate 3 (refine wpList_plainQ rfl (fun K Q' hK => ?_); go_simp; refine hK _ _ ?_; clear hK K; try clear Q')
  refine wpList_nil ?_
  show Code.wp _ _ _ _ _
  refine wp_block ?_
  -- stops at: loop
  go_loopw [11] (fun v11 wr => ∃ (k : Nat) (q : Option Addr) (H' : GH), k ≤ xs.length ∧ v11 = .int .i64 k ∧ St w H m (c + PT.ofN (xs.take k)) (d + k + PT.ofN (xs.take k)) wr H' [(w.heap.size, .cells #[.pointer none] 29), (w1.heap.size, .cells #[.pointer q] 29)] [] ∧ HeapR H' q (PT.ofL (xs.take k))) (fun v11 _ => xs.length - (intOf v11).toNat)
  case atStart => exact ⟨0, none, H, by omega, rfl, by simpa [PT.ofN_nil] using h3, by simpa [PT.ofL_nil] using HeapR.nil H⟩
  case round =>
    obtain ⟨k, q, H1, hk1, rfl, hs, hq⟩ := hrel
    by_cases hk : k < xs.length
    · obtain ⟨b, off, cap2, ee, _⟩ := hr.ne_nil (by omega)
      simp only [Value.slice.injEq, true_and] at ee
      obtain ⟨rfl, rfl⟩ := ee
      obtain ⟨c1, c2⟩ := elRep_cells hr (k := k) (a := xs[k]) (by simp [hk])
      obtain ⟨x, hx⟩ : ∃ x, Hid (xs[k] = x) := ⟨xs[k], show _ = _ from rfl⟩
      rw [hx.out] at c1 c2
      have e1 : IntKind.i64.wrap ((k : Int) + 1) = (k : Int) + 1 := IntWalk.i64_in _ (by omega)
      have htk : xs.take (k + 1) = xs.take k ++ [x] := by rw [List.take_add_one, List.getElem?_eq_getElem hk, hx.out]; rfl
      have hsz : PT.size (PT.ofL (xs.take k)) < 900000 := by rw [PT.ofL_size]; simp; omega
      refine wp_seq ?_
      refine wp_region_lit ?_
      iterate 1 (refine wpList_plainQ rfl (fun K Q' hK => ?_); go_simp; refine hK _ _ ?_; clear hK K; try clear Q')
      refine wpList_nil ?_
      show Code.wp _ _ _ _ _
      refine wp_seq ?_
      -- stops at: cond
      refine wp_cond_true (rfl) ?_
      refine wp_skip ?_
      show Code.wp _ _ _ _ _
      refine wp_seq ?_
      refine wp_block ?_
      refine wp_seq ?_
      refine wp_region_lit ?_
      iterate 1 (refine wpList_plainQ rfl (fun K Q' hK => ?_); go_simp; refine hK _ _ ?_; clear hK K; try clear Q')
      -- stops at: load (Go.Op.load 32 (Go.Operand.tmp 13)) slot 14
      have ce := c1.out _ (hs.fits.le hs.le)
      have ce2 := c2.out _ (hs.fits.le hs.le)
      iterate 1 (refine wpList_plainQ rfl (fun K Q' hK => ?_); go_simp; refine hK _ _ ?_; clear hK K; try clear Q')
      clear ce ce2
      refine wpList_plainQ rfl (fun K Q' hK => ?_); go_simp
      refine hs.k_alloc (fun w4 h4 => ?_)
      refine hK _ _ ?_; clear hK K; try clear Q'
      have c_0 := h4.cell 2 rfl 0 rfl
      have f_0 := h4.free 2 rfl 0
      have c_1 := h4.cell 2 rfl 1 rfl
      have f_1 := h4.free 2 rfl 1
      refine wpList_plainQ rfl (fun K Q' hK => ?_); go_simp
      clear c_0 f_0 c_1 f_1
      refine (h4.set (i := 2) rfl 0 _).k_set 2 rfl (fun w5 h5 => ?_)
      refine hK _ _ ?_; clear hK K; try clear Q'
      refine wpList_nil ?_
      show Code.wp _ _ _ _ _
      refine wp_region_lit ?_
      have c_1_0 := h5.cell 1 rfl 0 rfl
      have c_2_0 := h5.cell 2 rfl 0 rfl
      have c_2_1 := h5.cell 2 rfl 1 rfl
      iterate 3 (refine wpList_plainQ rfl (fun K Q' hK => ?_); go_simp; refine hK _ _ ?_; clear hK K; try clear Q')
      clear c_1_0 c_2_0 c_2_1
      -- stops at: eff:call (Go.Op.call {'callee': (Go.Callee.value (Go.Operand.func 8)), 'args': [(Go.Operand.tmp 15), (Go.Operand.tmp 16), (Go.Operand.tmp 17)], 'argTypes': [29, 25, 32]} slot 18
      refine wpList_plainQ rfl (fun K Q' hK => ?_); go_simp
      refine (insert_ok H1 _ m _ _ q x _ h5.pre hsz hq).mono ?_
      rintro e wA ⟨q2, H2, rfl, hp2, hq2⟩
      have h6 := h5.call hp2
      refine hK _ _ ?_; clear hK K; try clear Q'
      have c_0 := h6.cell 1 rfl 0 rfl
      have f_0 := h6.free 1 rfl 0
      refine wpList_plainQ rfl (fun K Q' hK => ?_); go_simp
      clear c_0 f_0
      refine h6.k_set 1 rfl (fun w7 h7 => ?_)
      refine hK _ _ ?_; clear hK K; try clear Q'
      refine wpList_nil ?_
      show Code.wp _ _ _ _ _
      refine wp_region_lit ?_
      iterate 2 (refine wpList_plainQ rfl (fun K Q' hK => ?_); go_simp; refine hK _ _ ?_; clear hK K; try clear Q')
      refine wpList_nil ?_
      -- stops at: end ('roundend',)
      show _ ∧ _
      go_roundw
      case rel =>
        refine ⟨k + 1, q2, H2, by omega, by simp, ?_, by rw [htk, PT.ofL_snoc]; exact hq2⟩
        have h98 := h7.take 2
        rw [htk, PT.ofN_snoc]
        have e3 : c + ((PT.ofN (xs.take k) + PT.meldN (.node x .nil .nil) (PT.ofL (xs.take k)) : Nat) : Int) = c + (PT.ofN (xs.take k) : Int) + (PT.meldN (.node x .nil .nil) (PT.ofL (xs.take k)) : Int) := by omega
        have e4 : d + ((k + 1 : Nat) : Int) + ((PT.ofN (xs.take k) + PT.meldN (.node x .nil .nil) (PT.ofL (xs.take k)) : Nat) : Int) = d + (k : Int) + (PT.ofN (xs.take k) : Int) + 1 + (PT.meldN (.node x .nil .nil) (PT.ofL (xs.take k)) : Int) := by omega
        rw [e3, e4]
        exact h98
      case measure => simp [intOf]; omega
    · obtain rfl : k = xs.length := by omega
      refine wp_seq ?_
      refine wp_region_lit ?_
      iterate 1 (refine wpList_plainQ rfl (fun K Q' hK => ?_); go_simp; refine hK _ _ ?_; clear hK K; try clear Q')
      refine wpList_nil ?_
      show Code.wp _ _ _ _ _
      refine wp_seq ?_
      -- stops at: cond
      refine wp_cond_false (rfl) ?_
      refine wp_exit ?_
      show Code.wp _ _ _ _ _
      refine wp_seq ?_
      refine wp_region_lit ?_
      have c_1_0 := hs.cell 1 rfl 0 rfl
      iterate 1 (refine wpList_plainQ rfl (fun K Q' hK => ?_); go_simp; refine hK _ _ ?_; clear hK K; try clear Q')
      clear c_1_0
      have c_0 := hs.cell 0 rfl 0 rfl
      have f_0 := hs.free 0 rfl 0
      refine wpList_plainQ rfl (fun K Q' hK => ?_); go_simp
      clear c_0 f_0
      refine hs.k_set 0 rfl (fun w8 h8 => ?_)
      refine hK _ _ ?_; clear hK K; try clear Q'
      refine wpList_nil ?_
      show Code.wp _ _ _ _ _
      -- stops at: ret
      refine wp_ret ?_
      have r_0_0 := h8.cell 0 rfl 0 rfl
      first | show bodyPost _ _ _ _ _ _ | (simp only [Exit.then]; show bodyPost _ _ _ _ _ _) | (simp only [Exit.inBlock]; show bodyPost _ _ _ _ _ _) | (simp only [Exit.inBlock, Exit.then]; show bodyPost _ _ _ _ _ _) | (simp only [Exit.noGoto, Exit.inBlock, Exit.then]; show bodyPost _ _ _ _ _ _)
      refine bodyPost_ret (v := ?_) ?_ rfl ?_
      rotate_left
      · simp only [results, Tryd.results14]; go_simp; with_reducible rfl
      clear r_0_0
      rw [List.take_length] at *
      exact ⟨q, H1, rfl, h8.post, hq⟩
end Go.Proofs.YtnimanhoegbicaaDoor
