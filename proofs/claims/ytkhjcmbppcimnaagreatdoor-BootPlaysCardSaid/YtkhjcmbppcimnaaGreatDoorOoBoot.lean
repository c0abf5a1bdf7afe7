/-
Heaps whose others are heaps, in memory: taking out, as a text.
-/
import Derived.Test.YtkhjcmbppcimnaaGreatDoorOnBoot
import Derived.Test.YtkhjcmbppcimnaaGreatDoorNdJoin
namespace Go.Proofs.YtkhjcmbppcimnaaGreatDoor
open Go Go.RowKit
set_option linter.unusedVariables false

theorem Rw.min_some' {ts : List (Tr Bp)} {y : Bp} (h : Rw.min? kf ts = some y) : ∃ tr, Rw.minT kf ts = some tr ∧ tr.x = y := by
  cases hm : Rw.minT kf ts with
  | none => unfold Rw.min? at h; rw [hm] at h; cases h
  | some tr => unfold Rw.min? at h; rw [hm] at h; exact ⟨tr, rfl, Option.some.inj h⟩
theorem popMap {t : BH} {ts : List (Tr Bp)} {us : List (Tr Bp)} {tr : Tr Bp} (hq : Rw.map Prod.snd ts = t.queue) (hm : Rw.minT kf ts = some tr) (hu : Rw.map Prod.snd us = tr.x.2.queue) :
    t.pop = some (.mk tr.x.2.root (Rw.map Prod.snd (Sk.meld kf us (Sk.pop kf ts)))) ∧ Hp.popC (some t) = (ts.length - 1) + Sk.popC kf ts + Sk.meldN kf us (Sk.pop kf ts) ∧ Hp.popD (some t) = Sk.popD kf ts + Sk.meldN kf us (Sk.pop kf ts) + 1 := by
  have h1 := Sk.map_pop Prod.snd BH.root ts
  have h2 := Sk.map_meld Prod.snd BH.root us (Sk.pop kf ts)
  have h3 : Rw.minT BH.root t.queue = some (Tr.map Prod.snd tr) := by rw [← hq, Rw.map_minT]; show Option.map _ (Rw.minT kf ts) = _; rw [hm]; rfl
  have e1 : Rw.map Prod.snd (Sk.pop kf ts) = Sk.pop BH.root t.queue := by rw [← hq]; exact h1.1
  have e2 : Rw.map Prod.snd (Sk.meld kf us (Sk.pop kf ts)) = Sk.meld BH.root tr.x.2.queue (Sk.pop BH.root t.queue) := by rw [← e1, ← hu]; exact h2.1
  have e3 : Sk.meldN kf us (Sk.pop kf ts) = Sk.meldN BH.root tr.x.2.queue (Sk.pop BH.root t.queue) := by rw [← e1, ← hu]; exact h2.2
  have e4 : Sk.popC kf ts = Sk.popC BH.root t.queue := by rw [← hq]; exact h1.2.1
  have e5 : Sk.popD kf ts = Sk.popD BH.root t.queue := by rw [← hq]; exact h1.2.2
  have e6 : ts.length = t.queue.length := by rw [← hq, List.length_map]
  refine ⟨?_, ?_, ?_⟩
  · rw [BH.pop_some h3, e2]; rfl
  · show (match Rw.minT BH.root t.queue with | none => 0 | some tr => (t.queue.length - 1) + Sk.popC BH.root t.queue + Sk.meldN BH.root tr.x.queue (Sk.pop BH.root t.queue)) = _
    rw [h3, e3, e4, e6]; rfl
  · show (match Rw.minT BH.root t.queue with | none => 0 | some tr => Sk.popD BH.root t.queue + Sk.meldN BH.root tr.x.queue (Sk.pop BH.root t.queue) + 1) = _
    rw [h3, e3, e5]; rfl

set_option maxRecDepth 100000 in
set_option maxHeartbeats 4000000 in
theorem bpop_ok (H : GH) (w : World) (m : Option Nat) (c d : Int) (p : Option Addr) (t : Hp) (hpre : Pre w H m c d) (hn : Hp.size t < 900000) (ht : HbR H p t) :
    Calls Tryz.prog 12 #[hV p, mV m] w fun e w' => ∃ r H', e = .returned (.tuple #[hV r, .bool (Hp.min? t).isSome]) ∧ Post w H m w' H' (c + Hp.popC t) (d + Hp.popD t) ∧ HbR H' r (Hp.pop t) := by
  match t, hn, ht with
  | none, hn, ht =>
    obtain rfl : p = none := ht
    go_enter Tryz.func12, Tryz.ntmps12
    have h0 := St.start hpre
    refine wp_seq ?_
    repeat (first | simp only [List.nil_append] at h0 | simp only [List.cons_append] at h0 | simp only [List.set_cons_zero] at h0 | simp only [List.set_cons_succ] at h0 | simp only [List.eraseIdx_zero] at h0 | simp only [List.tail_cons] at h0 | simp only [List.eraseIdx_cons_zero] at h0 | simp only [List.eraseIdx_cons_succ] at h0 | simp only [List.setIfInBounds_toArray] at h0)
    refine wp_region_lit ?_
    refine wpList_plainQ rfl (fun K Q' hK => ?_); go_simp
    refine h0.k_alloc (fun w1 h1 => ?_)
    refine hK _ _ ?_; clear hK K; try clear Q'
    refine wpList_plainQ rfl (fun K Q' hK => ?_); go_simp
    refine h1.k_alloc (fun w2 h2 => ?_)
    refine hK _ _ ?_; clear hK K; try clear Q'
    iterate 1 (refine wpList_plainQ rfl (fun K Q' hK => ?_); go_simp; refine hK _ _ ?_; clear hK K; try clear Q')
    refine wpList_nil ?_
    show Code.wp _ _ _ _ _
    refine wp_seq ?_
    refine wp_seq ?_
    repeat (first | simp only [List.nil_append] at h2 | simp only [List.cons_append] at h2 | simp only [List.set_cons_zero] at h2 | simp only [List.set_cons_succ] at h2 | simp only [List.eraseIdx_zero] at h2 | simp only [List.tail_cons] at h2 | simp only [List.eraseIdx_cons_zero] at h2 | simp only [List.eraseIdx_cons_succ] at h2 | simp only [List.setIfInBounds_toArray] at h2)
    refine wp_region_lit ?_
    have c_0_0 := h2.cell 0 rfl 0 rfl
    iterate 3 (refine wpList_plainQ rfl (fun K Q' hK => ?_); go_simp; refine hK _ _ ?_; clear hK K; try clear Q')
    clear c_0_0
    refine wpList_nil ?_
    show Code.wp _ _ _ _ _
    -- stops at: cond
    refine wp_cond_true (rfl) ?_
    refine wp_seq ?_
    refine wp_region_lit ?_
    have c_0_0 := h2.cell 0 rfl 0 rfl
    iterate 1 (refine wpList_plainQ rfl (fun K Q' hK => ?_); go_simp; refine hK _ _ ?_; clear hK K; try clear Q')
    clear c_0_0
    have c_0 := h2.cell 1 rfl 0 rfl
    have f_0 := h2.free 1 rfl 0
    refine wpList_plainQ rfl (fun K Q' hK => ?_); go_simp
    clear c_0 f_0
    refine h2.k_set 1 rfl (fun w3 h3 => ?_)
    refine hK _ _ ?_; clear hK K; try clear Q'
    iterate 1 (refine wpList_plainQ rfl (fun K Q' hK => ?_); go_simp; refine hK _ _ ?_; clear hK K; try clear Q')
    refine wpList_nil ?_
    show Code.wp _ _ _ _ _
    -- stops at: ret
    refine wp_ret ?_
    have r_1_0 := h3.cell 1 rfl 0 rfl
    first | show bodyPost _ _ _ _ _ _ | (simp only [Exit.then]; show bodyPost _ _ _ _ _ _) | (simp only [Exit.inBlock]; show bodyPost _ _ _ _ _ _) | (simp only [Exit.inBlock, Exit.then]; show bodyPost _ _ _ _ _ _) | (simp only [Exit.noGoto, Exit.inBlock, Exit.then]; show bodyPost _ _ _ _ _ _)
    refine bodyPost_ret (v := ?_) ?_ rfl ?_
    rotate_left
    · simp only [results, Tryz.results12]; go_simp; with_reducible rfl
    clear r_1_0
    refine ⟨none, H, rfl, ?_, rfl⟩
    simpa [Hp.popC, Hp.popD] using h3.post
  | some t, hn, ht =>
    obtain ⟨b, qa, ts, rfl, hb, hl, hq, hd⟩ := BtR.open ht
    have hqs := BH.queue_le t
    have hsz : Rw.size ts < 900000 := by rw [← hq.out, sndSize] at hqs; have : t.els.length < 900000 := hn; omega
    clear hqs
    cases hm : Rw.min? kf ts with
    | none =>
      go_enter Tryz.func12, Tryz.ntmps12
      have h0 := St.start hpre
      refine wp_seq ?_
      repeat (first | simp only [List.nil_append] at h0 | simp only [List.cons_append] at h0 | simp only [List.set_cons_zero] at h0 | simp only [List.set_cons_succ] at h0 | simp only [List.eraseIdx_zero] at h0 | simp only [List.tail_cons] at h0 | simp only [List.eraseIdx_cons_zero] at h0 | simp only [List.eraseIdx_cons_succ] at h0 | simp only [List.setIfInBounds_toArray] at h0)
      refine wp_region_lit ?_
      refine wpList_plainQ rfl (fun K Q' hK => ?_); go_simp
      refine h0.k_alloc (fun w1 h1 => ?_)
      refine hK _ _ ?_; clear hK K; try clear Q'
      refine wpList_plainQ rfl (fun K Q' hK => ?_); go_simp
      refine h1.k_alloc (fun w2 h2 => ?_)
      refine hK _ _ ?_; clear hK K; try clear Q'
      iterate 1 (refine wpList_plainQ rfl (fun K Q' hK => ?_); go_simp; refine hK _ _ ?_; clear hK K; try clear Q')
      refine wpList_nil ?_
      show Code.wp _ _ _ _ _
      refine wp_seq ?_
      refine wp_seq ?_
      repeat (first | simp only [List.nil_append] at h2 | simp only [List.cons_append] at h2 | simp only [List.set_cons_zero] at h2 | simp only [List.set_cons_succ] at h2 | simp only [List.eraseIdx_zero] at h2 | simp only [List.tail_cons] at h2 | simp only [List.eraseIdx_cons_zero] at h2 | simp only [List.eraseIdx_cons_succ] at h2 | simp only [List.setIfInBounds_toArray] at h2)
      refine wp_region_lit ?_
      have c_0_0 := h2.cell 0 rfl 0 rfl
      iterate 3 (refine wpList_plainQ rfl (fun K Q' hK => ?_); go_simp; refine hK _ _ ?_; clear hK K; try clear Q')
      clear c_0_0
      refine wpList_nil ?_
      show Code.wp _ _ _ _ _
      -- stops at: cond
      refine wp_cond_false (rfl) ?_
      refine wp_skip ?_
      show Code.wp _ _ _ _ _
      refine wp_seq ?_
      refine wp_region_lit ?_
      have c_0_0 := h2.cell 0 rfl 0 rfl
      have c_hb_2 := h2.gh hb 2 rfl
      iterate 6 (refine wpList_plainQ rfl (fun K Q' hK => ?_); go_simp; refine hK _ _ ?_; clear hK K; try clear Q')
      clear c_0_0 c_hb_2
      -- stops at: eff:call (Go.Op.call {'callee': (Go.Callee.value (Go.Operand.func 28)), 'args': [(Go.Operand.tmp 19), (Go.Operand.tmp 20)], 'argTypes': [71, 25]}) slot 21
      refine wpList_plainQ rfl (fun K Q' hK => ?_); go_simp
      refine (skmin_ok H _ m c d qa ts h2.pre (by omega) hl).mono ?_
      rintro e wA ⟨H1, rfl, hpA⟩
      rw [hm]
      simp only [minV, Option.isSome]
      have h3 := h2.call hpA
      have hb_3 := hpA.le _ _ hb
      refine hK _ _ ?_; clear hK K; try clear Q'
      iterate 3 (refine wpList_plainQ rfl (fun K Q' hK => ?_); go_simp; refine hK _ _ ?_; clear hK K; try clear Q')
      refine wpList_plainQ rfl (fun K Q' hK => ?_); go_simp
      refine h3.k_alloc (fun w4 h4 => ?_)
      refine hK _ _ ?_; clear hK K; try clear Q'
      have c_0 := h4.cell 2 rfl 0 rfl
      have f_0 := h4.free 2 rfl 0
      refine wpList_plainQ rfl (fun K Q' hK => ?_); go_simp
      clear c_0 f_0
      refine h4.k_set 2 rfl (fun w5 h5 => ?_)
      refine hK _ _ ?_; clear hK K; try clear Q'
      iterate 1 (refine wpList_plainQ rfl (fun K Q' hK => ?_); go_simp; refine hK _ _ ?_; clear hK K; try clear Q')
      refine wpList_nil ?_
      show Code.wp _ _ _ _ _
      refine wp_seq ?_
      refine wp_seq ?_
      repeat (first | simp only [List.nil_append] at h5 | simp only [List.cons_append] at h5 | simp only [List.set_cons_zero] at h5 | simp only [List.set_cons_succ] at h5 | simp only [List.eraseIdx_zero] at h5 | simp only [List.tail_cons] at h5 | simp only [List.eraseIdx_cons_zero] at h5 | simp only [List.eraseIdx_cons_succ] at h5 | simp only [List.setIfInBounds_toArray] at h5)
      refine wp_region_lit ?_
      iterate 2 (refine wpList_plainQ rfl (fun K Q' hK => ?_); go_simp; refine hK _ _ ?_; clear hK K; try clear Q')
      refine wpList_nil ?_
      show Code.wp _ _ _ _ _
      -- stops at: cond
      refine wp_cond_true (rfl) ?_
      refine wp_seq ?_
      refine wp_region_lit ?_
      iterate 1 (refine wpList_plainQ rfl (fun K Q' hK => ?_); go_simp; refine hK _ _ ?_; clear hK K; try clear Q')
      have c_0 := h5.cell 1 rfl 0 rfl
      have f_0 := h5.free 1 rfl 0
      refine wpList_plainQ rfl (fun K Q' hK => ?_); go_simp
      clear c_0 f_0
      refine h5.k_set 1 rfl (fun w6 h6 => ?_)
      refine hK _ _ ?_; clear hK K; try clear Q'
      iterate 1 (refine wpList_plainQ rfl (fun K Q' hK => ?_); go_simp; refine hK _ _ ?_; clear hK K; try clear Q')
      refine wpList_nil ?_
      show Code.wp _ _ _ _ _
      -- stops at: ret
      refine wp_ret ?_
      have r_1_0 := h6.cell 1 rfl 0 rfl
      first | show bodyPost _ _ _ _ _ _ | (simp only [Exit.then]; show bodyPost _ _ _ _ _ _) | (simp only [Exit.inBlock]; show bodyPost _ _ _ _ _ _) | (simp only [Exit.inBlock, Exit.then]; show bodyPost _ _ _ _ _ _) | (simp only [Exit.noGoto, Exit.inBlock, Exit.then]; show bodyPost _ _ _ _ _ _)
      refine bodyPost_ret (v := ?_) ?_ rfl ?_
      rotate_left
      · simp only [results, Tryz.results12]; go_simp; with_reducible rfl
      clear r_1_0
      obtain rfl : ts = [] := Rw.min_none kf hm
      have hq0 : t.queue = [] := by rw [← hq.out]; rfl
      have e1 : Rw.minT BH.root t.queue = none := by rw [hq0]; rfl
      have e2 : Hp.popC (some t) = 0 := by show (match Rw.minT BH.root t.queue with | none => 0 | some tr => _) = _; rw [e1]
      have e3 : Hp.popD (some t) = 0 := by show (match Rw.minT BH.root t.queue with | none => 0 | some tr => _) = _; rw [e1]
      refine ⟨none, H1, rfl, ?_, ?_⟩
      · rw [e2, e3]
        simpa using h6.post
      · show HbR H1 none t.pop
        rw [BH.pop_none e1]
        rfl
    | some y =>
      obtain ⟨tr, hmT, hty⟩ := Rw.min_some' hm
      have hy : y ∈ Rw.els ts := by rw [← hty]; exact (Sk.pop_perm kf hmT).subset (by simp)
      have hall : ∀ z ∈ Rw.els (Sk.pop kf ts), z ∈ Rw.els ts := fun z hz => (Sk.pop_perm kf hmT).subset (by simp [hz])
      obtain ⟨py, ty⟩ := y
      obtain ⟨b2, qb, us, hpy, hb2, hl2, hq2, hd2⟩ := BtR.open (hd _ hy)
      simp only at hpy hb2 hq2
      subst hpy
      have hszs : Rw.size us + Rw.size (Sk.pop kf ts) < 1000000 := by
        have h1 := BH.queue_le ty
        rw [← hq2.out, sndSize] at h1
        have hmem : ty ∈ Rw.els t.queue := by rw [← hq.out, Rw.map_els]; exact List.mem_map.2 ⟨_, hy, rfl⟩
        have h2 := BH.sum_mem hmem
        have h3 : (Rw.els t.queue).length = Rw.size ts := by rw [← hq.out]; exact sndSize ts
        have h4 : (Rw.els (Sk.pop kf ts)).length + 1 = (Rw.els ts).length := by rw [← (Sk.pop_perm kf hmT).length_eq]; rfl
        have h5 : t.els.length = (BH.elsL (Rw.els t.queue)).length + 1 := by rw [BH.els_eq]; rfl
        have : t.els.length < 900000 := hn
        unfold Rw.size at *
        omega
      obtain ⟨hpop, hpc, hpd⟩ := popMap hq.out hmT (by rw [hty]; exact hq2.out)
      rw [hty] at hpop
      go_enter Tryz.func12, Tryz.ntmps12
      have h0 := St.start hpre
      refine wp_seq ?_
      repeat (first | simp only [List.nil_append] at h0 | simp only [List.cons_append] at h0 | simp only [List.set_cons_zero] at h0 | simp only [List.set_cons_succ] at h0 | simp only [List.eraseIdx_zero] at h0 | simp only [List.tail_cons] at h0 | simp only [List.eraseIdx_cons_zero] at h0 | simp only [List.eraseIdx_cons_succ] at h0 | simp only [List.setIfInBounds_toArray] at h0)
      refine wp_region_lit ?_
      refine wpList_plainQ rfl (fun K Q' hK => ?_); go_simp
      refine h0.k_alloc (fun w1 h1 => ?_)
      refine hK _ _ ?_; clear hK K; try clear Q'
      refine wpList_plainQ rfl (fun K Q' hK => ?_); go_simp
      refine h1.k_alloc (fun w2 h2 => ?_)
      refine hK _ _ ?_; clear hK K; try clear Q'
      iterate 1 (refine wpList_plainQ rfl (fun K Q' hK => ?_); go_simp; refine hK _ _ ?_; clear hK K; try clear Q')
      refine wpList_nil ?_
      show Code.wp _ _ _ _ _
      refine wp_seq ?_
      refine wp_seq ?_
      repeat (first | simp only [List.nil_append] at h2 | simp only [List.cons_append] at h2 | simp only [List.set_cons_zero] at h2 | simp only [List.set_cons_succ] at h2 | simp only [List.eraseIdx_zero] at h2 | simp only [List.tail_cons] at h2 | simp only [List.eraseIdx_cons_zero] at h2 | simp only [List.eraseIdx_cons_succ] at h2 | simp only [List.setIfInBounds_toArray] at h2)
      refine wp_region_lit ?_
      have c_0_0 := h2.cell 0 rfl 0 rfl
      iterate 3 (refine wpList_plainQ rfl (fun K Q' hK => ?_); go_simp; refine hK _ _ ?_; clear hK K; try clear Q')
      clear c_0_0
      refine wpList_nil ?_
      show Code.wp _ _ _ _ _
      -- stops at: cond
      refine wp_cond_false (rfl) ?_
      refine wp_skip ?_
      show Code.wp _ _ _ _ _
      refine wp_seq ?_
      refine wp_region_lit ?_
      have c_0_0 := h2.cell 0 rfl 0 rfl
      have c_hb_2 := h2.gh hb 2 rfl
      iterate 6 (refine wpList_plainQ rfl (fun K Q' hK => ?_); go_simp; refine hK _ _ ?_; clear hK K; try clear Q')
      clear c_0_0 c_hb_2
      -- stops at: eff:call (Go.Op.call {'callee': (Go.Callee.value (Go.Operand.func 28)), 'args': [(Go.Operand.tmp 19), (Go.Operand.tmp 20)], 'argTypes': [71, 25]}) slot 21
      refine wpList_plainQ rfl (fun K Q' hK => ?_); go_simp
      refine (skmin_ok H _ m c d qa ts h2.pre (by omega) hl).mono ?_
      rintro e wA ⟨H1, rfl, hpA⟩
      rw [hm]
      simp only [minV, Option.isSome]
      have h3 := h2.call hpA
      have hb_3 := hpA.le _ _ hb
      have hb2_3 := hpA.le _ _ hb2
      refine hK _ _ ?_; clear hK K; try clear Q'
      iterate 3 (refine wpList_plainQ rfl (fun K Q' hK => ?_); go_simp; refine hK _ _ ?_; clear hK K; try clear Q')
      refine wpList_plainQ rfl (fun K Q' hK => ?_); go_simp
      refine h3.k_alloc (fun w4 h4 => ?_)
      refine hK _ _ ?_; clear hK K; try clear Q'
      have c_0 := h4.cell 2 rfl 0 rfl
      have f_0 := h4.free 2 rfl 0
      refine wpList_plainQ rfl (fun K Q' hK => ?_); go_simp
      clear c_0 f_0
      refine h4.k_set 2 rfl (fun w5 h5 => ?_)
      refine hK _ _ ?_; clear hK K; try clear Q'
      iterate 1 (refine wpList_plainQ rfl (fun K Q' hK => ?_); go_simp; refine hK _ _ ?_; clear hK K; try clear Q')
      refine wpList_nil ?_
      show Code.wp _ _ _ _ _
      refine wp_seq ?_
      refine wp_seq ?_
      repeat (first | simp only [List.nil_append] at h5 | simp only [List.cons_append] at h5 | simp only [List.set_cons_zero] at h5 | simp only [List.set_cons_succ] at h5 | simp only [List.eraseIdx_zero] at h5 | simp only [List.tail_cons] at h5 | simp only [List.eraseIdx_cons_zero] at h5 | simp only [List.eraseIdx_cons_succ] at h5 | simp only [List.setIfInBounds_toArray] at h5)
      refine wp_region_lit ?_
      iterate 2 (refine wpList_plainQ rfl (fun K Q' hK => ?_); go_simp; refine hK _ _ ?_; clear hK K; try clear Q')
      refine wpList_nil ?_
      show Code.wp _ _ _ _ _
      -- stops at: cond
      refine wp_cond_false (rfl) ?_
      refine wp_skip ?_
      show Code.wp _ _ _ _ _
      refine wp_seq ?_
      refine wp_region_lit ?_
      have c_0_0 := h5.cell 0 rfl 0 rfl
      have c_hb_2 := h5.gh hb_3 2 rfl
      iterate 6 (refine wpList_plainQ rfl (fun K Q' hK => ?_); go_simp; refine hK _ _ ?_; clear hK K; try clear Q')
      clear c_0_0 c_hb_2
      -- stops at: eff:call (Go.Op.call {'callee': (Go.Callee.value (Go.Operand.func 29)), 'args': [(Go.Operand.tmp 32), (Go.Operand.tmp 33)], 'argTypes': [71, 25]}) slot 34
      refine wpList_plainQ rfl (fun K Q' hK => ?_); go_simp
      refine (skpop_ok H1 _ m _ _ qa ts h5.pre hsz (hl.mono hpA.le)).mono ?_
      rintro e wB ⟨q2, H2, rfl, hpB, hB⟩
      rw [hm]
      simp only [Option.isSome]
      have h6 := h5.call hpB
      have hb_6 := hpB.le _ _ hb_3
      have hb2_6 := hpB.le _ _ hb2_3
      refine hK _ _ ?_; clear hK K; try clear Q'
      iterate 3 (refine wpList_plainQ rfl (fun K Q' hK => ?_); go_simp; refine hK _ _ ?_; clear hK K; try clear Q')
      refine wpList_plainQ rfl (fun K Q' hK => ?_); go_simp
      refine h6.k_alloc (fun w7 h7 => ?_)
      refine hK _ _ ?_; clear hK K; try clear Q'
      have c_0 := h7.cell 3 rfl 0 rfl
      have f_0 := h7.free 3 rfl 0
      refine wpList_plainQ rfl (fun K Q' hK => ?_); go_simp
      clear c_0 f_0
      refine h7.k_set 3 rfl (fun w8 h8 => ?_)
      refine hK _ _ ?_; clear hK K; try clear Q'
      iterate 1 (refine wpList_plainQ rfl (fun K Q' hK => ?_); go_simp; refine hK _ _ ?_; clear hK K; try clear Q')
      refine wpList_nil ?_
      show Code.wp _ _ _ _ _
      refine wp_seq ?_
      repeat (first | simp only [List.nil_append] at h8 | simp only [List.cons_append] at h8 | simp only [List.set_cons_zero] at h8 | simp only [List.set_cons_succ] at h8 | simp only [List.eraseIdx_zero] at h8 | simp only [List.tail_cons] at h8 | simp only [List.eraseIdx_cons_zero] at h8 | simp only [List.eraseIdx_cons_succ] at h8 | simp only [List.setIfInBounds_toArray] at h8)
      refine h8.region [2, 3] [(0, true), (1, true), (2, true), (3, true), (4, true), (5, true), (6, true), (7, true), (8, true), (9, true), (10, true), (11, true), (12, true), (13, false), (14, false), (15, false), (16, true)] (by kernel_rfl) (by kernel_rfl) (fun w9 h9 => ?_)
      refine wpOrd_hide (fun _ _ d _ _ h => by cases d <;> exact h) (fun QR hQn hQp => ?_)
      simp only [ordOps, List.map_cons, List.map_nil, List.getD_cons_zero, List.getD_cons_succ]
      iterate 13 (refine wpOrd_quiet (v := ?_) rfl (fun _ _ _ => hQp _ _ _ _ _) ?_ ?_; rotate_left; (intro w' hS; have c_2_0 := hS.cell 0 rfl 0 rfl; have c_hb2_0 := hS.gh hb2_6 0 rfl; have c_hb2_1 := hS.gh hb2_6 1 rfl; have c_hb2_2 := hS.gh hb2_6 2 rfl; have c_3_0 := hS.cell 1 rfl 0 rfl; (first | (go_simp; done) | (go_simp; with_reducible rfl))); simp only [Act.put, List.setIfInBounds_toArray, List.set_cons_zero, List.set_cons_succ])
      -- stops at: eff:call (Go.Op.call {'callee': (Go.Callee.value (Go.Operand.func 30)), 'args': [(Go.Operand.tmp 47), (Go.Operand.tmp 48), (Go.Operand.tmp 49)], 'argTypes': [71, 25, 71] slot 50
      refine wpOrd_effQ rfl (fun K Q' hK => ?_); go_simp
      refine (skhmeld_ok H2 _ m _ _ qb q2 us (Sk.pop kf ts) h9.pre hszs ((hl2.mono hpA.le).mono hpB.le) hB).mono ?_
      rintro e wC ⟨q3, H3, rfl, hpC, hC⟩
      have h10 := h9.call hpC
      have hb_10 := hpC.le _ _ hb_6
      have hb2_10 := hpC.le _ _ hb2_6
      refine hK _ _ (h10.sat' hpC.le [2, 3] (by kernel_rfl)) ?_; clear hK K; try clear Q'
      -- stops at: eff:call (Go.Op.call {'callee': (Go.Callee.value (Go.Operand.func 23)), 'args': [(Go.Operand.tmp 37), (Go.Operand.tmp 42), (Go.Operand.tmp 50)], 'argTypes': [25, 32, 71] slot 51
      refine wpOrd_effQ rfl (fun K Q' hK => ?_); go_simp
      refine (bmade_ok H3 _ m _ _ ty.root q3 _ h10.pre hC (fun z hz => by
        rcases List.mem_append.1 ((Sk.meld_perm kf us (Sk.pop kf ts)).subset hz) with hz | hz
        · exact (((hd2 z hz).mono hpA.le).mono hpB.le).mono hpC.le
        · exact (((hd z (hall z hz)).mono hpA.le).mono hpB.le).mono hpC.le)).mono ?_
      rintro e wD ⟨p9, H9, rfl, hpD, hD⟩
      have h11 := h10.call hpD
      have hb_11 := hpD.le _ _ hb_10
      have hb2_11 := hpD.le _ _ hb2_10
      refine hK _ _ (h11.sat' (GH.le.trans hpC.le hpD.le) [2, 3] (by kernel_rfl)) ?_; clear hK K; try clear Q'
      have c_0 := h11.cell 1 rfl 0 rfl
      have f_0 := h11.free 1 rfl 0
      refine wpOrd_effQ rfl (fun K Q' hK => ?_); go_simp
      clear c_0 f_0
      refine h11.k_set 1 rfl (fun w12 h12 => ?_)
      refine hK _ _ (h12.sat' (GH.le.trans hpC.le hpD.le) [2, 3] (by kernel_rfl)) ?_; clear hK K; try clear Q'
      iterate 1 (refine wpOrd_quiet (v := ?_) rfl (fun _ _ _ => hQp _ _ _ _ _) ?_ ?_; rotate_left; (intro w' hS; (first | (go_simp; done) | (go_simp; with_reducible rfl))); simp only [Act.put, List.setIfInBounds_toArray, List.set_cons_zero, List.set_cons_succ])
      refine wpOrd_nil (hQn _ _ ?_); clear hQn hQp QR
      show Code.wp _ _ _ _ _
      -- stops at: ret
      refine wp_ret ?_
      have r_1_0 := h12.cell 1 rfl 0 rfl
      first | show bodyPost _ _ _ _ _ _ | (simp only [Exit.then]; show bodyPost _ _ _ _ _ _) | (simp only [Exit.inBlock]; show bodyPost _ _ _ _ _ _) | (simp only [Exit.inBlock, Exit.then]; show bodyPost _ _ _ _ _ _) | (simp only [Exit.noGoto, Exit.inBlock, Exit.then]; show bodyPost _ _ _ _ _ _)
      refine bodyPost_ret (v := ?_) ?_ rfl ?_
      rotate_left
      · simp only [results, Tryz.results12]; go_simp; with_reducible rfl
      clear r_1_0
      refine ⟨p9, H9, rfl, ?_, by show HbR H9 p9 t.pop; rw [hpop]; exact hD⟩
      rw [hpc, hpd]
      have hq9 := h12.post
      have ee1 : c + ((ts.length - 1 : Nat) : Int) + (Sk.popC kf ts : Nat) + (Sk.meldN kf us (Sk.pop kf ts) : Nat) = c + ((ts.length - 1 + Sk.popC kf ts + Sk.meldN kf us (Sk.pop kf ts) : Nat) : Int) := by omega
      have ee2 : d + (Sk.popD kf ts : Nat) + (Sk.meldN kf us (Sk.pop kf ts) : Nat) + 1 = d + ((Sk.popD kf ts + Sk.meldN kf us (Sk.pop kf ts) + 1 : Nat) : Int) := by omega
      rw [ee1, ee2] at hq9
      exact hq9
end Go.Proofs.YtkhjcmbppcimnaaGreatDoor
