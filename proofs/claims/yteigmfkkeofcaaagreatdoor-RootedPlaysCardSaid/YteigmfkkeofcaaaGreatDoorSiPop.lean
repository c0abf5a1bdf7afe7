/-
The document's heaps of rows of trees: taking out.
-/
import Derived.Test.YteigmfkkeofcaaaGreatDoorShIns
import Derived.Test.YteigmfkkeofcaaaGreatDoorMiSkewUp
import Derived.Test.YteigmfkkeofcaaaGreatDoorQbPlain
namespace Go.Proofs.YteigmfkkeofcaaaGreatDoor
open Go Go.RowKit
set_option linter.unusedVariables false

set_option maxRecDepth 100000 in
set_option maxHeartbeats 8000000 in
theorem r9pop_ok (H : GH) (w : World) (v : Value) (l : List (Tr El)) (hf : Fits w H) (hn : Rw.size l < 900000) (hv : RsV H v l) :
    Calls Tryz.prog 33 #[.agg #[v]] w fun e w' => ∃ q' H', e = .returned (.tuple #[.agg #[q'], .int .i64 (Sk.popC kf l + Sk.popD kf l : Nat)]) ∧ Post w H none w' H' 0 0 ∧ RsV H' q' (Sk.pop kf l) := by
  have hpre : Pre w H none 0 0 := Pre.none hf 0 0
  cases l with
  | nil =>
    have hv' := hv
    obtain ⟨a0, c0, rfl, _, _⟩ := hv.form
    go_enter Tryz.func33, Tryz.ntmps33
    have h0 := St.start hpre
    refine wp_seq ?_
    repeat (first | simp only [List.nil_append] at h0 | simp only [List.cons_append] at h0 | simp only [List.set_cons_zero] at h0 | simp only [List.set_cons_succ] at h0 | simp only [List.eraseIdx_zero] at h0 | simp only [List.tail_cons] at h0 | simp only [List.eraseIdx_cons_zero] at h0 | simp only [List.eraseIdx_cons_succ] at h0 | simp only [List.setIfInBounds_toArray] at h0)
    refine wp_region_lit ?_
    refine wpList_plainQ rfl (fun K Q' hK => ?_); go_simp
    refine h0.k_alloc (fun w1 h1 => ?_)
    refine hK _ _ ?_; clear hK K; try clear Q'
    refine wpList_plainQ rfl (fun K Q' hK => ?_); go_simp
    refine h1.k_alloc (fun w2 h2 => ?_)
    refine hK _ _ ?_; clear hK K; try clear Q'
    iterate 1 (refine wpList_plainQ rfl (fun K Q' hK => ?_); go_simp; refine hK _ _ ?_; clear hK K; try clear Q')
    refine wpList_nil ?_
    show Code.wp _ _ _ _ _
    refine wp_seq ?_
    refine wp_seq ?_
    repeat (first | simp only [List.nil_append] at h2 | simp only [List.cons_append] at h2 | simp only [List.set_cons_zero] at h2 | simp only [List.set_cons_succ] at h2 | simp only [List.eraseIdx_zero] at h2 | simp only [List.tail_cons] at h2 | simp only [List.eraseIdx_cons_zero] at h2 | simp only [List.eraseIdx_cons_succ] at h2 | simp only [List.setIfInBounds_toArray] at h2)
    refine wp_region_lit ?_
    have c_0_0 := h2.cell 0 rfl 0 rfl
    iterate 4 (refine wpList_plainQ rfl (fun K Q' hK => ?_); go_simp; refine hK _ _ ?_; clear hK K; try clear Q')
    clear c_0_0
    refine wpList_nil ?_
    show Code.wp _ _ _ _ _
    -- stops at: cond
    refine wp_cond_true (rfl) ?_
    refine wp_seq ?_
    refine wp_region_lit ?_
    have c_0_0 := h2.cell 0 rfl 0 rfl
    iterate 1 (refine wpList_plainQ rfl (fun K Q' hK => ?_); go_simp; refine hK _ _ ?_; clear hK K; try clear Q')
    clear c_0_0
    have c_0 := h2.cell 1 rfl 0 rfl
    have f_0 := h2.free 1 rfl 0
    refine wpList_plainQ rfl (fun K Q' hK => ?_); go_simp
    clear c_0 f_0
    refine h2.k_set 1 rfl (fun w3 h3 => ?_)
    refine hK _ _ ?_; clear hK K; try clear Q'
    iterate 1 (refine wpList_plainQ rfl (fun K Q' hK => ?_); go_simp; refine hK _ _ ?_; clear hK K; try clear Q')
    refine wpList_nil ?_
    show Code.wp _ _ _ _ _
    -- stops at: ret
    refine wp_ret ?_
    have r_1_0 := h3.cell 1 rfl 0 rfl
    first | show bodyPost _ _ _ _ _ _ | (simp only [Exit.then]; show bodyPost _ _ _ _ _ _) | (simp only [Exit.inBlock]; show bodyPost _ _ _ _ _ _) | (simp only [Exit.inBlock, Exit.then]; show bodyPost _ _ _ _ _ _) | (simp only [Exit.noGoto, Exit.inBlock, Exit.then]; show bodyPost _ _ _ _ _ _)
    refine bodyPost_ret (v := ?_) ?_ rfl ?_
    rotate_left
    · simp only [results, Tryz.results33]; go_simp; with_reducible rfl
    clear r_1_0
    exact ⟨_, H, rfl, h3.post, hv'⟩
  | cons t0 l0 =>
    have hv' := hv
    obtain ⟨b9, o9, cap9, nn, _, rfl, hnn, _, hn0, hcap, _, _⟩ := hv.cons
    have hnl : Hid ((t0 :: l0).length = nn) := by have := hnn.out; show _ = _; simp; omega
    obtain ⟨t, hm⟩ : ∃ t, Rw.minT kf (t0 :: l0) = some t := by
      cases hm : Rw.minT kf (t0 :: l0) with
      | none => cases Rw.minT_none kf hm
      | some t => exact ⟨t, rfl⟩
    have hat := at_least hm
    have htm := List.mem_of_getElem? hat
    have htsz := size_mem hat
    have hil := (List.getElem?_eq_some_iff.1 hat).1
    obtain ⟨i, hi⟩ : ∃ i, Hid (Rw.least kf (t0 :: l0) = i) := ⟨_, show _ = _ from rfl⟩
    rw [hi.out] at hat hil
    rw [hnl.out] at hil
    obtain ⟨bv, kv, r1, z1, hc, hr1, hz1, hbv, hkv⟩ := hv'.at i hat
    obtain ⟨aB, cB, rfl, _, _⟩ := hbv.nil_or
    obtain ⟨aK, cK, rfl, _, _⟩ := hkv.form
    obtain ⟨kn, hkn⟩ : ∃ m, Hid (t.k.toL.length = m) := ⟨_, show _ = _ from rfl⟩
    obtain ⟨nb, hnb⟩ : ∃ m, Hid (t.b.length = m) := ⟨_, show _ = _ from rfl⟩
    rw [hkn.out] at hc hkv
    rw [hnb.out] at hc
    have hlb : nn < 900000 := by have := hnl.out; have := Rw.length_le (t0 :: l0); omega
    have hknl : kn < 900000 := by
      have h5 := t.k.len_le
      have h6 : t.size = 1 + (t.b.length + t.k.els.length) := by simp [Tr.size, Tr.els]; omega
      have h7 := hkn.out
      rw [RT.toL_length] at h7
      omega
    have hin : (i : Int) < (nn : Int) := by omega
    have hicap : i ≤ cap9 := by omega
    have d1 : ((nn : Int) == 0) = false := beq_eq_false_iff_ne.2 (by omega)
    have ek1 : IntKind.i64.wrap ((kn : Int) - 1) = (kn : Int) - 1 := IntWalk.i64_in _ (by omega)
    obtain ⟨i1, hi1⟩ : ∃ m, Hid (i + 1 = m) := ⟨_, show _ = _ from rfl⟩
    have ei1 : IntKind.i64.wrap ((i : Int) + 1) = (i1 : Int) := by have := hi1.out; rw [IntWalk.i64_in _ (by omega)]; omega
    have hi1n : i1 ≤ nn := by have := hi1.out; omega
    have hi1z : (i1 : Int) ≤ (nn : Int) := by omega
    have hup : RsV H (.slice (some ⟨b9, o9, none⟩) i cap9) ((t0 :: l0).take i) := hv'.upto hnl.out.symm i (by omega)
    obtain ⟨aS, haS⟩ : ∃ a, (if cap9 = i1 then (some ⟨b9, o9, none⟩ : Option Addr) else some ⟨b9, o9 + i1 * 6, none⟩) = a := ⟨_, rfl⟩
    obtain ⟨nS, hnS⟩ : ∃ a, nn - i1 = a := ⟨_, rfl⟩
    obtain ⟨cS, hcS⟩ : ∃ a, cap9 - i1 = a := ⟨_, rfl⟩
    have hfr : RsV H (.slice aS nS cS) ((t0 :: l0).drop i1) := by
      have h1 := hv'.from hnl.out.symm i1 hi1n
      have hi0 : i1 ≠ 0 := by have := hi1.out; omega
      have hadd : (⟨b9, o9, none⟩ : Addr).add (i1 * 6) = ⟨b9, o9 + i1 * 6, none⟩ := by unfold Addr.add; rw [if_neg (by omega)]
      simp only [Option.map_some, hadd] at h1
      rw [haS, hnS, hcS] at h1
      exact h1
    have hlA : ((t0 :: l0).take i).length = i := by rw [List.length_take, hnl.out]; omega
    have hlB : ((t0 :: l0).drop i1).length = nS := by rw [List.length_drop, hnl.out]; exact hnS
    have hnS2 : nS + i < 900000 := by have := hi1.out; omega
    have hers : (t0 :: l0).eraseIdx i = (t0 :: l0).take i ++ (t0 :: l0).drop i1 := by rw [← hi1.out]; exact List.eraseIdx_eq_take_drop_succ _ _
    clear htm hil
    go_enter Tryz.func33, Tryz.ntmps33
    have h0 := St.start hpre
    refine wp_seq ?_
    repeat (first | simp only [List.nil_append] at h0 | simp only [List.cons_append] at h0 | simp only [List.set_cons_zero] at h0 | simp only [List.set_cons_succ] at h0 | simp only [List.eraseIdx_zero] at h0 | simp only [List.tail_cons] at h0 | simp only [List.eraseIdx_cons_zero] at h0 | simp only [List.eraseIdx_cons_succ] at h0 | simp only [List.setIfInBounds_toArray] at h0)
    refine wp_region_lit ?_
    refine wpList_plainQ rfl (fun K Q' hK => ?_); go_simp
    refine h0.k_alloc (fun w1 h1 => ?_)
    refine hK _ _ ?_; clear hK K; try clear Q'
    refine wpList_plainQ rfl (fun K Q' hK => ?_); go_simp
    refine h1.k_alloc (fun w2 h2 => ?_)
    refine hK _ _ ?_; clear hK K; try clear Q'
    iterate 1 (refine wpList_plainQ rfl (fun K Q' hK => ?_); go_simp; refine hK _ _ ?_; clear hK K; try clear Q')
    refine wpList_nil ?_
    show Code.wp _ _ _ _ _
    refine wp_seq ?_
    refine wp_seq ?_
    repeat (first | simp only [List.nil_append] at h2 | simp only [List.cons_append] at h2 | simp only [List.set_cons_zero] at h2 | simp only [List.set_cons_succ] at h2 | simp only [List.eraseIdx_zero] at h2 | simp only [List.tail_cons] at h2 | simp only [List.eraseIdx_cons_zero] at h2 | simp only [List.eraseIdx_cons_succ] at h2 | simp only [List.setIfInBounds_toArray] at h2)
    refine wp_region_lit ?_
    have c_0_0 := h2.cell 0 rfl 0 rfl
    iterate 4 (refine wpList_plainQ rfl (fun K Q' hK => ?_); go_simp; refine hK _ _ ?_; clear hK K; try clear Q')
    clear c_0_0
    refine wpList_nil ?_
    show Code.wp _ _ _ _ _
    -- stops at: cond
    refine wp_cond_false (rfl) ?_
    refine wp_skip ?_
    show Code.wp _ _ _ _ _
    refine wp_seq ?_
    refine wp_region_lit ?_
    have c_0_0 := h2.cell 0 rfl 0 rfl
    iterate 2 (refine wpList_plainQ rfl (fun K Q' hK => ?_); go_simp; refine hK _ _ ?_; clear hK K; try clear Q')
    clear c_0_0
    -- stops at: eff:call (Go.Op.call {'callee': (Go.Callee.value (Go.Operand.func 66)), 'args': [(Go.Operand.tmp 23)], 'argTypes': [33]}) slot 24
    refine wpList_plainQ rfl (fun K Q' hK => ?_); go_simp
    refine (rleast_ok H _ _ t0 l0 h2.fits (by omega) hv').mono ?_
    rintro e wA ⟨rfl, hkA⟩
    rw [hi.out]
    have h3 := h2.callk hkA
    refine hK _ _ ?_; clear hK K; try clear Q'
    iterate 1 (refine wpList_plainQ rfl (fun K Q' hK => ?_); go_simp; refine hK _ _ ?_; clear hK K; try clear Q')
    refine wpList_nil ?_
    show Code.wp _ _ _ _ _
    refine wp_seq ?_
    repeat (first | simp only [List.nil_append] at h3 | simp only [List.cons_append] at h3 | simp only [List.set_cons_zero] at h3 | simp only [List.set_cons_succ] at h3 | simp only [List.eraseIdx_zero] at h3 | simp only [List.tail_cons] at h3 | simp only [List.eraseIdx_cons_zero] at h3 | simp only [List.eraseIdx_cons_succ] at h3 | simp only [List.setIfInBounds_toArray] at h3)
    refine wp_region_lit ?_
    iterate 1 (refine wpList_plainQ rfl (fun K Q' hK => ?_); go_simp; refine hK _ _ ?_; clear hK K; try clear Q')
    refine wpList_nil ?_
    show Code.wp _ _ _ _ _
    refine wp_seq ?_
    refine wp_seq ?_
    refine wp_region_lit ?_
    have c_0_0 := h3.cell 0 rfl 0 rfl
    iterate 5 (refine wpList_plainQ rfl (fun K Q' hK => ?_); go_simp; refine hK _ _ ?_; clear hK K; try clear Q')
    clear c_0_0
    -- stops at: load (Go.Op.load 33 (Go.Operand.tmp 29)) slot 30
    have ce := hc.out _ h3.fits
    obtain ⟨q0, q1, q2, q3, q4, q5⟩ := ce
    iterate 1 (refine wpList_plainQ rfl (fun K Q' hK => ?_); go_simp; refine hK _ _ ?_; clear hK K; try clear Q')
    clear q0 q1 q2 q3 q4 q5
    iterate 3 (refine wpList_plainQ rfl (fun K Q' hK => ?_); go_simp; refine hK _ _ ?_; clear hK K; try clear Q')
    refine wpList_nil ?_
    show Code.wp _ _ _ _ _
    refine wp_block ?_
    -- stops at: loop
    have h80 := h3.row0 103 6
    go_loopw [5, 6] (fun v5 v6 wr => ∃ (j : Nat) (cs : List Value), j ≤ kn ∧ v6 = .int .i64 ((kn : Int) - 1 - (j : Int)) ∧ TV H (RT.ofL (t.k.toL.reverse.take j)) cs ∧ St w H none 0 0 wr H [(w.heap.size, .cells #[.slice (some ⟨b9, o9, none⟩) nn cap9] 35), (w1.heap.size, .cells #[.slice none 0 0] 35)] [⟨v5, 103, 6, j, cs⟩]) (fun _ v6 _ => (intOf v6 + 1).toNat)
    case atStart => exact ⟨0, [], by omega, by simp, rfl, h80⟩
    case round =>
      obtain ⟨j, cs, hj, rfl, hcs, hs⟩ := hrel
      obtain ⟨a5, c5, rfl⟩ := hs.row_form 0 rfl
      clear h80
      by_cases hlt : j < kn
      · obtain ⟨kk, hkk⟩ : ∃ kk : Nat, Hid (kk + j + 1 = kn) := ⟨kn - 1 - j, by show _ = _; omega⟩
        have ev : (kn : Int) - 1 - (j : Int) = (kk : Int) := by have := hkk.out; omega
        rw [ev]
        clear ev
        have hkl : (kk : Int) < (kn : Int) := by have := hkk.out; omega
        obtain ⟨tk, htk⟩ : ∃ s, t.k.toL[kk]? = some s := ⟨t.k.toL[kk]'(by have := hkn.out; omega), by simp⟩
        obtain ⟨bk, ok, ck, ek⟩ : ∃ b o c, (Value.slice aK kn cK) = .slice (some ⟨b, o, none⟩) kn c := by
          obtain ⟨cs', h1, _⟩ := hkv
          rw [hkn.out] at h1
          obtain ⟨b, o, c, e, _⟩ := h1.ne_nil (by omega)
          exact ⟨b, o, c, e⟩
        simp only [Value.slice.injEq, true_and] at ek
        obtain ⟨rfl, rfl⟩ := ek
        obtain ⟨bv2, kv2, r2, z2, hc2, hr2, hz2, hb2, hk2⟩ := hkv.at kk htk
        obtain ⟨aB2, cB2, rfl, _, _⟩ := hb2.nil_or
        obtain ⟨aK2, cK2, rfl, _, _⟩ := hk2.form
        have hone : TV H (RT.ofL [tk]) [.int .i64 (r2 : Int), .int .i64 tk.x.1, .int .i64 tk.x.2, .slice aB2 tk.b.length cB2, .slice aK2 tk.k.toL.length cK2, .int .i64 (z2 : Int)] := TV.push hr2 hz2 hb2 hk2 (l := []) (cs := []) rfl
        have hstep : Hid (t.k.toL.reverse.take (j + 1) = t.k.toL.reverse.take j ++ [tk]) := by
          show _ = _
          rw [List.take_add_one, List.getElem?_reverse (by rw [hkn.out]; omega), hkn.out, show kn - 1 - j = kk by have := hkk.out; omega, htk]
          rfl
        have e8 : IntKind.i64.wrap ((kk : Int) - 1) = (kk : Int) - 1 := IntWalk.i64_in _ (by omega)
        refine wp_seq ?_
        refine wp_seq ?_
        repeat (first | simp only [List.nil_append] at hs | simp only [List.cons_append] at hs | simp only [List.set_cons_zero] at hs | simp only [List.set_cons_succ] at hs | simp only [List.eraseIdx_zero] at hs | simp only [List.tail_cons] at hs | simp only [List.eraseIdx_cons_zero] at hs | simp only [List.eraseIdx_cons_succ] at hs | simp only [List.setIfInBounds_toArray] at hs)
        refine wp_region_lit ?_
        iterate 2 (refine wpList_plainQ rfl (fun K Q' hK => ?_); go_simp; refine hK _ _ ?_; clear hK K; try clear Q')
        refine wpList_nil ?_
        show Code.wp _ _ _ _ _
        -- stops at: cond
        refine wp_cond_true (rfl) ?_
        refine wp_skip ?_
        show Code.wp _ _ _ _ _
        refine wp_seq ?_
        refine wp_block ?_
        refine wp_region_lit ?_
        have c_0_0 := hs.cell 0 rfl 0 rfl
        iterate 6 (refine wpList_plainQ rfl (fun K Q' hK => ?_); go_simp; refine hK _ _ ?_; clear hK K; try clear Q')
        clear c_0_0
        -- stops at: load (Go.Op.load 33 (Go.Operand.tmp 42)) slot 43
        have ce := hc.out _ hs.fits
        obtain ⟨q0, q1, q2, q3, q4, q5⟩ := ce
        iterate 1 (refine wpList_plainQ rfl (fun K Q' hK => ?_); go_simp; refine hK _ _ ?_; clear hK K; try clear Q')
        clear q0 q1 q2 q3 q4 q5
        iterate 2 (refine wpList_plainQ rfl (fun K Q' hK => ?_); go_simp; refine hK _ _ ?_; clear hK K; try clear Q')
        -- stops at: load (Go.Op.load 103 (Go.Operand.tmp 45)) slot 46
        have ce := hc2.out _ hs.fits
        obtain ⟨q0, q1, q2, q3, q4, q5⟩ := ce
        iterate 1 (refine wpList_plainQ rfl (fun K Q' hK => ?_); go_simp; refine hK _ _ ?_; clear hK K; try clear Q')
        clear q0 q1 q2 q3 q4 q5
        refine wpList_plainQ rfl (fun K Q' hK => ?_); go_simp
        refine hs.k_alloc (fun w4 h4 => ?_)
        refine hK _ _ ?_; clear hK K; try clear Q'
        -- stops at: eff:Builtin.append (Go.Op.call {'callee': (Go.Callee.builtin Go.Builtin.append), 'args': [(Go.Operand.tmp 37), (Go.Operand.tmp 47)], 'argTypes': [33, 33]}) slot 48
        refine wpList_plainQ rfl (fun K Q' hK => ?_)
        refine h4.op_append 0 rfl rfl infoTT rfl [.int .i64 (r2 : Int), .int .i64 tk.x.1, .int .i64 tk.x.2, .slice aB2 tk.b.length cB2, .slice aK2 tk.k.toL.length cK2, .int .i64 (z2 : Int)] rfl rfl (h4.newsAt 2 rfl) (by simp [Value.oneCell']) (by omega) (by unfold maxLen; omega) (fun v' wF hF oF hnF => ?_)
        obtain ⟨g', cap', rfl⟩ := hF.row_some 0 rfl (by omega)
        refine hK _ _ ?_; clear hK K; try clear Q'
        iterate 1 (refine wpList_plainQ rfl (fun K Q' hK => ?_); go_simp; refine hK _ _ ?_; clear hK K; try clear Q')
        refine wpList_nil ?_
        show Code.wp _ _ _ _ _
        repeat (first | simp only [List.nil_append] at hF | simp only [List.cons_append] at hF | simp only [List.set_cons_zero] at hF | simp only [List.set_cons_succ] at hF | simp only [List.eraseIdx_zero] at hF | simp only [List.tail_cons] at hF | simp only [List.eraseIdx_cons_zero] at hF | simp only [List.eraseIdx_cons_succ] at hF | simp only [List.setIfInBounds_toArray] at hF)
        refine wp_region_lit ?_
        iterate 3 (refine wpList_plainQ rfl (fun K Q' hK => ?_); go_simp; refine hK _ _ ?_; clear hK K; try clear Q')
        refine wpList_nil ?_
        -- stops at: end ('roundend',)
        show _ ∧ _
        go_roundw
        case rel =>
          refine ⟨j + 1, _, by omega, ?_, ?_, hF.take 2⟩
          · have := hkk.out; exact congrArg (Value.int .i64) (by omega)
          · rw [hstep.out]; exact TV.append hcs hone
        case measure => simp [intOf]
      · obtain rfl : j = kn := by omega
        rw [show (j : Int) - 1 - (j : Int) = -1 by omega]
        have hrev : TV H (RT.ofL t.k.toL.reverse) cs := by
          have h5 := hcs
          rwa [List.take_of_length_le (by rw [List.length_reverse, hkn.out]; omega)] at h5
        clear hcs
        refine wp_seq ?_
        refine wp_seq ?_
        repeat (first | simp only [List.nil_append] at hs | simp only [List.cons_append] at hs | simp only [List.set_cons_zero] at hs | simp only [List.set_cons_succ] at hs | simp only [List.eraseIdx_zero] at hs | simp only [List.tail_cons] at hs | simp only [List.eraseIdx_cons_zero] at hs | simp only [List.eraseIdx_cons_succ] at hs | simp only [List.setIfInBounds_toArray] at hs)
        refine wp_region_lit ?_
        iterate 2 (refine wpList_plainQ rfl (fun K Q' hK => ?_); go_simp; refine hK _ _ ?_; clear hK K; try clear Q')
        refine wpList_nil ?_
        show Code.wp _ _ _ _ _
        -- stops at: cond
        refine wp_cond_false (rfl) ?_
        refine wp_exit ?_
        show Code.wp _ _ _ _ _
        refine wp_seq ?_
        refine wp_region_lit ?_
        iterate 1 (refine wpList_plainQ rfl (fun K Q' hK => ?_); go_simp; refine hK _ _ ?_; clear hK K; try clear Q')
        refine wpList_nil ?_
        show Code.wp _ _ _ _ _
        refine wp_seq ?_
        refine wp_region_lit ?_
        have c_0_0 := hs.cell 0 rfl 0 rfl
        iterate 5 (refine wpList_plainQ rfl (fun K Q' hK => ?_); go_simp; refine hK _ _ ?_; clear hK K; try clear Q')
        clear c_0_0
        -- stops at: eff:Builtin.append (Go.Op.call {'callee': (Go.Callee.builtin Go.Builtin.append), 'args': [(Go.Operand.tmp 49), (Go.Operand.tmp 53)], 'argTypes': [33, 33]}) slot 54
        have h90 := hs.row0 103 6
        refine wpList_plainQ rfl (fun K Q' hK => ?_)
        obtain ⟨csA, hA1, hA2⟩ := hup
        rw [hlA] at hA1
        refine h90.op_append_rep 1 rfl rfl infoTT rfl csA rfl hA1 (TV.one hA2) (by omega) (by unfold maxLen; omega) (fun v1 wB hB => ?_)
        refine hK _ _ ?_; clear hK K; try clear Q'
        simp only [Nat.zero_add, List.nil_append] at hB
        obtain ⟨aV, cV, rfl⟩ := hB.row_form 1 rfl
        iterate 1 (refine wpList_plainQ rfl (fun K Q' hK => ?_); go_simp; refine hK _ _ ?_; clear hK K; try clear Q')
        refine wpList_nil ?_
        show Code.wp _ _ _ _ _
        refine wp_seq ?_
        repeat (first | simp only [List.nil_append] at hB | simp only [List.cons_append] at hB | simp only [List.set_cons_zero] at hB | simp only [List.set_cons_succ] at hB | simp only [List.eraseIdx_zero] at hB | simp only [List.tail_cons] at hB | simp only [List.eraseIdx_cons_zero] at hB | simp only [List.eraseIdx_cons_succ] at hB | simp only [List.setIfInBounds_toArray] at hB)
        refine wp_region_lit ?_
        have c_0_0 := hB.cell 0 rfl 0 rfl
        iterate 6 (refine wpList_plainQ rfl (fun K Q' hK => ?_); go_simp; refine hK _ _ ?_; clear hK K; try clear Q')
        clear c_0_0
        -- stops at: eff:Builtin.append (Go.Op.call {'callee': (Go.Callee.builtin Go.Builtin.append), 'args': [(Go.Operand.tmp 55), (Go.Operand.tmp 60)], 'argTypes': [33, 33]}) slot 61
        refine wpList_plainQ rfl (fun K Q' hK => ?_)
        obtain ⟨csB, hB1, hB2⟩ := hfr
        rw [hlB] at hB1
        refine hB.op_append_rep 1 rfl rfl infoTT rfl csB rfl hB1 (TV.one hB2) (by omega) (by unfold maxLen; omega) (fun v2 wC hC => ?_)
        refine hK _ _ ?_; clear hK K; try clear Q'
        obtain ⟨aW, cW, rfl⟩ := hC.row_form 1 rfl
        obtain ⟨H6, h6, rK, leK⟩ := hC.settleRow 0 rfl
        obtain ⟨H7, h7, rR, leR⟩ := h6.settleRow 0 rfl
        have le7 : H.le H7 := leK.trans leR
        have hkids : RsV H7 (.slice a5 j c5) t.k.toL.reverse := ⟨cs, by rw [List.length_reverse, hkn.out]; exact rK.mono leR, hrev.mono le7⟩
        have hrest : RsV H7 (.slice aW (i + nS) cW) ((t0 :: l0).eraseIdx i) := by
          rw [hers]
          refine ⟨csA ++ csB, ?_, TV.append (hA2.mono le7) (hB2.mono le7)⟩
          rw [List.length_append, hlA, hlB]
          exact rR
        obtain ⟨n7, hn7⟩ : ∃ m, Hid (i + nS = m) := ⟨_, show _ = _ from rfl⟩
        rw [hn7.out] at hrest ⊢
        have hesz : Rw.size ((t0 :: l0).eraseIdx i) + t.size = Rw.size (t0 :: l0) := by
          have h5 := (Rw.els_perm (Rw.minT_perm kf hm)).length_eq
          rw [hi.out, Rw.els_cons, List.length_append] at h5
          show (Rw.els _).length + t.els.length = (Rw.els _).length
          omega
        have hksz : Rw.size t.k.toL.reverse ≤ t.size := by
          have h5 : (Rw.els t.k.toL.reverse).length = t.k.els.length := by
            have h6 := (Rw.els_perm (List.reverse_perm t.k.toL)).length_eq
            rw [h6, Rw.toL_els]
          have h6 : t.size = 1 + (t.b.length + t.k.els.length) := by simp [Tr.size, Tr.els]; omega
          show (Rw.els _).length ≤ _
          omega
        iterate 1 (refine wpList_plainQ rfl (fun K Q' hK => ?_); go_simp; refine hK _ _ ?_; clear hK K; try clear Q')
        refine wpList_nil ?_
        show Code.wp _ _ _ _ _
        refine wp_seq ?_
        repeat (first | simp only [List.nil_append] at h7 | simp only [List.cons_append] at h7 | simp only [List.set_cons_zero] at h7 | simp only [List.set_cons_succ] at h7 | simp only [List.eraseIdx_zero] at h7 | simp only [List.tail_cons] at h7 | simp only [List.eraseIdx_cons_zero] at h7 | simp only [List.eraseIdx_cons_succ] at h7 | simp only [List.setIfInBounds_toArray] at h7)
        refine wp_region_lit ?_
        iterate 1 (refine wpList_plainQ rfl (fun K Q' hK => ?_); go_simp; refine hK _ _ ?_; clear hK K; try clear Q')
        -- stops at: eff:call (Go.Op.call {'callee': (Go.Callee.value (Go.Operand.func 57)), 'args': [(Go.Operand.tmp 63)], 'argTypes': [33]}) slot 64
        obtain ⟨ers, her⟩ : ∃ e, Hid ((t0 :: l0).eraseIdx i = e) := ⟨_, show _ = _ from rfl⟩
        rw [her.out] at hrest hesz
        obtain ⟨X0, hX0⟩ : ∃ x, Hid (Rw.meld kf t.k.toL.reverse (Sk.level kf ers) = x) := ⟨_, show _ = _ from rfl⟩
        obtain ⟨ln, hln⟩ : ∃ m, Hid (2 * Sk.levelN kf ers = m) := ⟨_, show _ = _ from rfl⟩
        obtain ⟨mn, hmn⟩ : ∃ m, Hid (2 * Rw.meldN kf t.k.toL.reverse (Sk.level kf ers) = m) := ⟨_, show _ = _ from rfl⟩
        obtain ⟨pn, hpn⟩ : ∃ m, Hid (nn - 1 = m) := ⟨_, show _ = _ from rfl⟩
        obtain ⟨s1, hs1⟩ : ∃ m, Hid (pn + ln = m) := ⟨_, show _ = _ from rfl⟩
        obtain ⟨s2, hs2⟩ : ∃ m, Hid (s1 + mn = m) := ⟨_, show _ = _ from rfl⟩
        have hsz9 : Rw.size ers + t.size < 900000 := by omega
        have hlevsz := Sk.level_size kf ers
        have hbnd : ln + mn ≤ 8000000 := by
          have h1 := Sk.level_len kf ers
          have h2 := Rw.meld_length kf t.k.toL.reverse (Sk.level kf ers)
          have h3 := Rw.length_le ers
          have h4 := Rw.length_le t.k.toL.reverse
          have := hln.out
          have := hmn.out
          omega
        have e1 : IntKind.i64.wrap ((nn : Int) - 1) = (pn : Int) := by have := hpn.out; rw [IntWalk.i64_in _ (by omega)]; omega
        have e2 : IntKind.i64.wrap ((pn : Int) + (ln : Int)) = (s1 : Int) := by have := hs1.out; have := hpn.out; rw [IntWalk.i64_in _ (by omega)]; omega
        have e3 : IntKind.i64.wrap ((s1 : Int) + (mn : Int)) = (s2 : Int) := by have := hs2.out; have := hs1.out; have := hpn.out; rw [IntWalk.i64_in _ (by omega)]; omega
        have hs2l : s2 ≤ 9000000 := by have := hs2.out; have := hs1.out; have := hpn.out; omega
        have hX0sz : Rw.size X0 + nb < 900000 := by
          have h5 : Rw.size X0 = Rw.size t.k.toL.reverse + Rw.size ers := by rw [← hX0.out, Rw.meld_size, hlevsz]
          have h6 : Rw.size t.k.toL.reverse + nb < t.size := by
            have h7 : (Rw.els t.k.toL.reverse).length = t.k.els.length := by rw [(Rw.els_perm (List.reverse_perm t.k.toL)).length_eq, Rw.toL_els]
            have h8 : t.size = 1 + (t.b.length + t.k.els.length) := by simp [Tr.size, Tr.els]; omega
            have h9 := hnb.out
            show (Rw.els _).length + _ < _
            omega
          omega
        rw [hnb.out] at hbv
        refine wpList_plainQ rfl (fun K Q' hK => ?_); go_simp
        refine (rlevel_ok H7 _ _ ers h7.fits (by omega) hrest).mono ?_
        rintro e wL ⟨rL, H8, rfl, hpL, hL⟩
        rw [hln.out]
        obtain ⟨aL, cL, rfl, _, _⟩ := hL.form
        have h5 := h7.call0 hpL
        refine hK _ _ ?_; clear hK K; try clear Q'
        iterate 5 (refine wpList_plainQ rfl (fun K Q' hK => ?_); go_simp; refine hK _ _ ?_; clear hK K; try clear Q')
        refine wpList_nil ?_
        show Code.wp _ _ _ _ _
        refine wp_seq ?_
        repeat (first | simp only [List.nil_append] at h5 | simp only [List.cons_append] at h5 | simp only [List.set_cons_zero] at h5 | simp only [List.set_cons_succ] at h5 | simp only [List.eraseIdx_zero] at h5 | simp only [List.tail_cons] at h5 | simp only [List.eraseIdx_cons_zero] at h5 | simp only [List.eraseIdx_cons_succ] at h5 | simp only [List.setIfInBounds_toArray] at h5)
        refine wp_region_lit ?_
        iterate 2 (refine wpList_plainQ rfl (fun K Q' hK => ?_); go_simp; refine hK _ _ ?_; clear hK K; try clear Q')
        -- stops at: eff:call (Go.Op.call {'callee': (Go.Callee.value (Go.Operand.func 58)), 'args': [(Go.Operand.tmp 68), (Go.Operand.tmp 69)], 'argTypes': [33, 33]}) slot 70
        refine wpList_plainQ rfl (fun K Q' hK => ?_); go_simp
        refine (rtrees_ok _ _ H8 _ _ _ h5.fits (by omega) (hkids.mono hpL.le) hL).mono ?_
        rintro e wT ⟨rT, H9, rfl, hpT, hT⟩
        rw [hmn.out]
        rw [hX0.out] at hT
        obtain ⟨aT, cT, rfl, _, _⟩ := hT.form
        have h6 := h5.call0 hpT
        refine hK _ _ ?_; clear hK K; try clear Q'
        iterate 5 (refine wpList_plainQ rfl (fun K Q' hK => ?_); go_simp; refine hK _ _ ?_; clear hK K; try clear Q')
        refine wpList_nil ?_
        show Code.wp _ _ _ _ _
        refine wp_seq ?_
        repeat (first | simp only [List.nil_append] at h6 | simp only [List.cons_append] at h6 | simp only [List.set_cons_zero] at h6 | simp only [List.set_cons_succ] at h6 | simp only [List.eraseIdx_zero] at h6 | simp only [List.tail_cons] at h6 | simp only [List.eraseIdx_cons_zero] at h6 | simp only [List.eraseIdx_cons_succ] at h6 | simp only [List.setIfInBounds_toArray] at h6)
        refine wp_region_lit ?_
        iterate 2 (refine wpList_plainQ rfl (fun K Q' hK => ?_); go_simp; refine hK _ _ ?_; clear hK K; try clear Q')
        refine wpList_plainQ rfl (fun K Q' hK => ?_); go_simp
        refine h6.k_alloc (fun w7 h7 => ?_)
        refine hK _ _ ?_; clear hK K; try clear Q'
        have c_0 := h7.cell 2 rfl 0 rfl
        have f_0 := h7.free 2 rfl 0
        refine wpList_plainQ rfl (fun K Q' hK => ?_); go_simp
        clear c_0 f_0
        refine h7.k_set 2 rfl (fun w8 h8 => ?_)
        refine hK _ _ ?_; clear hK K; try clear Q'
        refine wpList_nil ?_
        show Code.wp _ _ _ _ _
        refine wp_seq ?_
        repeat (first | simp only [List.nil_append] at h8 | simp only [List.cons_append] at h8 | simp only [List.set_cons_zero] at h8 | simp only [List.set_cons_succ] at h8 | simp only [List.eraseIdx_zero] at h8 | simp only [List.tail_cons] at h8 | simp only [List.eraseIdx_cons_zero] at h8 | simp only [List.eraseIdx_cons_succ] at h8 | simp only [List.setIfInBounds_toArray] at h8)
        refine wp_region_lit ?_
        have c_0_0 := h8.cell 0 rfl 0 rfl
        iterate 9 (refine wpList_plainQ rfl (fun K Q' hK => ?_); go_simp; refine hK _ _ ?_; clear hK K; try clear Q')
        clear c_0_0
        refine wpList_nil ?_
        show Code.wp _ _ _ _ _
        refine wp_seq ?_
        refine wp_seq ?_
        refine wp_region_lit ?_
        iterate 1 (refine wpList_plainQ rfl (fun K Q' hK => ?_); go_simp; refine hK _ _ ?_; clear hK K; try clear Q')
        refine wpList_nil ?_
        show Code.wp _ _ _ _ _
        refine wp_block ?_
        -- stops at: loop
        go_loopw [13, 14] (fun v13 v14 wr => ∃ (j sn : Nat) (X : List (Tr El)) (q : Value) (H' : GH), j ≤ nb ∧ v14 = .int .i64 j ∧ v13 = .int .i64 sn ∧ Hid (X = Sk.inserts kf X0 (t.b.take j)) ∧ Hid (sn = s2 + (Sk.insertsC kf X0 (t.b.take j) + Sk.insertsD kf X0 (t.b.take j))) ∧ RsV H' q X ∧ St w H none 0 0 wr H' [(w.heap.size, .cells #[.slice (some ⟨b9, o9, none⟩) nn cap9] 35), (w1.heap.size, .cells #[.slice none 0 0] 35), (wT.heap.size, .cells #[q] 35)] []) (fun _ v14 _ => nb - (intOf v14).toNat)
        case atStart => exact ⟨0, s2, X0, _, H9, by omega, rfl, rfl, rfl, rfl, hT, h8⟩
        case round =>
          clear hs
          obtain ⟨j2, sn, X, q, H10, hj2, rfl, rfl, hX, hsn, hq, hs⟩ := hrel
          obtain ⟨aq, cq, rfl, _, _⟩ := hq.form
          have hleX := hs.le
          have hXsz : Rw.size X < 900000 := by rw [hX.out, Sk.inserts_size, List.length_take]; omega
          have hsnl : sn ≤ 20000000 := by have h5 := Sk.inserts_steps kf (t.b.take j2) X0; rw [List.length_take] at h5; have := hsn.out; omega
          by_cases hlt2 : j2 < nb
          · obtain ⟨b8, o8, cap8, e8, _⟩ := hbv.ne_nil (by omega)
            simp only [Value.slice.injEq, true_and] at e8
            obtain ⟨rfl, rfl⟩ := e8
            obtain ⟨y, hy⟩ : ∃ y, t.b[j2]? = some y := ⟨t.b[j2]'(by have := hnb.out; omega), by simp⟩
            obtain ⟨cy1, cy2⟩ := elRep_cells hbv (k := j2) (a := y) hy
            have hst4 := Sk.insert_steps X
            obtain ⟨ic, hic⟩ : ∃ m, Hid (Sk.insC X + Sk.insD X = m) := ⟨_, show _ = _ from rfl⟩
            rw [hic.out] at hst4
            obtain ⟨sn2, hsn2⟩ : ∃ m, Hid (sn + ic = m) := ⟨_, show _ = _ from rfl⟩
            have e5 : IntKind.i64.wrap ((sn : Int) + (ic : Int)) = (sn2 : Int) := by have := hsn2.out; rw [IntWalk.i64_in _ (by omega)]; omega
            have e6 : IntKind.i64.wrap ((j2 : Int) + 1) = (j2 : Int) + 1 := IntWalk.i64_in _ (by omega)
            have htk : Hid (t.b.take (j2 + 1) = t.b.take j2 ++ [y]) := by show _ = _; rw [List.take_add_one, hy]; rfl
            refine wp_seq ?_
            refine wp_seq ?_
            repeat (first | simp only [List.nil_append] at hs | simp only [List.cons_append] at hs | simp only [List.set_cons_zero] at hs | simp only [List.set_cons_succ] at hs | simp only [List.eraseIdx_zero] at hs | simp only [List.tail_cons] at hs | simp only [List.eraseIdx_cons_zero] at hs | simp only [List.eraseIdx_cons_succ] at hs | simp only [List.setIfInBounds_toArray] at hs)
            refine wp_region_lit ?_
            have c_0_0 := hs.cell 0 rfl 0 rfl
            iterate 6 (refine wpList_plainQ rfl (fun K Q' hK => ?_); go_simp; refine hK _ _ ?_; clear hK K; try clear Q')
            clear c_0_0
            -- stops at: load (Go.Op.load 39 (Go.Operand.tmp 88)) slot 89
            have ce := hc.out _ (hs.fits.le hs.le)
            obtain ⟨q0, q1, q2, q3, q4, q5⟩ := ce
            iterate 1 (refine wpList_plainQ rfl (fun K Q' hK => ?_); go_simp; refine hK _ _ ?_; clear hK K; try clear Q')
            clear q0 q1 q2 q3 q4 q5
            iterate 2 (refine wpList_plainQ rfl (fun K Q' hK => ?_); go_simp; refine hK _ _ ?_; clear hK K; try clear Q')
            refine wpList_nil ?_
            show Code.wp _ _ _ _ _
            -- stops at: cond
            refine wp_cond_true (rfl) ?_
            refine wp_skip ?_
            show Code.wp _ _ _ _ _
            refine wp_seq ?_
            refine wp_block ?_
            refine wp_seq ?_
            refine hs.regionT [0, 2] (.one 0 true (.one 1 true (.one 2 true (.one 3 true (.one 4 true (.one 5 true (.one 6 true (.one 7 true (.one 8 true (.one 9 true (.two (.one 10 false (.one 11 true (.one 12 true (.one 13 true (.one 14 false (.one 15 false (.one 16 true .nil))))))) (.one 14 false (.one 10 false (.one 11 true (.one 12 true (.one 13 true (.one 15 false (.one 16 true .nil)))))))))))))))))) (by as_aux_lemma => kernel_rfl) (by as_aux_lemma => kernel_rfl) (fun w9 h9 => ?_)
            refine wpT_hide (fun _ _ d _ _ h => by cases d <;> exact h) (fun QR hQn hQp => ?_)
            dsimp only [OT.ops, List.getD_cons_zero, List.getD_cons_succ]
            iterate 5 (refine wpT_quiet (v := ?_) rfl (fun _ _ _ => hQp _ _ _ _ _) ?_ ?_; rotate_left; (intro w' hS; have c_0_0 := hS.cell 0 rfl 0 rfl; (first | (go_simp; done) | (go_simp; with_reducible rfl))); simp only [Act.put, List.setIfInBounds_toArray])
            -- stops at: load (Go.Op.load 39 (Go.Operand.tmp 99)) slot 100
            iterate 1 (refine wpT_quiet (v := ?_) rfl (fun _ _ _ => hQp _ _ _ _ _) ?_ ?_; rotate_left; (intro w' hS; obtain ⟨q0, q1, q2, q3, q4, q5⟩ := hc.out _ (hS.1.le hleX); (first | (go_simp; done) | (go_simp; with_reducible rfl))); simp only [Act.put])
            iterate 2 (refine wpT_quiet (v := ?_) rfl (fun _ _ _ => hQp _ _ _ _ _) ?_ ?_; rotate_left; (intro w' hS; (first | (go_simp; done) | (go_simp; with_reducible rfl))); simp only [Act.put])
            -- stops at: load (Go.Op.load 32 (Go.Operand.tmp 102)) slot 103
            iterate 1 (refine wpT_quiet (v := ?_) rfl (fun _ _ _ => hQp _ _ _ _ _) ?_ ?_; rotate_left; (intro w' hS; have ce := cy1.out _ (hS.1.le hleX); have ce2 := cy2.out _ (hS.1.le hleX); (first | (go_simp; done) | (go_simp; with_reducible rfl))); simp only [Act.put])
            iterate 1 (refine wpT_quiet (v := ?_) rfl (fun _ _ _ => hQp _ _ _ _ _) ?_ ?_; rotate_left; (intro w' hS; have c_2_0 := hS.cell 1 rfl 0 rfl; (first | (go_simp; done) | (go_simp; with_reducible rfl))); simp only [Act.put])
            refine wpT_two ?_ ?_
            -- stops at: fork 
            · skip
              -- stops at: eff:call (Go.Op.call {'callee': (Go.Callee.value (Go.Operand.func 27)), 'args': [(Go.Operand.tmp 103), (Go.Operand.tmp 104)], 'argTypes': [32, 35]}) slot 105
              refine wpT_effQ rfl (fun K Q' hK => ?_); go_simp
              refine (r9insert_ok H10 _ y _ X h9.fits hXsz hq).mono ?_
              rintro e wI ⟨qI, H11, rfl, hpI, hI⟩
              rw [hic.out]
              obtain ⟨aI, cI, rfl, _, _⟩ := hI.form
              have h10 := h9.call0 hpI
              refine hK _ _ (h10.sat' hpI.le [0, 2] (by kernel_rfl)) ?_; clear hK K; try clear Q'
              iterate 3 (refine wpT_quiet (v := ?_) rfl (fun _ _ _ => hQp _ _ _ _ _) ?_ ?_; rotate_left; (intro w' hS; (first | (go_simp; done) | (go_simp; with_reducible rfl))); simp only [Act.put, List.setIfInBounds_toArray])
              refine wpT_effQ rfl (fun K Q' hK => ?_); go_simp
              refine h10.k_alloc (fun w11 h11 => ?_)
              refine hK _ _ (h11.sat' hpI.le [0, 2] (by kernel_rfl)) ?_; clear hK K; try clear Q'
              have c_0 := h11.cell 3 rfl 0 rfl
              have f_0 := h11.free 3 rfl 0
              refine wpT_effQ rfl (fun K Q' hK => ?_); go_simp
              clear c_0 f_0
              refine h11.k_set 3 rfl (fun w12 h12 => ?_)
              refine hK _ _ (h12.sat' hpI.le [0, 2] (by kernel_rfl)) ?_; clear hK K; try clear Q'
              iterate 1 (refine wpT_quiet (v := ?_) rfl (fun _ _ _ => hQp _ _ _ _ _) ?_ ?_; rotate_left; (intro w' hS; (first | (go_simp; done) | (go_simp; with_reducible rfl))); simp only [Act.put, List.setIfInBounds_toArray])
              refine wpT_nil (hQn _ _ ?_); clear hQn hQp QR
              show Code.wp _ _ _ _ _
              refine wp_seq ?_
              repeat (first | simp only [List.nil_append] at h12 | simp only [List.cons_append] at h12 | simp only [List.set_cons_zero] at h12 | simp only [List.set_cons_succ] at h12 | simp only [List.eraseIdx_zero] at h12 | simp only [List.tail_cons] at h12 | simp only [List.eraseIdx_cons_zero] at h12 | simp only [List.eraseIdx_cons_succ] at h12 | simp only [List.setIfInBounds_toArray] at h12)
              refine wp_region_lit ?_
              have c_3_0 := h12.cell 3 rfl 0 rfl
              iterate 1 (refine wpList_plainQ rfl (fun K Q' hK => ?_); go_simp; refine hK _ _ ?_; clear hK K; try clear Q')
              clear c_3_0
              have c_0 := h12.cell 2 rfl 0 rfl
              have f_0 := h12.free 2 rfl 0
              refine wpList_plainQ rfl (fun K Q' hK => ?_); go_simp
              clear c_0 f_0
              refine h12.k_set 2 rfl (fun w13 h13 => ?_)
              refine hK _ _ ?_; clear hK K; try clear Q'
              refine wpList_nil ?_
              show Code.wp _ _ _ _ _
              repeat (first | simp only [List.nil_append] at h13 | simp only [List.cons_append] at h13 | simp only [List.set_cons_zero] at h13 | simp only [List.set_cons_succ] at h13 | simp only [List.eraseIdx_zero] at h13 | simp only [List.tail_cons] at h13 | simp only [List.eraseIdx_cons_zero] at h13 | simp only [List.eraseIdx_cons_succ] at h13 | simp only [List.setIfInBounds_toArray] at h13)
              refine wp_region_lit ?_
              iterate 4 (refine wpList_plainQ rfl (fun K Q' hK => ?_); go_simp; refine hK _ _ ?_; clear hK K; try clear Q')
              refine wpList_nil ?_
              show Code.wp _ _ _ _ _
              refine wp_region_lit ?_
              iterate 3 (refine wpList_plainQ rfl (fun K Q' hK => ?_); go_simp; refine hK _ _ ?_; clear hK K; try clear Q')
              refine wpList_nil ?_
              -- stops at: end ('roundend',)
              show _ ∧ _
              go_roundw
              case rel =>
                refine ⟨j2 + 1, sn2, Sk.insert kf y X, _, H11, by omega, by simp, rfl, ?_, ?_, hI, h13.take 3⟩
                · show _ = _; rw [htk.out, Sk.inserts_snoc, ← hX.out]
                · show _ = _; rw [htk.out, Sk.insertsC_snoc, Sk.insertsD_snoc, ← hX.out]; have := hsn.out; have := hsn2.out; have := hic.out; omega
              case measure => simp [intOf]; omega
            · skip
              refine wpT_effQ rfl (fun K Q' hK => ?_); go_simp
              refine h9.k_alloc (fun w14 h14 => ?_)
              refine hK _ _ (h14.sat' (GH.le_refl _) [0, 2] (by kernel_rfl)) ?_; clear hK K; try clear Q'
              -- stops at: eff:call (Go.Op.call {'callee': (Go.Callee.value (Go.Operand.func 27)), 'args': [(Go.Operand.tmp 103), (Go.Operand.tmp 104)], 'argTypes': [32, 35]}) slot 105
              refine wpT_effQ rfl (fun K Q' hK => ?_); go_simp
              refine (r9insert_ok H10 _ y _ X h14.fits hXsz hq).mono ?_
              rintro e wI ⟨qI, H11, rfl, hpI, hI⟩
              rw [hic.out]
              obtain ⟨aI, cI, rfl, _, _⟩ := hI.form
              have h15 := h14.call0 hpI
              refine hK _ _ (h15.sat' hpI.le [0, 2] (by kernel_rfl)) ?_; clear hK K; try clear Q'
              iterate 3 (refine wpT_quiet (v := ?_) rfl (fun _ _ _ => hQp _ _ _ _ _) ?_ ?_; rotate_left; (intro w' hS; (first | (go_simp; done) | (go_simp; with_reducible rfl))); simp only [Act.put, List.setIfInBounds_toArray])
              have c_0 := h15.cell 3 rfl 0 rfl
              have f_0 := h15.free 3 rfl 0
              refine wpT_effQ rfl (fun K Q' hK => ?_); go_simp
              clear c_0 f_0
              refine h15.k_set 3 rfl (fun w16 h16 => ?_)
              refine hK _ _ (h16.sat' hpI.le [0, 2] (by kernel_rfl)) ?_; clear hK K; try clear Q'
              iterate 1 (refine wpT_quiet (v := ?_) rfl (fun _ _ _ => hQp _ _ _ _ _) ?_ ?_; rotate_left; (intro w' hS; (first | (go_simp; done) | (go_simp; with_reducible rfl))); simp only [Act.put, List.setIfInBounds_toArray])
              refine wpT_nil (hQn _ _ ?_); clear hQn hQp QR
              show Code.wp _ _ _ _ _
              refine wp_seq ?_
              repeat (first | simp only [List.nil_append] at h16 | simp only [List.cons_append] at h16 | simp only [List.set_cons_zero] at h16 | simp only [List.set_cons_succ] at h16 | simp only [List.eraseIdx_zero] at h16 | simp only [List.tail_cons] at h16 | simp only [List.eraseIdx_cons_zero] at h16 | simp only [List.eraseIdx_cons_succ] at h16 | simp only [List.setIfInBounds_toArray] at h16)
              refine wp_region_lit ?_
              have c_3_0 := h16.cell 3 rfl 0 rfl
              iterate 1 (refine wpList_plainQ rfl (fun K Q' hK => ?_); go_simp; refine hK _ _ ?_; clear hK K; try clear Q')
              clear c_3_0
              have c_0 := h16.cell 2 rfl 0 rfl
              have f_0 := h16.free 2 rfl 0
              refine wpList_plainQ rfl (fun K Q' hK => ?_); go_simp
              clear c_0 f_0
              refine h16.k_set 2 rfl (fun w17 h17 => ?_)
              refine hK _ _ ?_; clear hK K; try clear Q'
              refine wpList_nil ?_
              show Code.wp _ _ _ _ _
              repeat (first | simp only [List.nil_append] at h17 | simp only [List.cons_append] at h17 | simp only [List.set_cons_zero] at h17 | simp only [List.set_cons_succ] at h17 | simp only [List.eraseIdx_zero] at h17 | simp only [List.tail_cons] at h17 | simp only [List.eraseIdx_cons_zero] at h17 | simp only [List.eraseIdx_cons_succ] at h17 | simp only [List.setIfInBounds_toArray] at h17)
              refine wp_region_lit ?_
              iterate 4 (refine wpList_plainQ rfl (fun K Q' hK => ?_); go_simp; refine hK _ _ ?_; clear hK K; try clear Q')
              refine wpList_nil ?_
              show Code.wp _ _ _ _ _
              refine wp_region_lit ?_
              iterate 3 (refine wpList_plainQ rfl (fun K Q' hK => ?_); go_simp; refine hK _ _ ?_; clear hK K; try clear Q')
              refine wpList_nil ?_
              -- stops at: end ('roundend',)
              show _ ∧ _
              go_roundw
              case rel =>
                refine ⟨j2 + 1, sn2, Sk.insert kf y X, _, H11, by omega, by simp, rfl, ?_, ?_, hI, h17.take 3⟩
                · show _ = _; rw [htk.out, Sk.inserts_snoc, ← hX.out]
                · show _ = _; rw [htk.out, Sk.insertsC_snoc, Sk.insertsD_snoc, ← hX.out]; have := hsn.out; have := hsn2.out; have := hic.out; omega
              case measure => simp [intOf]; omega
          · obtain rfl : j2 = nb := by omega
            have hpop := Sk.pop_some kf hm
            rw [hi.out, her.out] at hpop
            have hX9 : Sk.pop kf (t0 :: l0) = X := by
              rw [hpop, hX.out, List.take_of_length_le (by rw [hnb.out]; omega)]
              show Sk.inserts kf (Rw.meld kf t.k.toL.reverse (Sk.level kf ers)) t.b = _
              rw [hX0.out]
            have hcd : Sk.popC kf (t0 :: l0) + Sk.popD kf (t0 :: l0) = sn := by
              unfold Sk.popC Sk.popD
              rw [hm]
              simp only
              rw [hi.out, her.out]
              have h5 := hsn.out
              rw [List.take_of_length_le (by rw [hnb.out]; omega)] at h5
              have h6 : Sk.after kf t ers = X0 := hX0.out
              have h7 : 2 * Sk.afterN kf t ers = ln + mn := by unfold Sk.afterN; have := hln.out; have := hmn.out; omega
              rw [h6]
              have h8 := hnl.out
              have := hs2.out
              have := hs1.out
              have := hpn.out
              omega
            refine wp_seq ?_
            refine wp_seq ?_
            repeat (first | simp only [List.nil_append] at hs | simp only [List.cons_append] at hs | simp only [List.set_cons_zero] at hs | simp only [List.set_cons_succ] at hs | simp only [List.eraseIdx_zero] at hs | simp only [List.tail_cons] at hs | simp only [List.eraseIdx_cons_zero] at hs | simp only [List.eraseIdx_cons_succ] at hs | simp only [List.setIfInBounds_toArray] at hs)
            refine wp_region_lit ?_
            have c_0_0 := hs.cell 0 rfl 0 rfl
            iterate 6 (refine wpList_plainQ rfl (fun K Q' hK => ?_); go_simp; refine hK _ _ ?_; clear hK K; try clear Q')
            clear c_0_0
            -- stops at: load (Go.Op.load 39 (Go.Operand.tmp 88)) slot 89
            have ce := hc.out _ (hs.fits.le hs.le)
            obtain ⟨q0, q1, q2, q3, q4, q5⟩ := ce
            iterate 1 (refine wpList_plainQ rfl (fun K Q' hK => ?_); go_simp; refine hK _ _ ?_; clear hK K; try clear Q')
            clear q0 q1 q2 q3 q4 q5
            iterate 2 (refine wpList_plainQ rfl (fun K Q' hK => ?_); go_simp; refine hK _ _ ?_; clear hK K; try clear Q')
            refine wpList_nil ?_
            show Code.wp _ _ _ _ _
            -- stops at: cond
            refine wp_cond_false (rfl) ?_
            refine wp_exit ?_
            show Code.wp _ _ _ _ _
            refine wp_seq ?_
            refine wp_region_lit ?_
            have c_2_0 := hs.cell 2 rfl 0 rfl
            iterate 2 (refine wpList_plainQ rfl (fun K Q' hK => ?_); go_simp; refine hK _ _ ?_; clear hK K; try clear Q')
            clear c_2_0
            have c_0 := hs.cell 1 rfl 0 rfl
            have f_0 := hs.free 1 rfl 0
            refine wpList_plainQ rfl (fun K Q' hK => ?_); go_simp
            clear c_0 f_0
            refine hs.k_set 1 rfl (fun w18 h18 => ?_)
            refine hK _ _ ?_; clear hK K; try clear Q'
            iterate 1 (refine wpList_plainQ rfl (fun K Q' hK => ?_); go_simp; refine hK _ _ ?_; clear hK K; try clear Q')
            refine wpList_nil ?_
            show Code.wp _ _ _ _ _
            -- stops at: ret
            refine wp_ret ?_
            have r_1_0 := h18.cell 1 rfl 0 rfl
            first | show bodyPost _ _ _ _ _ _ | (simp only [Exit.then]; show bodyPost _ _ _ _ _ _) | (simp only [Exit.inBlock]; show bodyPost _ _ _ _ _ _) | (simp only [Exit.inBlock, Exit.then]; show bodyPost _ _ _ _ _ _) | (simp only [Exit.noGoto, Exit.inBlock, Exit.then]; show bodyPost _ _ _ _ _ _)
            refine bodyPost_ret (v := ?_) ?_ rfl ?_
            rotate_left
            · simp only [results, Tryz.results33]; go_simp; with_reducible rfl
            clear r_1_0
            refine ⟨_, H10, ?_, h18.post, by rw [hX9]; exact hq⟩
            rw [hcd]
end Go.Proofs.YteigmfkkeofcaaaGreatDoor
