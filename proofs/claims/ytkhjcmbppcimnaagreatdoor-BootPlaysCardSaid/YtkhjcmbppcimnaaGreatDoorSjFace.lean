/-
The document's rows of trees of heaps: taking out.
-/
import Derived.Test.YtkhjcmbppcimnaaGreatDoorTeIns
import Derived.Test.YtkhjcmbppcimnaaGreatDoorOoBoot
import Derived.Test.YtkhjcmbppcimnaaGreatDoorOpBoot
import Derived.Test.YtkhjcmbppcimnaaGreatDoorOqBoot
import Derived.Test.YtkhjcmbppcimnaaGreatDoorScText
import Derived.Test.YtkhjcmbppcimnaaGreatDoorPaHeap
import Derived.Test.YtkhjcmbppcimnaaGreatDoorQbPlain
namespace Go.Proofs.YtkhjcmbppcimnaaGreatDoor
open Go Go.RowKit
set_option linter.unusedVariables false

/-! ### Rows cut -/
theorem TW.drop {H : GH} : ∀ (l : List (Tr Vp)) (cs : List Value) (k : Nat), TW H (RT.ofL l) cs → TW H (RT.ofL (l.drop k)) (cs.drop (k * 4)) := by
  intro l
  induction l with
  | nil => intro cs k h; obtain rfl : cs = [] := h; simp; exact (show TW H .nil [] from rfl)
  | cons t l ih =>
    intro cs k h
    cases k with
    | zero => simpa using h
    | succ k =>
      obtain ⟨rv, bv, kv, kcs, rest, r, rfl, h2, h3, h4, h5, h6, h7⟩ := h
      have := ih rest k h7
      rw [show (k + 1) * 4 = k * 4 + 4 by omega]
      exact this
theorem TW.take {H : GH} : ∀ (l : List (Tr Vp)) (cs : List Value) (k : Nat), TW H (RT.ofL l) cs → TW H (RT.ofL (l.take k)) (cs.take (k * 4)) := by
  intro l
  induction l with
  | nil => intro cs k h; obtain rfl : cs = [] := h; simp; exact (show TW H .nil [] from rfl)
  | cons t l ih =>
    intro cs k h
    cases k with
    | zero => simp; exact (show TW H .nil [] from rfl)
    | succ k =>
      obtain ⟨rv, bv, kv, kcs, rest, r, rfl, h2, h3, h4, h5, h6, h7⟩ := h
      have := ih rest k h7
      rw [show (k + 1) * 4 = k * 4 + 4 by omega]
      exact ⟨rv, bv, kv, kcs, rest.take (k * 4), r, rfl, h2, h3, h4, h5, h6, this⟩
theorem RsW.from {H : GH} {a : Option Addr} {cap n : Nat} {l : List (Tr Vp)} (h : RsW H (.slice a n cap) l) (hl : n = l.length) (k : Nat) (hk : k ≤ n) :
    RsW H (.slice (if cap = k then a else Option.map (fun x => x.add (k * 4)) a) (n - k) (cap - k)) (l.drop k) := by
  obtain ⟨cs, h1, h2⟩ := h
  subst hl
  refine ⟨cs.drop (k * 4), ?_, TW.drop l cs k h2⟩
  rw [List.length_drop]
  exact h1.from k hk
theorem RsW.upto {H : GH} {a : Option Addr} {cap n : Nat} {l : List (Tr Vp)} (h : RsW H (.slice a n cap) l) (hl : n = l.length) (k : Nat) (hk : k ≤ n) : RsW H (.slice a k cap) (l.take k) := by
  obtain ⟨cs, h1, h2⟩ := h
  subst hl
  refine ⟨cs.take (k * 4), ?_, TW.take l cs k h2⟩
  rw [List.length_take, Nat.min_eq_left hk]
  exact h1.upto k hk
theorem wat_least {l : List (Tr Vp)} {t : Tr Vp} (h : Rw.minT kw l = some t) : l[Rw.least kw l]? = some t := h
/-- The cells of a block of the call's own, as what is appended. -/
theorem St.newsAt {w0 w : World} {H0 H : GH} {m : Option Nat} {c d : Int} {L : List (Nat × Obj)} {R : List Row} (h : St w0 H0 m c d w H L R) (i : Nat) {b : Nat} {cs : Array Value} {T : TypeId} {f : Nat × Nat} (hi : L[i]? = some (b, .cells cs T f)) :
    ∀ j u, cs.toList[j]? = some u → w.cell? ((⟨b, 0, none⟩ : Addr).add j) = some u := fun j u hj => by
  have hj' : cs[j]? = some u := by simpa using hj
  have e := h.cell i hi j hj'
  unfold Addr.add
  split
  · rename_i h0; subst h0; exact e
  · simpa using e

set_option maxRecDepth 100000 in
set_option maxHeartbeats 8000000 in
theorem wtpop_ok (H : GH) (w : World) (v : Value) (t0 : Tr Vp) (l0 : List (Tr Vp)) (hf : Fits w H) (hn : Rw.size (t0 :: l0) < 900000) (hv : RsW H v (t0 :: l0)) :
    Calls Tryz.prog 32 #[v] w fun e w' => ∃ q' H', e = .returned (.tuple #[q', .int .i64 (Sk.popC kw (t0 :: l0) + Sk.popD kw (t0 :: l0) : Nat)]) ∧ Post w H none w' H' 0 0 ∧ RsW H' q' (Sk.pop kw (t0 :: l0)) := by
  have hpre : Pre w H none 0 0 := Pre.none hf 0 0
  have hv' := hv
  obtain ⟨b9, o9, cap9, nn, _, rfl, hnn, _, hn0, hcap, _, _⟩ := hv.cons
  have hnl : Hid ((t0 :: l0).length = nn) := by have := hnn.out; show _ = _; simp; omega
  obtain ⟨t, hm⟩ : ∃ t, Rw.minT kw (t0 :: l0) = some t := by
    cases hm : Rw.minT kw (t0 :: l0) with
    | none => cases Rw.minT_none kw hm
    | some t => exact ⟨t, rfl⟩
  have hat := wat_least hm
  have htsz := wsize_mem hat
  have hil := (List.getElem?_eq_some_iff.1 hat).1
  obtain ⟨i, hi⟩ : ∃ i, Hid (Rw.least kw (t0 :: l0) = i) := ⟨_, show _ = _ from rfl⟩
  rw [hi.out] at hat hil
  rw [hnl.out] at hil
  obtain ⟨bR, oR, cR, aB, cB, aK, cK, r1, hcR, hc, hr1, hxv, hbv, hkv⟩ := hv'.at i hat
  obtain ⟨kn, hkn⟩ : ∃ m, Hid (t.k.toL.length = m) := ⟨_, show _ = _ from rfl⟩
  obtain ⟨nb, hnb⟩ : ∃ m, Hid (t.b.length = m) := ⟨_, show _ = _ from rfl⟩
  rw [hkn.out] at hc hkv
  rw [hnb.out] at hc hbv
  have hlb : nn < 900000 := by have := hnl.out; have := Rw.length_le (t0 :: l0); omega
  have hknl : kn < 900000 := by
    have h5 := t.k.len_le
    have h6 : t.size = 1 + (t.b.length + t.k.els.length) := by simp [Tr.size, Tr.els]; omega
    have h7 := hkn.out
    rw [RT.toL_length] at h7
    omega
  have hin : (i : Int) < (nn : Int) := by omega
  have hicap : i ≤ cap9 := by omega
  have ek1 : IntKind.i64.wrap ((kn : Int) - 1) = (kn : Int) - 1 := IntWalk.i64_in _ (by omega)
  obtain ⟨i1, hi1⟩ : ∃ m, Hid (i + 1 = m) := ⟨_, show _ = _ from rfl⟩
  have ei1 : IntKind.i64.wrap ((i : Int) + 1) = (i1 : Int) := by have := hi1.out; rw [IntWalk.i64_in _ (by omega)]; omega
  have hi1n : i1 ≤ nn := by have := hi1.out; omega
  have hi1z : (i1 : Int) ≤ (nn : Int) := by omega
  have hup : RsW H (.slice (some ⟨b9, o9, none⟩) i cap9) ((t0 :: l0).take i) := hv'.upto hnl.out.symm i (by omega)
  obtain ⟨aS, haS⟩ : ∃ a, (if cap9 = i1 then (some ⟨b9, o9, none⟩ : Option Addr) else some ⟨b9, o9 + i1 * 4, none⟩) = a := ⟨_, rfl⟩
  obtain ⟨nS, hnS⟩ : ∃ a, nn - i1 = a := ⟨_, rfl⟩
  obtain ⟨cS, hcS⟩ : ∃ a, cap9 - i1 = a := ⟨_, rfl⟩
  have hfr : RsW H (.slice aS nS cS) ((t0 :: l0).drop i1) := by
    have h1 := hv'.from hnl.out.symm i1 hi1n
    have hi0 : i1 ≠ 0 := by have := hi1.out; omega
    have hadd : (⟨b9, o9, none⟩ : Addr).add (i1 * 4) = ⟨b9, o9 + i1 * 4, none⟩ := by unfold Addr.add; rw [if_neg (by omega)]
    simp only [Option.map_some, hadd] at h1
    rw [haS, hnS, hcS] at h1
    exact h1
  have hlA : ((t0 :: l0).take i).length = i := by rw [List.length_take, hnl.out]; omega
  have hlB : ((t0 :: l0).drop i1).length = nS := by rw [List.length_drop, hnl.out]; exact hnS
  have hnS2 : nS + i < 900000 := by have := hi1.out; omega
  have hers : (t0 :: l0).eraseIdx i = (t0 :: l0).take i ++ (t0 :: l0).drop i1 := by rw [← hi1.out]; exact List.eraseIdx_eq_take_drop_succ _ _
  clear hil
  go_enter Tryz.func32, Tryz.ntmps32
  have h0 := St.start hpre
  refine wp_seq ?_
  repeat (first | simp only [List.nil_append] at h0 | simp only [List.cons_append] at h0 | simp only [List.set_cons_zero] at h0 | simp only [List.set_cons_succ] at h0 | simp only [List.eraseIdx_zero] at h0 | simp only [List.tail_cons] at h0 | simp only [List.eraseIdx_cons_zero] at h0 | simp only [List.eraseIdx_cons_succ] at h0 | simp only [List.setIfInBounds_toArray] at h0)
  refine wp_region_lit ?_
  iterate 2 (refine wpList_plainQ rfl (fun K Q' hK => ?_); go_simp; refine hK _ _ ?_; clear hK K; try clear Q')
  refine wpList_nil ?_
  show Code.wp _ _ _ _ _
  refine wp_seq ?_
  refine wp_region_lit ?_
  iterate 1 (refine wpList_plainQ rfl (fun K Q' hK => ?_); go_simp; refine hK _ _ ?_; clear hK K; try clear Q')
  -- stops at: eff:call (Go.Op.call {'callee': (Go.Callee.value (Go.Operand.func 31)), 'args': [(Go.Operand.tmp 16)], 'argTypes': [33]}) slot 17
  refine wpList_plainQ rfl (fun K Q' hK => ?_); go_simp
  refine (wleast_ok H _ _ t0 l0 h0.fits (by omega) hv').mono ?_
  rintro e wA ⟨rfl, hkA⟩
  rw [hi.out]
  have h1 := h0.callk hkA
  refine hK _ _ ?_; clear hK K; try clear Q'
  iterate 1 (refine wpList_plainQ rfl (fun K Q' hK => ?_); go_simp; refine hK _ _ ?_; clear hK K; try clear Q')
  refine wpList_nil ?_
  show Code.wp _ _ _ _ _
  refine wp_seq ?_
  repeat (first | simp only [List.nil_append] at h1 | simp only [List.cons_append] at h1 | simp only [List.set_cons_zero] at h1 | simp only [List.set_cons_succ] at h1 | simp only [List.eraseIdx_zero] at h1 | simp only [List.tail_cons] at h1 | simp only [List.eraseIdx_cons_zero] at h1 | simp only [List.eraseIdx_cons_succ] at h1 | simp only [List.setIfInBounds_toArray] at h1)
  refine wp_region_lit ?_
  iterate 1 (refine wpList_plainQ rfl (fun K Q' hK => ?_); go_simp; refine hK _ _ ?_; clear hK K; try clear Q')
  refine wpList_nil ?_
  show Code.wp _ _ _ _ _
  refine wp_seq ?_
  refine wp_seq ?_
  refine wp_region_lit ?_
  iterate 4 (refine wpList_plainQ rfl (fun K Q' hK => ?_); go_simp; refine hK _ _ ?_; clear hK K; try clear Q')
  -- stops at: load (Go.Op.load 33 (Go.Operand.tmp 21)) slot 22
  have ce := hc.out _ h1.fits
  obtain ⟨q0, q1, q2, q3⟩ := ce
  iterate 1 (refine wpList_plainQ rfl (fun K Q' hK => ?_); go_simp; refine hK _ _ ?_; clear hK K; try clear Q')
  clear q0 q1 q2 q3
  iterate 3 (refine wpList_plainQ rfl (fun K Q' hK => ?_); go_simp; refine hK _ _ ?_; clear hK K; try clear Q')
  refine wpList_nil ?_
  show Code.wp _ _ _ _ _
  refine wp_block ?_
  -- stops at: loop
  have h80 := h1.row0 82 4
  go_loopw [5, 6] (fun v5 v6 wr => ∃ (j : Nat) (cs : List Value), j ≤ kn ∧ v6 = .int .i64 ((kn : Int) - 1 - (j : Int)) ∧ TW H (RT.ofL (t.k.toL.reverse.take j)) cs ∧ St w H none 0 0 wr H [] [⟨v5, 82, 4, j, cs⟩]) (fun _ v6 _ => (intOf v6 + 1).toNat)
  case atStart => exact ⟨0, [], by omega, by simp, rfl, h80⟩
  case round =>
    obtain ⟨j, cs, hj, rfl, hcs, hs⟩ := hrel
    obtain ⟨a5, c5, rfl⟩ := hs.row_form 0 rfl
    clear h80
    by_cases hlt : j < kn
    · obtain ⟨kk, hkk⟩ : ∃ kk : Nat, Hid (kk + j + 1 = kn) := ⟨kn - 1 - j, by show _ = _; omega⟩
      have ev : (kn : Int) - 1 - (j : Int) = (kk : Int) := by have := hkk.out; omega
      rw [ev]
      clear ev
      have hkl : (kk : Int) < (kn : Int) := by have := hkk.out; omega
      obtain ⟨tk, htk⟩ : ∃ s, t.k.toL[kk]? = some s := ⟨t.k.toL[kk]'(by have := hkn.out; omega), by simp⟩
      obtain ⟨bk, ok, ck, ek⟩ : ∃ b o c, (Value.slice aK kn cK) = .slice (some ⟨b, o, none⟩) kn c := by
        obtain ⟨cs', h1, _⟩ := hkv
        rw [hkn.out] at h1
        obtain ⟨b, o, c, e, _⟩ := h1.ne_nil (by omega)
        exact ⟨b, o, c, e⟩
      simp only [Value.slice.injEq, true_and] at ek
      obtain ⟨rfl, rfl⟩ := ek
      obtain ⟨bR2, oR2, cR2, aB2, cB2, aK2, cK2, r2, hcR2, hc2, hr2, hx2, hb2, hk2⟩ := hkv.at kk htk
      have hone : TW H (RT.ofL [tk]) [.int .i64 (r2 : Int), .slice (some ⟨bR2, oR2, none⟩) 1 cR2, .slice aB2 tk.b.length cB2, .slice aK2 tk.k.toL.length cK2] := TW.push hr2 hx2 hb2 hk2 (l := []) (cs := []) rfl
      have hstep : Hid (t.k.toL.reverse.take (j + 1) = t.k.toL.reverse.take j ++ [tk]) := by
        show _ = _
        rw [List.take_add_one, List.getElem?_reverse (by rw [hkn.out]; omega), hkn.out, show kn - 1 - j = kk by have := hkk.out; omega, htk]
        rfl
      have e8 : IntKind.i64.wrap ((kk : Int) - 1) = (kk : Int) - 1 := IntWalk.i64_in _ (by omega)
      refine wp_seq ?_
      refine wp_seq ?_
      repeat (first | simp only [List.nil_append] at hs | simp only [List.cons_append] at hs | simp only [List.set_cons_zero] at hs | simp only [List.set_cons_succ] at hs | simp only [List.eraseIdx_zero] at hs | simp only [List.tail_cons] at hs | simp only [List.eraseIdx_cons_zero] at hs | simp only [List.eraseIdx_cons_succ] at hs | simp only [List.setIfInBounds_toArray] at hs)
      refine wp_region_lit ?_
      iterate 2 (refine wpList_plainQ rfl (fun K Q' hK => ?_); go_simp; refine hK _ _ ?_; clear hK K; try clear Q')
      refine wpList_nil ?_
      show Code.wp _ _ _ _ _
      -- stops at: cond
      refine wp_cond_true (rfl) ?_
      refine wp_skip ?_
      show Code.wp _ _ _ _ _
      refine wp_seq ?_
      refine wp_block ?_
      refine wp_region_lit ?_
      iterate 5 (refine wpList_plainQ rfl (fun K Q' hK => ?_); go_simp; refine hK _ _ ?_; clear hK K; try clear Q')
      -- stops at: load (Go.Op.load 33 (Go.Operand.tmp 33)) slot 34
      have ce := hc.out _ hs.fits
      obtain ⟨q0, q1, q2, q3⟩ := ce
      iterate 1 (refine wpList_plainQ rfl (fun K Q' hK => ?_); go_simp; refine hK _ _ ?_; clear hK K; try clear Q')
      clear q0 q1 q2 q3
      iterate 2 (refine wpList_plainQ rfl (fun K Q' hK => ?_); go_simp; refine hK _ _ ?_; clear hK K; try clear Q')
      -- stops at: load (Go.Op.load 82 (Go.Operand.tmp 36)) slot 37
      have ce := hc2.out _ hs.fits
      obtain ⟨q0, q1, q2, q3⟩ := ce
      iterate 1 (refine wpList_plainQ rfl (fun K Q' hK => ?_); go_simp; refine hK _ _ ?_; clear hK K; try clear Q')
      clear q0 q1 q2 q3
      refine wpList_plainQ rfl (fun K Q' hK => ?_); go_simp
      refine hs.k_alloc (fun w2 h2 => ?_)
      refine hK _ _ ?_; clear hK K; try clear Q'
      -- stops at: eff:Builtin.append (Go.Op.call {'callee': (Go.Callee.builtin Go.Builtin.append), 'args': [(Go.Operand.tmp 29), (Go.Operand.tmp 38)], 'argTypes': [33, 33]}) slot 39
      refine wpList_plainQ rfl (fun K Q' hK => ?_)
      refine h2.op_append 0 rfl rfl infoTT rfl [.int .i64 (r2 : Int), .slice (some ⟨bR2, oR2, none⟩) 1 cR2, .slice aB2 tk.b.length cB2, .slice aK2 tk.k.toL.length cK2] rfl rfl (h2.newsAt 0 rfl) (by simp [Value.oneCell']) (by omega) (by unfold maxLen; omega) (fun v' wF hF oF hnF => ?_)
      obtain ⟨g', cap', rfl⟩ := hF.row_some 0 rfl (by omega)
      refine hK _ _ ?_; clear hK K; try clear Q'
      iterate 1 (refine wpList_plainQ rfl (fun K Q' hK => ?_); go_simp; refine hK _ _ ?_; clear hK K; try clear Q')
      refine wpList_nil ?_
      show Code.wp _ _ _ _ _
      repeat (first | simp only [List.nil_append] at hF | simp only [List.cons_append] at hF | simp only [List.set_cons_zero] at hF | simp only [List.set_cons_succ] at hF | simp only [List.eraseIdx_zero] at hF | simp only [List.tail_cons] at hF | simp only [List.eraseIdx_cons_zero] at hF | simp only [List.eraseIdx_cons_succ] at hF | simp only [List.setIfInBounds_toArray] at hF)
      refine wp_region_lit ?_
      iterate 3 (refine wpList_plainQ rfl (fun K Q' hK => ?_); go_simp; refine hK _ _ ?_; clear hK K; try clear Q')
      refine wpList_nil ?_
      -- stops at: end ('roundend',)
      show _ ∧ _
      go_roundw
      case rel =>
        refine ⟨j + 1, _, by omega, ?_, ?_, hF.take 0⟩
        · have := hkk.out; exact congrArg (Value.int .i64) (by omega)
        · rw [hstep.out]; exact TW.append hcs hone
      case measure => simp [intOf]
    · obtain rfl : j = kn := by omega
      rw [show (j : Int) - 1 - (j : Int) = -1 by omega]
      have hrev : TW H (RT.ofL t.k.toL.reverse) cs := by
        have h5 := hcs
        rwa [List.take_of_length_le (by rw [List.length_reverse, hkn.out]; omega)] at h5
      clear hcs
      refine wp_seq ?_
      refine wp_seq ?_
      repeat (first | simp only [List.nil_append] at hs | simp only [List.cons_append] at hs | simp only [List.set_cons_zero] at hs | simp only [List.set_cons_succ] at hs | simp only [List.eraseIdx_zero] at hs | simp only [List.tail_cons] at hs | simp only [List.eraseIdx_cons_zero] at hs | simp only [List.eraseIdx_cons_succ] at hs | simp only [List.setIfInBounds_toArray] at hs)
      refine wp_region_lit ?_
      iterate 2 (refine wpList_plainQ rfl (fun K Q' hK => ?_); go_simp; refine hK _ _ ?_; clear hK K; try clear Q')
      refine wpList_nil ?_
      show Code.wp _ _ _ _ _
      -- stops at: cond
      refine wp_cond_false (rfl) ?_
      refine wp_exit ?_
      show Code.wp _ _ _ _ _
      refine wp_seq ?_
      refine wp_region_lit ?_
      iterate 1 (refine wpList_plainQ rfl (fun K Q' hK => ?_); go_simp; refine hK _ _ ?_; clear hK K; try clear Q')
      refine wpList_nil ?_
      show Code.wp _ _ _ _ _
      refine wp_seq ?_
      refine wp_region_lit ?_
      iterate 4 (refine wpList_plainQ rfl (fun K Q' hK => ?_); go_simp; refine hK _ _ ?_; clear hK K; try clear Q')
      -- stops at: eff:Builtin.append (Go.Op.call {'callee': (Go.Callee.builtin Go.Builtin.append), 'args': [(Go.Operand.tmp 40), (Go.Operand.tmp 43)], 'argTypes': [33, 33]}) slot 44
      have h90 := hs.row0 82 4
      refine wpList_plainQ rfl (fun K Q' hK => ?_)
      obtain ⟨csA, hA1, hA2⟩ := hup
      rw [hlA] at hA1
      refine h90.op_append_rep 1 rfl rfl infoTT rfl csA rfl hA1 (TW.one hA2) (by omega) (by unfold maxLen; omega) (fun v1 wB hB => ?_)
      refine hK _ _ ?_; clear hK K; try clear Q'
      simp only [Nat.zero_add, List.nil_append] at hB
      obtain ⟨aV, cV, rfl⟩ := hB.row_form 1 rfl
      iterate 1 (refine wpList_plainQ rfl (fun K Q' hK => ?_); go_simp; refine hK _ _ ?_; clear hK K; try clear Q')
      refine wpList_nil ?_
      show Code.wp _ _ _ _ _
      refine wp_seq ?_
      repeat (first | simp only [List.nil_append] at hB | simp only [List.cons_append] at hB | simp only [List.set_cons_zero] at hB | simp only [List.set_cons_succ] at hB | simp only [List.eraseIdx_zero] at hB | simp only [List.tail_cons] at hB | simp only [List.eraseIdx_cons_zero] at hB | simp only [List.eraseIdx_cons_succ] at hB | simp only [List.setIfInBounds_toArray] at hB)
      refine wp_region_lit ?_
      iterate 5 (refine wpList_plainQ rfl (fun K Q' hK => ?_); go_simp; refine hK _ _ ?_; clear hK K; try clear Q')
      -- stops at: eff:Builtin.append (Go.Op.call {'callee': (Go.Callee.builtin Go.Builtin.append), 'args': [(Go.Operand.tmp 45), (Go.Operand.tmp 49)], 'argTypes': [33, 33]}) slot 50
      refine wpList_plainQ rfl (fun K Q' hK => ?_)
      obtain ⟨csB, hB1, hB2⟩ := hfr
      rw [hlB] at hB1
      refine hB.op_append_rep 1 rfl rfl infoTT rfl csB rfl hB1 (TW.one hB2) (by omega) (by unfold maxLen; omega) (fun v2 wC hC => ?_)
      refine hK _ _ ?_; clear hK K; try clear Q'
      obtain ⟨aW, cW, rfl⟩ := hC.row_form 1 rfl
      obtain ⟨H6, h6, rK, leK⟩ := hC.settleRow 0 rfl
      obtain ⟨H7, h7, rR, leR⟩ := h6.settleRow 0 rfl
      have le7 : H.le H7 := leK.trans leR
      have hkids : RsW H7 (.slice a5 j c5) t.k.toL.reverse := ⟨cs, by rw [List.length_reverse, hkn.out]; exact rK.mono leR, hrev.mono le7⟩
      have hrest : RsW H7 (.slice aW (i + nS) cW) ((t0 :: l0).eraseIdx i) := by
        rw [hers]
        refine ⟨csA ++ csB, ?_, TW.append (hA2.mono le7) (hB2.mono le7)⟩
        rw [List.length_append, hlA, hlB]
        exact rR
      obtain ⟨n7, hn7⟩ : ∃ m, Hid (i + nS = m) := ⟨_, show _ = _ from rfl⟩
      rw [hn7.out] at hrest ⊢
      have hesz : Rw.size ((t0 :: l0).eraseIdx i) + t.size = Rw.size (t0 :: l0) := by
        have h5 := (Rw.els_perm (Rw.minT_perm kw hm)).length_eq
        rw [hi.out, Rw.els_cons, List.length_append] at h5
        show (Rw.els _).length + t.els.length = (Rw.els _).length
        omega
      have hksz : Rw.size t.k.toL.reverse ≤ t.size := by
        have h5 : (Rw.els t.k.toL.reverse).length = t.k.els.length := by
          have h6 := (Rw.els_perm (List.reverse_perm t.k.toL)).length_eq
          rw [h6, Rw.toL_els]
        have h6 : t.size = 1 + (t.b.length + t.k.els.length) := by simp [Tr.size, Tr.els]; omega
        show (Rw.els _).length ≤ _
        omega
      iterate 1 (refine wpList_plainQ rfl (fun K Q' hK => ?_); go_simp; refine hK _ _ ?_; clear hK K; try clear Q')
      refine wpList_nil ?_
      show Code.wp _ _ _ _ _
      refine wp_seq ?_
      repeat (first | simp only [List.nil_append] at h7 | simp only [List.cons_append] at h7 | simp only [List.set_cons_zero] at h7 | simp only [List.set_cons_succ] at h7 | simp only [List.eraseIdx_zero] at h7 | simp only [List.tail_cons] at h7 | simp only [List.eraseIdx_cons_zero] at h7 | simp only [List.eraseIdx_cons_succ] at h7 | simp only [List.setIfInBounds_toArray] at h7)
      refine wp_region_lit ?_
      iterate 1 (refine wpList_plainQ rfl (fun K Q' hK => ?_); go_simp; refine hK _ _ ?_; clear hK K; try clear Q')
      -- stops at: eff:call (Go.Op.call {'callee': (Go.Callee.value (Go.Operand.func 63)), 'args': [(Go.Operand.tmp 52)], 'argTypes': [33]}) slot 53
      obtain ⟨ers, her⟩ : ∃ e, Hid ((t0 :: l0).eraseIdx i = e) := ⟨_, show _ = _ from rfl⟩
      rw [her.out] at hrest hesz
      obtain ⟨X0, hX0⟩ : ∃ x, Hid (Rw.meld kw t.k.toL.reverse (Sk.level kw ers) = x) := ⟨_, show _ = _ from rfl⟩
      obtain ⟨ln, hln⟩ : ∃ m, Hid (2 * Sk.levelN kw ers = m) := ⟨_, show _ = _ from rfl⟩
      obtain ⟨mn, hmn⟩ : ∃ m, Hid (2 * Rw.meldN kw t.k.toL.reverse (Sk.level kw ers) = m) := ⟨_, show _ = _ from rfl⟩
      obtain ⟨pn, hpn⟩ : ∃ m, Hid (nn - 1 = m) := ⟨_, show _ = _ from rfl⟩
      obtain ⟨s1, hs1⟩ : ∃ m, Hid (pn + ln = m) := ⟨_, show _ = _ from rfl⟩
      obtain ⟨s2, hs2⟩ : ∃ m, Hid (s1 + mn = m) := ⟨_, show _ = _ from rfl⟩
      have hsz9 : Rw.size ers + t.size < 900000 := by omega
      have hlevsz := Sk.level_size kw ers
      have hbnd : ln + mn ≤ 8000000 := by
        have h1 := Sk.level_len kw ers
        have h2 := Rw.meld_length kw t.k.toL.reverse (Sk.level kw ers)
        have h3 := Rw.length_le ers
        have h4 := Rw.length_le t.k.toL.reverse
        have := hln.out
        have := hmn.out
        omega
      have e1 : IntKind.i64.wrap ((nn : Int) - 1) = (pn : Int) := by have := hpn.out; rw [IntWalk.i64_in _ (by omega)]; omega
      have e2 : IntKind.i64.wrap ((pn : Int) + (ln : Int)) = (s1 : Int) := by have := hs1.out; have := hpn.out; rw [IntWalk.i64_in _ (by omega)]; omega
      have e3 : IntKind.i64.wrap ((s1 : Int) + (mn : Int)) = (s2 : Int) := by have := hs2.out; have := hs1.out; have := hpn.out; rw [IntWalk.i64_in _ (by omega)]; omega
      have hs2l : s2 ≤ 9000000 := by have := hs2.out; have := hs1.out; have := hpn.out; omega
      have hX0sz : Rw.size X0 + nb < 900000 := by
        have h5 : Rw.size X0 = Rw.size t.k.toL.reverse + Rw.size ers := by rw [← hX0.out, Rw.meld_size, hlevsz]
        have h6 : Rw.size t.k.toL.reverse + nb < t.size := by
          have h7 : (Rw.els t.k.toL.reverse).length = t.k.els.length := by rw [(Rw.els_perm (List.reverse_perm t.k.toL)).length_eq, Rw.toL_els]
          have h8 : t.size = 1 + (t.b.length + t.k.els.length) := by simp [Tr.size, Tr.els]; omega
          have h9 := hnb.out
          show (Rw.els _).length + _ < _
          omega
        omega
      refine wpList_plainQ rfl (fun K Q' hK => ?_); go_simp
      refine (wlevel_ok H7 _ _ ers h7.fits (by omega) hrest).mono ?_
      rintro e wL ⟨rL, H8, rfl, hpL, hL⟩
      rw [hln.out]
      obtain ⟨aL, cL, rfl, _, _⟩ := hL.form
      have h3 := h7.call0 hpL
      refine hK _ _ ?_; clear hK K; try clear Q'
      iterate 5 (refine wpList_plainQ rfl (fun K Q' hK => ?_); go_simp; refine hK _ _ ?_; clear hK K; try clear Q')
      refine wpList_nil ?_
      show Code.wp _ _ _ _ _
      refine wp_seq ?_
      repeat (first | simp only [List.nil_append] at h3 | simp only [List.cons_append] at h3 | simp only [List.set_cons_zero] at h3 | simp only [List.set_cons_succ] at h3 | simp only [List.eraseIdx_zero] at h3 | simp only [List.tail_cons] at h3 | simp only [List.eraseIdx_cons_zero] at h3 | simp only [List.eraseIdx_cons_succ] at h3 | simp only [List.setIfInBounds_toArray] at h3)
      refine wp_region_lit ?_
      iterate 2 (refine wpList_plainQ rfl (fun K Q' hK => ?_); go_simp; refine hK _ _ ?_; clear hK K; try clear Q')
      -- stops at: eff:call (Go.Op.call {'callee': (Go.Callee.value (Go.Operand.func 64)), 'args': [(Go.Operand.tmp 57), (Go.Operand.tmp 58)], 'argTypes': [33, 33]}) slot 59
      refine wpList_plainQ rfl (fun K Q' hK => ?_); go_simp
      refine (wtrees_ok _ _ H8 _ _ _ h3.fits (by omega) (hkids.mono hpL.le) hL).mono ?_
      rintro e wT ⟨rT, H9, rfl, hpT, hT⟩
      rw [hmn.out]
      rw [hX0.out] at hT
      obtain ⟨aT, cT, rfl, _, _⟩ := hT.form
      have h4 := h3.call0 hpT
      refine hK _ _ ?_; clear hK K; try clear Q'
      iterate 5 (refine wpList_plainQ rfl (fun K Q' hK => ?_); go_simp; refine hK _ _ ?_; clear hK K; try clear Q')
      refine wpList_nil ?_
      show Code.wp _ _ _ _ _
      refine wp_seq ?_
      repeat (first | simp only [List.nil_append] at h4 | simp only [List.cons_append] at h4 | simp only [List.set_cons_zero] at h4 | simp only [List.set_cons_succ] at h4 | simp only [List.eraseIdx_zero] at h4 | simp only [List.tail_cons] at h4 | simp only [List.eraseIdx_cons_zero] at h4 | simp only [List.eraseIdx_cons_succ] at h4 | simp only [List.setIfInBounds_toArray] at h4)
      refine wp_region_lit ?_
      iterate 8 (refine wpList_plainQ rfl (fun K Q' hK => ?_); go_simp; refine hK _ _ ?_; clear hK K; try clear Q')
      refine wpList_nil ?_
      show Code.wp _ _ _ _ _
      refine wp_seq ?_
      refine wp_seq ?_
      refine wp_region_lit ?_
      iterate 1 (refine wpList_plainQ rfl (fun K Q' hK => ?_); go_simp; refine hK _ _ ?_; clear hK K; try clear Q')
      refine wpList_nil ?_
      show Code.wp _ _ _ _ _
      refine wp_block ?_
      -- stops at: loop
      go_loopw [10, 12, 13] (fun v10 v12 v13 wr => ∃ (j sn : Nat) (X : List (Tr Vp)) (H' : GH), j ≤ nb ∧ v13 = .int .i64 j ∧ v12 = .int .i64 sn ∧ Hid (X = Sk.inserts kw X0 (t.b.take j)) ∧ Hid (sn = s2 + (Sk.insertsC kw X0 (t.b.take j) + Sk.insertsD kw X0 (t.b.take j))) ∧ RsW H' v10 X ∧ St w H none 0 0 wr H' [] []) (fun _ _ v13 _ => nb - (intOf v13).toNat)
      case atStart => exact ⟨0, s2, X0, H9, by omega, rfl, rfl, rfl, rfl, hT, h4⟩
      case round =>
        clear hs
        obtain ⟨j2, sn, X, H10, hj2, rfl, rfl, hX, hsn, hq, hs⟩ := hrel
        obtain ⟨aq, cq, rfl, _, _⟩ := hq.form
        have hleX := hs.le
        have hXsz : Rw.size X < 900000 := by rw [hX.out, Sk.inserts_size, List.length_take]; omega
        have hsnl : sn ≤ 20000000 := by have h5 := Sk.inserts_steps kw (t.b.take j2) X0; rw [List.length_take] at h5; have := hsn.out; omega
        by_cases hlt2 : j2 < nb
        · obtain ⟨b8, o8, cap8, e8, _⟩ : ∃ b o c, (Value.slice aB nb cB) = .slice (some ⟨b, o, none⟩) nb c ∧ True := by
            have h1 := hbv.1
            rw [hnb.out] at h1
            obtain ⟨b, o, c, e, _⟩ := h1.ne_nil (by omega)
            exact ⟨b, o, c, e, trivial⟩
          simp only [Value.slice.injEq, true_and] at e8
          obtain ⟨rfl, rfl⟩ := e8
          obtain ⟨⟨ys, yb⟩, hy⟩ : ∃ y, t.b[j2]? = some y := ⟨t.b[j2]'(by have := hnb.out; omega), by simp⟩
          obtain ⟨ay, my, cy, ey, hcy⟩ := hbv.at j2 hy
          simp only at ey hcy
          subst ey
          have hvy : vC (([.bool true, .int .i64 yb.root.1, .int .i64 yb.root.2, .slice ay my cy] : List Value), yb) := ⟨ay, my, cy, rfl⟩
          have hst4 := Sk.insert_steps X
          obtain ⟨ic, hic⟩ : ∃ m, Hid (Sk.insC X + Sk.insD X = m) := ⟨_, show _ = _ from rfl⟩
          rw [hic.out] at hst4
          obtain ⟨sn2, hsn2⟩ : ∃ m, Hid (sn + ic = m) := ⟨_, show _ = _ from rfl⟩
          have e5 : IntKind.i64.wrap ((sn : Int) + (ic : Int)) = (sn2 : Int) := by have := hsn2.out; rw [IntWalk.i64_in _ (by omega)]; omega
          have e6 : IntKind.i64.wrap ((j2 : Int) + 1) = (j2 : Int) + 1 := IntWalk.i64_in _ (by omega)
          have htk : Hid (t.b.take (j2 + 1) = t.b.take j2 ++ [(([.bool true, .int .i64 yb.root.1, .int .i64 yb.root.2, .slice ay my cy] : List Value), yb)]) := by show _ = _; rw [List.take_add_one, hy]; rfl
          refine wp_seq ?_
          refine wp_seq ?_
          repeat (first | simp only [List.nil_append] at hs | simp only [List.cons_append] at hs | simp only [List.set_cons_zero] at hs | simp only [List.set_cons_succ] at hs | simp only [List.eraseIdx_zero] at hs | simp only [List.tail_cons] at hs | simp only [List.eraseIdx_cons_zero] at hs | simp only [List.eraseIdx_cons_succ] at hs | simp only [List.setIfInBounds_toArray] at hs)
          refine wp_region_lit ?_
          iterate 5 (refine wpList_plainQ rfl (fun K Q' hK => ?_); go_simp; refine hK _ _ ?_; clear hK K; try clear Q')
          -- stops at: load (Go.Op.load 36 (Go.Operand.tmp 73)) slot 74
          have ce := hc.out _ (hs.fits.le hs.le)
          obtain ⟨q0, q1, q2, q3⟩ := ce
          iterate 1 (refine wpList_plainQ rfl (fun K Q' hK => ?_); go_simp; refine hK _ _ ?_; clear hK K; try clear Q')
          clear q0 q1 q2 q3
          iterate 2 (refine wpList_plainQ rfl (fun K Q' hK => ?_); go_simp; refine hK _ _ ?_; clear hK K; try clear Q')
          refine wpList_nil ?_
          show Code.wp _ _ _ _ _
          -- stops at: cond
          refine wp_cond_true (rfl) ?_
          refine wp_skip ?_
          show Code.wp _ _ _ _ _
          refine wp_seq ?_
          refine wp_block ?_
          refine wp_seq ?_
          refine wp_region_lit ?_
          iterate 4 (refine wpList_plainQ rfl (fun K Q' hK => ?_); go_simp; refine hK _ _ ?_; clear hK K; try clear Q')
          -- stops at: load (Go.Op.load 36 (Go.Operand.tmp 83)) slot 84
          have ce := hc.out _ (hs.fits.le hs.le)
          obtain ⟨q0, q1, q2, q3⟩ := ce
          iterate 1 (refine wpList_plainQ rfl (fun K Q' hK => ?_); go_simp; refine hK _ _ ?_; clear hK K; try clear Q')
          clear q0 q1 q2 q3
          iterate 2 (refine wpList_plainQ rfl (fun K Q' hK => ?_); go_simp; refine hK _ _ ?_; clear hK K; try clear Q')
          -- stops at: load (Go.Op.load 35 (Go.Operand.tmp 86)) slot 87
          have ce := hcy.out _ (hs.fits.le hs.le)
          obtain ⟨q0, q1, q2, q3⟩ := ce
          iterate 1 (refine wpList_plainQ rfl (fun K Q' hK => ?_); go_simp; refine hK _ _ ?_; clear hK K; try clear Q')
          clear q0 q1 q2 q3
          iterate 1 (refine wpList_plainQ rfl (fun K Q' hK => ?_); go_simp; refine hK _ _ ?_; clear hK K; try clear Q')
          -- stops at: eff:call (Go.Op.call {'callee': (Go.Callee.value (Go.Operand.func 27)), 'args': [(Go.Operand.tmp 87), (Go.Operand.tmp 88)], 'argTypes': [35, 33]}) slot 89
          refine wpList_plainQ rfl (fun K Q' hK => ?_); go_simp
          refine (wins_ok H10 _ (([.bool true, .int .i64 yb.root.1, .int .i64 yb.root.2, .slice ay my cy] : List Value), yb) _ X hvy hs.fits hXsz hq).mono ?_
          rintro e wI ⟨qI, H11, rfl, hpI, hI⟩
          rw [hic.out]
          obtain ⟨aI, cI, rfl, _, _⟩ := hI.form
          have h5 := hs.call0 hpI
          refine hK _ _ ?_; clear hK K; try clear Q'
          iterate 5 (refine wpList_plainQ rfl (fun K Q' hK => ?_); go_simp; refine hK _ _ ?_; clear hK K; try clear Q')
          refine wpList_nil ?_
          show Code.wp _ _ _ _ _
          refine wp_seq ?_
          repeat (first | simp only [List.nil_append] at h5 | simp only [List.cons_append] at h5 | simp only [List.set_cons_zero] at h5 | simp only [List.set_cons_succ] at h5 | simp only [List.eraseIdx_zero] at h5 | simp only [List.tail_cons] at h5 | simp only [List.eraseIdx_cons_zero] at h5 | simp only [List.eraseIdx_cons_succ] at h5 | simp only [List.setIfInBounds_toArray] at h5)
          refine wp_region_lit ?_
          iterate 2 (refine wpList_plainQ rfl (fun K Q' hK => ?_); go_simp; refine hK _ _ ?_; clear hK K; try clear Q')
          refine wpList_nil ?_
          show Code.wp _ _ _ _ _
          refine wp_region_lit ?_
          iterate 4 (refine wpList_plainQ rfl (fun K Q' hK => ?_); go_simp; refine hK _ _ ?_; clear hK K; try clear Q')
          refine wpList_nil ?_
          show Code.wp _ _ _ _ _
          refine wp_region_lit ?_
          iterate 3 (refine wpList_plainQ rfl (fun K Q' hK => ?_); go_simp; refine hK _ _ ?_; clear hK K; try clear Q')
          refine wpList_nil ?_
          -- stops at: end ('roundend',)
          show _ ∧ _
          go_roundw
          case rel =>
            refine ⟨j2 + 1, sn2, Sk.insert kw (([.bool true, .int .i64 yb.root.1, .int .i64 yb.root.2, .slice ay my cy] : List Value), yb) X, H11, by omega, by simp, rfl, ?_, ?_, hI, h5.take 0⟩
            · show _ = _; rw [htk.out, Sk.inserts_snoc, ← hX.out]
            · show _ = _; rw [htk.out, Sk.insertsC_snoc, Sk.insertsD_snoc, ← hX.out]; have := hsn.out; have := hsn2.out; have := hic.out; omega
          case measure => simp [intOf]; omega
        · obtain rfl : j2 = nb := by omega
          have hpop := Sk.pop_some kw hm
          rw [hi.out, her.out] at hpop
          have hX9 : Sk.pop kw (t0 :: l0) = X := by
            rw [hpop, hX.out, List.take_of_length_le (by rw [hnb.out]; omega)]
            show Sk.inserts kw (Rw.meld kw t.k.toL.reverse (Sk.level kw ers)) t.b = _
            rw [hX0.out]
          have hcd : Sk.popC kw (t0 :: l0) + Sk.popD kw (t0 :: l0) = sn := by
            unfold Sk.popC Sk.popD
            rw [hm]
            simp only
            rw [hi.out, her.out]
            have h5 := hsn.out
            rw [List.take_of_length_le (by rw [hnb.out]; omega)] at h5
            have h6 : Sk.after kw t ers = X0 := hX0.out
            have h7 : 2 * Sk.afterN kw t ers = ln + mn := by unfold Sk.afterN; have := hln.out; have := hmn.out; omega
            rw [h6]
            have h8 := hnl.out
            have := hs2.out
            have := hs1.out
            have := hpn.out
            omega
          refine wp_seq ?_
          refine wp_seq ?_
          repeat (first | simp only [List.nil_append] at hs | simp only [List.cons_append] at hs | simp only [List.set_cons_zero] at hs | simp only [List.set_cons_succ] at hs | simp only [List.eraseIdx_zero] at hs | simp only [List.tail_cons] at hs | simp only [List.eraseIdx_cons_zero] at hs | simp only [List.eraseIdx_cons_succ] at hs | simp only [List.setIfInBounds_toArray] at hs)
          refine wp_region_lit ?_
          iterate 5 (refine wpList_plainQ rfl (fun K Q' hK => ?_); go_simp; refine hK _ _ ?_; clear hK K; try clear Q')
          -- stops at: load (Go.Op.load 36 (Go.Operand.tmp 73)) slot 74
          have ce := hc.out _ (hs.fits.le hs.le)
          obtain ⟨q0, q1, q2, q3⟩ := ce
          iterate 1 (refine wpList_plainQ rfl (fun K Q' hK => ?_); go_simp; refine hK _ _ ?_; clear hK K; try clear Q')
          clear q0 q1 q2 q3
          iterate 2 (refine wpList_plainQ rfl (fun K Q' hK => ?_); go_simp; refine hK _ _ ?_; clear hK K; try clear Q')
          refine wpList_nil ?_
          show Code.wp _ _ _ _ _
          -- stops at: cond
          refine wp_cond_false (rfl) ?_
          refine wp_exit ?_
          show Code.wp _ _ _ _ _
          refine wp_seq ?_
          refine wp_region_lit ?_
          iterate 4 (refine wpList_plainQ rfl (fun K Q' hK => ?_); go_simp; refine hK _ _ ?_; clear hK K; try clear Q')
          refine wpList_nil ?_
          show Code.wp _ _ _ _ _
          -- stops at: ret
          refine wp_ret ?_
          go_ret2
          refine ⟨_, H10, ?_, hs.post, by rw [hX9]; exact hq⟩
          rw [hcd]
          rfl
end Go.Proofs.YtkhjcmbppcimnaaGreatDoor
/-
The document's heaps of heaps: values, melding, putting in, the least element, taking it out.
-/
namespace Go.Proofs.YtkhjcmbppcimnaaGreatDoor
open Go Go.RowKit
set_option linter.unusedVariables false

/-- A heap of the document as cells, and what it is, all the way down. -/
inductive HvR (H : GH) : List Value → BH → Prop
  | mk {a : Option Addr} {n c : Nat} {x : El} {q : List (Tr BH)} (l : List (Tr Vp)) (hl : RsW H (.slice a n c) l) (hq : Rw.map Prod.snd l = q) (hd : ∀ y ∈ Rw.els l, HvR H y.1 y.2) :
      HvR H [.bool true, .int .i64 x.1, .int .i64 x.2, .slice a n c] (.mk x q)
theorem HvR.mono {H H' : GH} {cs : List Value} {t : BH} (h : HvR H cs t) (hl : H.le H') : HvR H' cs t := by
  induction h with
  | mk l hls hq hd ih => exact .mk l (hls.mono hl) hq ih
theorem HvR.open {H : GH} {cs : List Value} {t : BH} (h : HvR H cs t) : ∃ (a : Option Addr) (n c : Nat) (l : List (Tr Vp)), cs = [.bool true, .int .i64 t.root.1, .int .i64 t.root.2, .slice a n c] ∧ RsW H (.slice a n c) l ∧ Hid (Rw.map Prod.snd l = t.queue) ∧ (∀ y ∈ Rw.els l, HvR H y.1 y.2) := by
  cases h with
  | @mk a n c x q l hl hq hd => exact ⟨a, n, c, l, rfl, hl, hq, hd⟩
theorem HvR.vC {H : GH} {cs : List Value} {t : BH} (h : HvR H cs t) : vC (cs, t) := by
  obtain ⟨a, n, c, l, rfl, _⟩ := h.open
  exact ⟨a, n, c, rfl⟩
theorem wsnd (l : List (Tr Vp)) : Rw.size (Rw.map Prod.snd l) = Rw.size l := Rw.map_size _ _
/-- A heap of the document, as cells. -/
def WvR (H : GH) (cs : List Value) : Hp → Prop
  | none => cs = [.bool false, .int .i64 0, .int .i64 0, .slice none 0 0]
  | some t => HvR H cs t
theorem WvR.mono {H H' : GH} {cs : List Value} {t : Hp} (h : WvR H cs t) (hl : H.le H') : WvR H' cs t := by
  match t, h with
  | none, h => exact h
  | some t, h => exact HvR.mono h hl
theorem WvR.form {H : GH} {cs : List Value} {t : Hp} (h : WvR H cs t) : ∃ (b : Bool) (p i : Int) (a : Option Addr) (n c : Nat), cs = [.bool b, .int .i64 p, .int .i64 i, .slice a n c] := by
  match t, h with
  | none, h => exact ⟨false, 0, 0, none, 0, 0, h⟩
  | some t, h =>
    obtain ⟨a, n, c, l, e, _⟩ := HvR.open h
    exact ⟨true, _, _, a, n, c, e⟩

set_option maxRecDepth 100000 in
set_option maxHeartbeats 4000000 in
theorem wmeld_ok {w : World} {H : GH} {cs ds : List Value} {s t : Hp} (hf : Fits w H) (hn : Hp.size s + Hp.size t < 800000) (h : WvR H cs s) (k : WvR H ds t) :
    Calls Tryz.prog 11 #[.agg cs.toArray, .agg ds.toArray] w fun e w' => ∃ es H', e = .returned (.tuple #[.agg es.toArray, .int .i64 (Hp.meldC s t + Hp.meldD s t : Nat)]) ∧ Post w H none w' H' 0 0 ∧ WvR H' es (Hp.meld s t) := by
  have hpre : Pre w H none 0 0 := Pre.none hf 0 0
  match s, t, hn, h, k with
  | none, t, hn, h, k =>
    obtain rfl := h
    have k' := k
    obtain ⟨bk, pk, ik, ak, nk, ck, rfl⟩ := k.form
    go_enter Tryz.func11, Tryz.ntmps11
    have h0 := St.start hpre
    refine wp_seq ?_
    repeat (first | simp only [List.nil_append] at h0 | simp only [List.cons_append] at h0 | simp only [List.set_cons_zero] at h0 | simp only [List.set_cons_succ] at h0 | simp only [List.eraseIdx_zero] at h0 | simp only [List.tail_cons] at h0 | simp only [List.eraseIdx_cons_zero] at h0 | simp only [List.eraseIdx_cons_succ] at h0 | simp only [List.setIfInBounds_toArray] at h0)
    refine wp_region_lit ?_
    refine wpList_plainQ rfl (fun K Q' hK => ?_); go_simp
    refine h0.k_alloc (fun w1 h1 => ?_)
    refine hK _ _ ?_; clear hK K; try clear Q'
    refine wpList_plainQ rfl (fun K Q' hK => ?_); go_simp
    refine h1.k_alloc (fun w2 h2 => ?_)
    refine hK _ _ ?_; clear hK K; try clear Q'
    refine wpList_plainQ rfl (fun K Q' hK => ?_); go_simp
    refine h2.k_alloc (fun w3 h3 => ?_)
    refine hK _ _ ?_; clear hK K; try clear Q'
    iterate 1 (refine wpList_plainQ rfl (fun K Q' hK => ?_); go_simp; refine hK _ _ ?_; clear hK K; try clear Q')
    refine wpList_nil ?_
    show Code.wp _ _ _ _ _
    refine wp_seq ?_
    refine wp_seq ?_
    repeat (first | simp only [List.nil_append] at h3 | simp only [List.cons_append] at h3 | simp only [List.set_cons_zero] at h3 | simp only [List.set_cons_succ] at h3 | simp only [List.eraseIdx_zero] at h3 | simp only [List.tail_cons] at h3 | simp only [List.eraseIdx_cons_zero] at h3 | simp only [List.eraseIdx_cons_succ] at h3 | simp only [List.setIfInBounds_toArray] at h3)
    refine wp_region_lit ?_
    have c_0_0 := h3.cell 0 rfl 0 rfl
    iterate 3 (refine wpList_plainQ rfl (fun K Q' hK => ?_); go_simp; refine hK _ _ ?_; clear hK K; try clear Q')
    clear c_0_0
    refine wpList_nil ?_
    show Code.wp _ _ _ _ _
    -- stops at: cond
    refine wp_cond_true (rfl) ?_
    refine wp_seq ?_
    refine wp_region_lit ?_
    have c_1_0 := h3.cell 1 rfl 0 rfl
    have c_1_1 := h3.cell 1 rfl 1 rfl
    have c_1_2 := h3.cell 1 rfl 2 rfl
    have c_1_3 := h3.cell 1 rfl 3 rfl
    iterate 1 (refine wpList_plainQ rfl (fun K Q' hK => ?_); go_simp; refine hK _ _ ?_; clear hK K; try clear Q')
    clear c_1_0 c_1_1 c_1_2 c_1_3
    have c_0 := h3.cell 2 rfl 0 rfl
    have f_0 := h3.free 2 rfl 0
    have c_1 := h3.cell 2 rfl 1 rfl
    have f_1 := h3.free 2 rfl 1
    have c_2 := h3.cell 2 rfl 2 rfl
    have f_2 := h3.free 2 rfl 2
    have c_3 := h3.cell 2 rfl 3 rfl
    have f_3 := h3.free 2 rfl 3
    refine wpList_plainQ rfl (fun K Q' hK => ?_); go_simp
    clear c_0 f_0 c_1 f_1 c_2 f_2 c_3 f_3
    refine (((h3.set (i := 2) rfl 0 _).set (i := 2) rfl 1 _).set (i := 2) rfl 2 _).k_set 2 rfl (fun w4 h4 => ?_)
    refine hK _ _ ?_; clear hK K; try clear Q'
    iterate 1 (refine wpList_plainQ rfl (fun K Q' hK => ?_); go_simp; refine hK _ _ ?_; clear hK K; try clear Q')
    refine wpList_nil ?_
    show Code.wp _ _ _ _ _
    -- stops at: ret
    refine wp_ret ?_
    have r_2_0 := h4.cell 2 rfl 0 rfl
    have r_2_1 := h4.cell 2 rfl 1 rfl
    have r_2_2 := h4.cell 2 rfl 2 rfl
    have r_2_3 := h4.cell 2 rfl 3 rfl
    first | show bodyPost _ _ _ _ _ _ | (simp only [Exit.then]; show bodyPost _ _ _ _ _ _) | (simp only [Exit.inBlock]; show bodyPost _ _ _ _ _ _) | (simp only [Exit.inBlock, Exit.then]; show bodyPost _ _ _ _ _ _) | (simp only [Exit.noGoto, Exit.inBlock, Exit.then]; show bodyPost _ _ _ _ _ _)
    refine bodyPost_ret (v := ?_) ?_ rfl ?_
    rotate_left
    · simp only [results, Tryz.results11]; go_simp; with_reducible rfl
    clear r_2_0 r_2_1 r_2_2 r_2_3
    exact ⟨_, H, rfl, h4.post, k'⟩
  | some a, none, hn, h, k =>
    obtain rfl := k
    have h' := h
    obtain ⟨aa, na, ca, la, rfl, hla, hqa, hda⟩ := HvR.open h
    go_enter Tryz.func11, Tryz.ntmps11
    have h0 := St.start hpre
    refine wp_seq ?_
    repeat (first | simp only [List.nil_append] at h0 | simp only [List.cons_append] at h0 | simp only [List.set_cons_zero] at h0 | simp only [List.set_cons_succ] at h0 | simp only [List.eraseIdx_zero] at h0 | simp only [List.tail_cons] at h0 | simp only [List.eraseIdx_cons_zero] at h0 | simp only [List.eraseIdx_cons_succ] at h0 | simp only [List.setIfInBounds_toArray] at h0)
    refine wp_region_lit ?_
    refine wpList_plainQ rfl (fun K Q' hK => ?_); go_simp
    refine h0.k_alloc (fun w1 h1 => ?_)
    refine hK _ _ ?_; clear hK K; try clear Q'
    refine wpList_plainQ rfl (fun K Q' hK => ?_); go_simp
    refine h1.k_alloc (fun w2 h2 => ?_)
    refine hK _ _ ?_; clear hK K; try clear Q'
    refine wpList_plainQ rfl (fun K Q' hK => ?_); go_simp
    refine h2.k_alloc (fun w3 h3 => ?_)
    refine hK _ _ ?_; clear hK K; try clear Q'
    iterate 1 (refine wpList_plainQ rfl (fun K Q' hK => ?_); go_simp; refine hK _ _ ?_; clear hK K; try clear Q')
    refine wpList_nil ?_
    show Code.wp _ _ _ _ _
    refine wp_seq ?_
    refine wp_seq ?_
    repeat (first | simp only [List.nil_append] at h3 | simp only [List.cons_append] at h3 | simp only [List.set_cons_zero] at h3 | simp only [List.set_cons_succ] at h3 | simp only [List.eraseIdx_zero] at h3 | simp only [List.tail_cons] at h3 | simp only [List.eraseIdx_cons_zero] at h3 | simp only [List.eraseIdx_cons_succ] at h3 | simp only [List.setIfInBounds_toArray] at h3)
    refine wp_region_lit ?_
    have c_0_0 := h3.cell 0 rfl 0 rfl
    iterate 3 (refine wpList_plainQ rfl (fun K Q' hK => ?_); go_simp; refine hK _ _ ?_; clear hK K; try clear Q')
    clear c_0_0
    refine wpList_nil ?_
    show Code.wp _ _ _ _ _
    -- stops at: cond
    refine wp_cond_false (rfl) ?_
    refine wp_skip ?_
    show Code.wp _ _ _ _ _
    refine wp_seq ?_
    refine wp_seq ?_
    refine wp_region_lit ?_
    have c_1_0 := h3.cell 1 rfl 0 rfl
    iterate 3 (refine wpList_plainQ rfl (fun K Q' hK => ?_); go_simp; refine hK _ _ ?_; clear hK K; try clear Q')
    clear c_1_0
    refine wpList_nil ?_
    show Code.wp _ _ _ _ _
    -- stops at: cond
    refine wp_cond_true (rfl) ?_
    refine wp_seq ?_
    refine wp_region_lit ?_
    have c_0_0 := h3.cell 0 rfl 0 rfl
    have c_0_1 := h3.cell 0 rfl 1 rfl
    have c_0_2 := h3.cell 0 rfl 2 rfl
    have c_0_3 := h3.cell 0 rfl 3 rfl
    iterate 1 (refine wpList_plainQ rfl (fun K Q' hK => ?_); go_simp; refine hK _ _ ?_; clear hK K; try clear Q')
    clear c_0_0 c_0_1 c_0_2 c_0_3
    have c_0 := h3.cell 2 rfl 0 rfl
    have f_0 := h3.free 2 rfl 0
    have c_1 := h3.cell 2 rfl 1 rfl
    have f_1 := h3.free 2 rfl 1
    have c_2 := h3.cell 2 rfl 2 rfl
    have f_2 := h3.free 2 rfl 2
    have c_3 := h3.cell 2 rfl 3 rfl
    have f_3 := h3.free 2 rfl 3
    refine wpList_plainQ rfl (fun K Q' hK => ?_); go_simp
    clear c_0 f_0 c_1 f_1 c_2 f_2 c_3 f_3
    refine (((h3.set (i := 2) rfl 0 _).set (i := 2) rfl 1 _).set (i := 2) rfl 2 _).k_set 2 rfl (fun w4 h4 => ?_)
    refine hK _ _ ?_; clear hK K; try clear Q'
    iterate 1 (refine wpList_plainQ rfl (fun K Q' hK => ?_); go_simp; refine hK _ _ ?_; clear hK K; try clear Q')
    refine wpList_nil ?_
    show Code.wp _ _ _ _ _
    -- stops at: ret
    refine wp_ret ?_
    have r_2_0 := h4.cell 2 rfl 0 rfl
    have r_2_1 := h4.cell 2 rfl 1 rfl
    have r_2_2 := h4.cell 2 rfl 2 rfl
    have r_2_3 := h4.cell 2 rfl 3 rfl
    first | show bodyPost _ _ _ _ _ _ | (simp only [Exit.then]; show bodyPost _ _ _ _ _ _) | (simp only [Exit.inBlock]; show bodyPost _ _ _ _ _ _) | (simp only [Exit.inBlock, Exit.then]; show bodyPost _ _ _ _ _ _) | (simp only [Exit.noGoto, Exit.inBlock, Exit.then]; show bodyPost _ _ _ _ _ _)
    refine bodyPost_ret (v := ?_) ?_ rfl ?_
    rotate_left
    · simp only [results, Tryz.results11]; go_simp; with_reducible rfl
    clear r_2_0 r_2_1 r_2_2 r_2_3
    exact ⟨_, H, rfl, h4.post, h'⟩
  | some a, some b, hn, h, k =>
    have h' := h
    have k' := k
    obtain ⟨aa, na, ca, la, rfl, hla, hqa, hda⟩ := HvR.open h
    obtain ⟨ab, nb, cb, lb, rfl, hlb, hqb, hdb⟩ := HvR.open k
    have hsa : Rw.size la < 800000 := by have h1 := BH.queue_le a; rw [← hqa.out, wsnd] at h1; have : a.els.length + b.els.length < 800000 := hn; omega
    have hsb : Rw.size lb < 800000 := by have h1 := BH.queue_le b; rw [← hqb.out, wsnd] at h1; have : a.els.length + b.els.length < 800000 := hn; omega
    cases hlt : El.lt b.root a.root with
    | true =>
      obtain ⟨ic, hic⟩ : ∃ m, Hid (Sk.insC lb + Sk.insD lb = m) := ⟨_, show _ = _ from rfl⟩
      obtain ⟨rr, hrr⟩ : ∃ m, Hid (ic + 2 = m) := ⟨_, show _ = _ from rfl⟩
      have hst4 := Sk.insert_steps lb
      have e1 : IntKind.i64.wrap ((ic : Int) + 2) = (rr : Int) := by have := hic.out; have := hrr.out; rw [IntWalk.i64_in _ (by omega)]; omega
      clear hst4
      go_enter Tryz.func11, Tryz.ntmps11
      have h0 := St.start hpre
      refine wp_seq ?_
      repeat (first | simp only [List.nil_append] at h0 | simp only [List.cons_append] at h0 | simp only [List.set_cons_zero] at h0 | simp only [List.set_cons_succ] at h0 | simp only [List.eraseIdx_zero] at h0 | simp only [List.tail_cons] at h0 | simp only [List.eraseIdx_cons_zero] at h0 | simp only [List.eraseIdx_cons_succ] at h0 | simp only [List.setIfInBounds_toArray] at h0)
      refine wp_region_lit ?_
      refine wpList_plainQ rfl (fun K Q' hK => ?_); go_simp
      refine h0.k_alloc (fun w1 h1 => ?_)
      refine hK _ _ ?_; clear hK K; try clear Q'
      refine wpList_plainQ rfl (fun K Q' hK => ?_); go_simp
      refine h1.k_alloc (fun w2 h2 => ?_)
      refine hK _ _ ?_; clear hK K; try clear Q'
      refine wpList_plainQ rfl (fun K Q' hK => ?_); go_simp
      refine h2.k_alloc (fun w3 h3 => ?_)
      refine hK _ _ ?_; clear hK K; try clear Q'
      iterate 1 (refine wpList_plainQ rfl (fun K Q' hK => ?_); go_simp; refine hK _ _ ?_; clear hK K; try clear Q')
      refine wpList_nil ?_
      show Code.wp _ _ _ _ _
      refine wp_seq ?_
      refine wp_seq ?_
      repeat (first | simp only [List.nil_append] at h3 | simp only [List.cons_append] at h3 | simp only [List.set_cons_zero] at h3 | simp only [List.set_cons_succ] at h3 | simp only [List.eraseIdx_zero] at h3 | simp only [List.tail_cons] at h3 | simp only [List.eraseIdx_cons_zero] at h3 | simp only [List.eraseIdx_cons_succ] at h3 | simp only [List.setIfInBounds_toArray] at h3)
      refine wp_region_lit ?_
      have c_0_0 := h3.cell 0 rfl 0 rfl
      iterate 3 (refine wpList_plainQ rfl (fun K Q' hK => ?_); go_simp; refine hK _ _ ?_; clear hK K; try clear Q')
      clear c_0_0
      refine wpList_nil ?_
      show Code.wp _ _ _ _ _
      -- stops at: cond
      refine wp_cond_false (rfl) ?_
      refine wp_skip ?_
      show Code.wp _ _ _ _ _
      refine wp_seq ?_
      refine wp_seq ?_
      refine wp_region_lit ?_
      have c_1_0 := h3.cell 1 rfl 0 rfl
      iterate 3 (refine wpList_plainQ rfl (fun K Q' hK => ?_); go_simp; refine hK _ _ ?_; clear hK K; try clear Q')
      clear c_1_0
      refine wpList_nil ?_
      show Code.wp _ _ _ _ _
      -- stops at: cond
      refine wp_cond_false (rfl) ?_
      refine wp_skip ?_
      show Code.wp _ _ _ _ _
      refine wp_seq ?_
      refine wp_region_lit ?_
      have c_0_0 := h3.cell 0 rfl 0 rfl
      have c_0_1 := h3.cell 0 rfl 1 rfl
      have c_0_2 := h3.cell 0 rfl 2 rfl
      have c_0_3 := h3.cell 0 rfl 3 rfl
      iterate 1 (refine wpList_plainQ rfl (fun K Q' hK => ?_); go_simp; refine hK _ _ ?_; clear hK K; try clear Q')
      clear c_0_0 c_0_1 c_0_2 c_0_3
      refine wpList_plainQ rfl (fun K Q' hK => ?_); go_simp
      refine h3.k_alloc (fun w4 h4 => ?_)
      refine hK _ _ ?_; clear hK K; try clear Q'
      have c_0 := h4.cell 3 rfl 0 rfl
      have f_0 := h4.free 3 rfl 0
      have c_1 := h4.cell 3 rfl 1 rfl
      have f_1 := h4.free 3 rfl 1
      have c_2 := h4.cell 3 rfl 2 rfl
      have f_2 := h4.free 3 rfl 2
      have c_3 := h4.cell 3 rfl 3 rfl
      have f_3 := h4.free 3 rfl 3
      refine wpList_plainQ rfl (fun K Q' hK => ?_); go_simp
      clear c_0 f_0 c_1 f_1 c_2 f_2 c_3 f_3
      refine (((h4.set (i := 3) rfl 0 _).set (i := 3) rfl 1 _).set (i := 3) rfl 2 _).k_set 3 rfl (fun w5 h5 => ?_)
      refine hK _ _ ?_; clear hK K; try clear Q'
      refine wpList_nil ?_
      show Code.wp _ _ _ _ _
      refine wp_seq ?_
      repeat (first | simp only [List.nil_append] at h5 | simp only [List.cons_append] at h5 | simp only [List.set_cons_zero] at h5 | simp only [List.set_cons_succ] at h5 | simp only [List.eraseIdx_zero] at h5 | simp only [List.tail_cons] at h5 | simp only [List.eraseIdx_cons_zero] at h5 | simp only [List.eraseIdx_cons_succ] at h5 | simp only [List.setIfInBounds_toArray] at h5)
      refine wp_region_lit ?_
      have c_1_0 := h5.cell 1 rfl 0 rfl
      have c_1_1 := h5.cell 1 rfl 1 rfl
      have c_1_2 := h5.cell 1 rfl 2 rfl
      have c_1_3 := h5.cell 1 rfl 3 rfl
      iterate 1 (refine wpList_plainQ rfl (fun K Q' hK => ?_); go_simp; refine hK _ _ ?_; clear hK K; try clear Q')
      clear c_1_0 c_1_1 c_1_2 c_1_3
      refine wpList_plainQ rfl (fun K Q' hK => ?_); go_simp
      refine h5.k_alloc (fun w6 h6 => ?_)
      refine hK _ _ ?_; clear hK K; try clear Q'
      have c_0 := h6.cell 4 rfl 0 rfl
      have f_0 := h6.free 4 rfl 0
      have c_1 := h6.cell 4 rfl 1 rfl
      have f_1 := h6.free 4 rfl 1
      have c_2 := h6.cell 4 rfl 2 rfl
      have f_2 := h6.free 4 rfl 2
      have c_3 := h6.cell 4 rfl 3 rfl
      have f_3 := h6.free 4 rfl 3
      refine wpList_plainQ rfl (fun K Q' hK => ?_); go_simp
      clear c_0 f_0 c_1 f_1 c_2 f_2 c_3 f_3
      refine (((h6.set (i := 4) rfl 0 _).set (i := 4) rfl 1 _).set (i := 4) rfl 2 _).k_set 4 rfl (fun w7 h7 => ?_)
      refine hK _ _ ?_; clear hK K; try clear Q'
      refine wpList_nil ?_
      show Code.wp _ _ _ _ _
      refine wp_seq ?_
      repeat (first | simp only [List.nil_append] at h7 | simp only [List.cons_append] at h7 | simp only [List.set_cons_zero] at h7 | simp only [List.set_cons_succ] at h7 | simp only [List.eraseIdx_zero] at h7 | simp only [List.tail_cons] at h7 | simp only [List.eraseIdx_cons_zero] at h7 | simp only [List.eraseIdx_cons_succ] at h7 | simp only [List.setIfInBounds_toArray] at h7)
      refine wp_region_lit ?_
      have c_1_1 := h7.cell 1 rfl 1 rfl
      have c_1_2 := h7.cell 1 rfl 2 rfl
      have c_0_1 := h7.cell 0 rfl 1 rfl
      have c_0_2 := h7.cell 0 rfl 2 rfl
      iterate 4 (refine wpList_plainQ rfl (fun K Q' hK => ?_); go_simp; refine hK _ _ ?_; clear hK K; try clear Q')
      clear c_1_1 c_1_2 c_0_1 c_0_2
      -- stops at: eff:call (Go.Op.call {'callee': (Go.Callee.value (Go.Operand.func 26)), 'args': [(Go.Operand.tmp 22), (Go.Operand.tmp 24)], 'argTypes': [32, 32]}) slot 25
      refine wpList_plainQ rfl (fun K Q' hK => ?_); go_simp
      refine (rless_ok H _ b.root a.root h7.fits).mono ?_
      rintro e wA ⟨rfl, hkA⟩
      rw [hlt]
      have h8 := h7.callk hkA
      refine hK _ _ ?_; clear hK K; try clear Q'
      iterate 1 (refine wpList_plainQ rfl (fun K Q' hK => ?_); go_simp; refine hK _ _ ?_; clear hK K; try clear Q')
      refine wpList_nil ?_
      show Code.wp _ _ _ _ _
      refine wp_seq ?_
      refine wp_seq ?_
      repeat (first | simp only [List.nil_append] at h8 | simp only [List.cons_append] at h8 | simp only [List.set_cons_zero] at h8 | simp only [List.set_cons_succ] at h8 | simp only [List.eraseIdx_zero] at h8 | simp only [List.tail_cons] at h8 | simp only [List.eraseIdx_cons_zero] at h8 | simp only [List.eraseIdx_cons_succ] at h8 | simp only [List.setIfInBounds_toArray] at h8)
      refine wp_region_lit ?_
      iterate 1 (refine wpList_plainQ rfl (fun K Q' hK => ?_); go_simp; refine hK _ _ ?_; clear hK K; try clear Q')
      refine wpList_nil ?_
      show Code.wp _ _ _ _ _
      -- stops at: cond
      refine wp_cond_true (rfl) ?_
      refine wp_seq ?_
      refine wp_region_lit ?_
      have c_1_0 := h8.cell 1 rfl 0 rfl
      have c_1_1 := h8.cell 1 rfl 1 rfl
      have c_1_2 := h8.cell 1 rfl 2 rfl
      have c_1_3 := h8.cell 1 rfl 3 rfl
      iterate 1 (refine wpList_plainQ rfl (fun K Q' hK => ?_); go_simp; refine hK _ _ ?_; clear hK K; try clear Q')
      clear c_1_0 c_1_1 c_1_2 c_1_3
      have c_0 := h8.cell 3 rfl 0 rfl
      have f_0 := h8.free 3 rfl 0
      have c_1 := h8.cell 3 rfl 1 rfl
      have f_1 := h8.free 3 rfl 1
      have c_2 := h8.cell 3 rfl 2 rfl
      have f_2 := h8.free 3 rfl 2
      have c_3 := h8.cell 3 rfl 3 rfl
      have f_3 := h8.free 3 rfl 3
      refine wpList_plainQ rfl (fun K Q' hK => ?_); go_simp
      clear c_0 f_0 c_1 f_1 c_2 f_2 c_3 f_3
      refine (((h8.set (i := 3) rfl 0 _).set (i := 3) rfl 1 _).set (i := 3) rfl 2 _).k_set 3 rfl (fun w9 h9 => ?_)
      refine hK _ _ ?_; clear hK K; try clear Q'
      refine wpList_nil ?_
      show Code.wp _ _ _ _ _
      repeat (first | simp only [List.nil_append] at h9 | simp only [List.cons_append] at h9 | simp only [List.set_cons_zero] at h9 | simp only [List.set_cons_succ] at h9 | simp only [List.eraseIdx_zero] at h9 | simp only [List.tail_cons] at h9 | simp only [List.eraseIdx_cons_zero] at h9 | simp only [List.eraseIdx_cons_succ] at h9 | simp only [List.setIfInBounds_toArray] at h9)
      refine wp_region_lit ?_
      have c_0_0 := h9.cell 0 rfl 0 rfl
      have c_0_1 := h9.cell 0 rfl 1 rfl
      have c_0_2 := h9.cell 0 rfl 2 rfl
      have c_0_3 := h9.cell 0 rfl 3 rfl
      iterate 1 (refine wpList_plainQ rfl (fun K Q' hK => ?_); go_simp; refine hK _ _ ?_; clear hK K; try clear Q')
      clear c_0_0 c_0_1 c_0_2 c_0_3
      have c_0 := h9.cell 4 rfl 0 rfl
      have f_0 := h9.free 4 rfl 0
      have c_1 := h9.cell 4 rfl 1 rfl
      have f_1 := h9.free 4 rfl 1
      have c_2 := h9.cell 4 rfl 2 rfl
      have f_2 := h9.free 4 rfl 2
      have c_3 := h9.cell 4 rfl 3 rfl
      have f_3 := h9.free 4 rfl 3
      refine wpList_plainQ rfl (fun K Q' hK => ?_); go_simp
      clear c_0 f_0 c_1 f_1 c_2 f_2 c_3 f_3
      refine (((h9.set (i := 4) rfl 0 _).set (i := 4) rfl 1 _).set (i := 4) rfl 2 _).k_set 4 rfl (fun w10 h10 => ?_)
      refine hK _ _ ?_; clear hK K; try clear Q'
      refine wpList_nil ?_
      show Code.wp _ _ _ _ _
      refine wp_seq ?_
      repeat (first | simp only [List.nil_append] at h10 | simp only [List.cons_append] at h10 | simp only [List.set_cons_zero] at h10 | simp only [List.set_cons_succ] at h10 | simp only [List.eraseIdx_zero] at h10 | simp only [List.tail_cons] at h10 | simp only [List.eraseIdx_cons_zero] at h10 | simp only [List.eraseIdx_cons_succ] at h10 | simp only [List.setIfInBounds_toArray] at h10)
      refine wp_region_lit ?_
      have c_4_0 := h10.cell 4 rfl 0 rfl
      have c_4_1 := h10.cell 4 rfl 1 rfl
      have c_4_2 := h10.cell 4 rfl 2 rfl
      have c_4_3 := h10.cell 4 rfl 3 rfl
      have c_3_3 := h10.cell 3 rfl 3 rfl
      iterate 3 (refine wpList_plainQ rfl (fun K Q' hK => ?_); go_simp; refine hK _ _ ?_; clear hK K; try clear Q')
      clear c_4_0 c_4_1 c_4_2 c_4_3 c_3_3
      -- stops at: eff:call (Go.Op.call {'callee': (Go.Callee.value (Go.Operand.func 27)), 'args': [(Go.Operand.tmp 30), (Go.Operand.tmp 32)], 'argTypes': [35, 33]}) slot 33
      -- stops at: eff:call (Go.Op.call {'callee': (Go.Callee.value (Go.Operand.func 27)), 'args': [(Go.Operand.tmp 30), (Go.Operand.tmp 32)], 'argTypes': [35, 33]}) slot 33
      refine wpList_plainQ rfl (fun K Q' hK => ?_); go_simp
      refine (wins_ok H _ (([.bool true, .int .i64 a.root.1, .int .i64 a.root.2, .slice aa na ca] : List Value), a) _ lb ⟨_, _, _, rfl⟩ h10.fits (by omega) hlb).mono ?_
      rintro e wB ⟨q, H2, rfl, hpB, hB⟩
      rw [hic.out]
      have hB' := hB
      obtain ⟨aQ, cQ, rfl, _, _⟩ := hB.form
      have hle2 := hpB.le
      have h11 := h10.call0 hpB
      refine hK _ _ ?_; clear hK K; try clear Q'
      iterate 5 (refine wpList_plainQ rfl (fun K Q' hK => ?_); go_simp; refine hK _ _ ?_; clear hK K; try clear Q')
      refine wpList_nil ?_
      show Code.wp _ _ _ _ _
      refine wp_seq ?_
      repeat (first | simp only [List.nil_append] at h11 | simp only [List.cons_append] at h11 | simp only [List.set_cons_zero] at h11 | simp only [List.set_cons_succ] at h11 | simp only [List.eraseIdx_zero] at h11 | simp only [List.tail_cons] at h11 | simp only [List.eraseIdx_cons_zero] at h11 | simp only [List.eraseIdx_cons_succ] at h11 | simp only [List.setIfInBounds_toArray] at h11)
      refine wp_region_lit ?_
      have c_3_1 := h11.cell 3 rfl 1 rfl
      have c_3_2 := h11.cell 3 rfl 2 rfl
      iterate 6 (refine wpList_plainQ rfl (fun K Q' hK => ?_); go_simp; refine hK _ _ ?_; clear hK K; try clear Q')
      clear c_3_1 c_3_2
      have c_0 := h11.cell 2 rfl 0 rfl
      have f_0 := h11.free 2 rfl 0
      have c_1 := h11.cell 2 rfl 1 rfl
      have f_1 := h11.free 2 rfl 1
      have c_2 := h11.cell 2 rfl 2 rfl
      have f_2 := h11.free 2 rfl 2
      have c_3 := h11.cell 2 rfl 3 rfl
      have f_3 := h11.free 2 rfl 3
      refine wpList_plainQ rfl (fun K Q' hK => ?_); go_simp
      clear c_0 f_0 c_1 f_1 c_2 f_2 c_3 f_3
      refine (((h11.set (i := 2) rfl 0 _).set (i := 2) rfl 1 _).set (i := 2) rfl 2 _).k_set 2 rfl (fun w12 h12 => ?_)
      refine hK _ _ ?_; clear hK K; try clear Q'
      iterate 1 (refine wpList_plainQ rfl (fun K Q' hK => ?_); go_simp; refine hK _ _ ?_; clear hK K; try clear Q')
      refine wpList_nil ?_
      show Code.wp _ _ _ _ _
      -- stops at: ret
      refine wp_ret ?_
      have r_2_0 := h12.cell 2 rfl 0 rfl
      have r_2_1 := h12.cell 2 rfl 1 rfl
      have r_2_2 := h12.cell 2 rfl 2 rfl
      have r_2_3 := h12.cell 2 rfl 3 rfl
      first | show bodyPost _ _ _ _ _ _ | (simp only [Exit.then]; show bodyPost _ _ _ _ _ _) | (simp only [Exit.inBlock]; show bodyPost _ _ _ _ _ _) | (simp only [Exit.inBlock, Exit.then]; show bodyPost _ _ _ _ _ _) | (simp only [Exit.noGoto, Exit.inBlock, Exit.then]; show bodyPost _ _ _ _ _ _)
      refine bodyPost_ret (v := ?_) ?_ rfl ?_
      rotate_left
      · simp only [results, Tryz.results11]; go_simp; with_reducible rfl
      clear r_2_0 r_2_1 r_2_2 r_2_3
      have hmap := Sk.map_insert Prod.snd BH.root (([.bool true, .int .i64 a.root.1, .int .i64 a.root.2, .slice aa na ca] : List Value), a) lb
      have e1 : Hp.meldC (some a) (some b) = 1 + Sk.insC lb := by show 1 + Sk.insC (BH.winQ a b) = _; rw [BH.winQ_lt hlt, ← hqb.out, hmap.2.1]
      have e2 : Hp.meldD (some a) (some b) = Sk.insD lb + 1 := by show Sk.insD (BH.winQ a b) + 1 = _; rw [BH.winQ_lt hlt, ← hqb.out, hmap.2.2]
      have hcd : Hp.meldC (some a) (some b) + Hp.meldD (some a) (some b) = rr := by rw [e1, e2]; have := hic.out; have := hrr.out; omega
      refine ⟨[.bool true, .int .i64 b.root.1, .int .i64 b.root.2, .slice aQ _ cQ], H2, by rw [hcd], h12.post, ?_⟩
      rw [show Hp.meld (some a) (some b) = some (BH.win a b) from rfl, BH.win_lt hlt]
      refine HvR.mk _ hB' ?_ (fun y hy => ?_)
      · rw [← hqb.out]; exact hmap.1
      · rcases List.mem_cons.1 ((Sk.insert_perm kw _ lb).subset hy) with rfl | hy
        · exact h'.mono hle2
        · exact (hdb y hy).mono hle2
    | false =>
      obtain ⟨ic, hic⟩ : ∃ m, Hid (Sk.insC la + Sk.insD la = m) := ⟨_, show _ = _ from rfl⟩
      obtain ⟨rr, hrr⟩ : ∃ m, Hid (ic + 2 = m) := ⟨_, show _ = _ from rfl⟩
      have hst4 := Sk.insert_steps la
      have e1 : IntKind.i64.wrap ((ic : Int) + 2) = (rr : Int) := by have := hic.out; have := hrr.out; rw [IntWalk.i64_in _ (by omega)]; omega
      clear hst4
      go_enter Tryz.func11, Tryz.ntmps11
      have h0 := St.start hpre
      refine wp_seq ?_
      repeat (first | simp only [List.nil_append] at h0 | simp only [List.cons_append] at h0 | simp only [List.set_cons_zero] at h0 | simp only [List.set_cons_succ] at h0 | simp only [List.eraseIdx_zero] at h0 | simp only [List.tail_cons] at h0 | simp only [List.eraseIdx_cons_zero] at h0 | simp only [List.eraseIdx_cons_succ] at h0 | simp only [List.setIfInBounds_toArray] at h0)
      refine wp_region_lit ?_
      refine wpList_plainQ rfl (fun K Q' hK => ?_); go_simp
      refine h0.k_alloc (fun w1 h1 => ?_)
      refine hK _ _ ?_; clear hK K; try clear Q'
      refine wpList_plainQ rfl (fun K Q' hK => ?_); go_simp
      refine h1.k_alloc (fun w2 h2 => ?_)
      refine hK _ _ ?_; clear hK K; try clear Q'
      refine wpList_plainQ rfl (fun K Q' hK => ?_); go_simp
      refine h2.k_alloc (fun w3 h3 => ?_)
      refine hK _ _ ?_; clear hK K; try clear Q'
      iterate 1 (refine wpList_plainQ rfl (fun K Q' hK => ?_); go_simp; refine hK _ _ ?_; clear hK K; try clear Q')
      refine wpList_nil ?_
      show Code.wp _ _ _ _ _
      refine wp_seq ?_
      refine wp_seq ?_
      repeat (first | simp only [List.nil_append] at h3 | simp only [List.cons_append] at h3 | simp only [List.set_cons_zero] at h3 | simp only [List.set_cons_succ] at h3 | simp only [List.eraseIdx_zero] at h3 | simp only [List.tail_cons] at h3 | simp only [List.eraseIdx_cons_zero] at h3 | simp only [List.eraseIdx_cons_succ] at h3 | simp only [List.setIfInBounds_toArray] at h3)
      refine wp_region_lit ?_
      have c_0_0 := h3.cell 0 rfl 0 rfl
      iterate 3 (refine wpList_plainQ rfl (fun K Q' hK => ?_); go_simp; refine hK _ _ ?_; clear hK K; try clear Q')
      clear c_0_0
      refine wpList_nil ?_
      show Code.wp _ _ _ _ _
      -- stops at: cond
      refine wp_cond_false (rfl) ?_
      refine wp_skip ?_
      show Code.wp _ _ _ _ _
      refine wp_seq ?_
      refine wp_seq ?_
      refine wp_region_lit ?_
      have c_1_0 := h3.cell 1 rfl 0 rfl
      iterate 3 (refine wpList_plainQ rfl (fun K Q' hK => ?_); go_simp; refine hK _ _ ?_; clear hK K; try clear Q')
      clear c_1_0
      refine wpList_nil ?_
      show Code.wp _ _ _ _ _
      -- stops at: cond
      refine wp_cond_false (rfl) ?_
      refine wp_skip ?_
      show Code.wp _ _ _ _ _
      refine wp_seq ?_
      refine wp_region_lit ?_
      have c_0_0 := h3.cell 0 rfl 0 rfl
      have c_0_1 := h3.cell 0 rfl 1 rfl
      have c_0_2 := h3.cell 0 rfl 2 rfl
      have c_0_3 := h3.cell 0 rfl 3 rfl
      iterate 1 (refine wpList_plainQ rfl (fun K Q' hK => ?_); go_simp; refine hK _ _ ?_; clear hK K; try clear Q')
      clear c_0_0 c_0_1 c_0_2 c_0_3
      refine wpList_plainQ rfl (fun K Q' hK => ?_); go_simp
      refine h3.k_alloc (fun w4 h4 => ?_)
      refine hK _ _ ?_; clear hK K; try clear Q'
      have c_0 := h4.cell 3 rfl 0 rfl
      have f_0 := h4.free 3 rfl 0
      have c_1 := h4.cell 3 rfl 1 rfl
      have f_1 := h4.free 3 rfl 1
      have c_2 := h4.cell 3 rfl 2 rfl
      have f_2 := h4.free 3 rfl 2
      have c_3 := h4.cell 3 rfl 3 rfl
      have f_3 := h4.free 3 rfl 3
      refine wpList_plainQ rfl (fun K Q' hK => ?_); go_simp
      clear c_0 f_0 c_1 f_1 c_2 f_2 c_3 f_3
      refine (((h4.set (i := 3) rfl 0 _).set (i := 3) rfl 1 _).set (i := 3) rfl 2 _).k_set 3 rfl (fun w5 h5 => ?_)
      refine hK _ _ ?_; clear hK K; try clear Q'
      refine wpList_nil ?_
      show Code.wp _ _ _ _ _
      refine wp_seq ?_
      repeat (first | simp only [List.nil_append] at h5 | simp only [List.cons_append] at h5 | simp only [List.set_cons_zero] at h5 | simp only [List.set_cons_succ] at h5 | simp only [List.eraseIdx_zero] at h5 | simp only [List.tail_cons] at h5 | simp only [List.eraseIdx_cons_zero] at h5 | simp only [List.eraseIdx_cons_succ] at h5 | simp only [List.setIfInBounds_toArray] at h5)
      refine wp_region_lit ?_
      have c_1_0 := h5.cell 1 rfl 0 rfl
      have c_1_1 := h5.cell 1 rfl 1 rfl
      have c_1_2 := h5.cell 1 rfl 2 rfl
      have c_1_3 := h5.cell 1 rfl 3 rfl
      iterate 1 (refine wpList_plainQ rfl (fun K Q' hK => ?_); go_simp; refine hK _ _ ?_; clear hK K; try clear Q')
      clear c_1_0 c_1_1 c_1_2 c_1_3
      refine wpList_plainQ rfl (fun K Q' hK => ?_); go_simp
      refine h5.k_alloc (fun w6 h6 => ?_)
      refine hK _ _ ?_; clear hK K; try clear Q'
      have c_0 := h6.cell 4 rfl 0 rfl
      have f_0 := h6.free 4 rfl 0
      have c_1 := h6.cell 4 rfl 1 rfl
      have f_1 := h6.free 4 rfl 1
      have c_2 := h6.cell 4 rfl 2 rfl
      have f_2 := h6.free 4 rfl 2
      have c_3 := h6.cell 4 rfl 3 rfl
      have f_3 := h6.free 4 rfl 3
      refine wpList_plainQ rfl (fun K Q' hK => ?_); go_simp
      clear c_0 f_0 c_1 f_1 c_2 f_2 c_3 f_3
      refine (((h6.set (i := 4) rfl 0 _).set (i := 4) rfl 1 _).set (i := 4) rfl 2 _).k_set 4 rfl (fun w7 h7 => ?_)
      refine hK _ _ ?_; clear hK K; try clear Q'
      refine wpList_nil ?_
      show Code.wp _ _ _ _ _
      refine wp_seq ?_
      repeat (first | simp only [List.nil_append] at h7 | simp only [List.cons_append] at h7 | simp only [List.set_cons_zero] at h7 | simp only [List.set_cons_succ] at h7 | simp only [List.eraseIdx_zero] at h7 | simp only [List.tail_cons] at h7 | simp only [List.eraseIdx_cons_zero] at h7 | simp only [List.eraseIdx_cons_succ] at h7 | simp only [List.setIfInBounds_toArray] at h7)
      refine wp_region_lit ?_
      have c_1_1 := h7.cell 1 rfl 1 rfl
      have c_1_2 := h7.cell 1 rfl 2 rfl
      have c_0_1 := h7.cell 0 rfl 1 rfl
      have c_0_2 := h7.cell 0 rfl 2 rfl
      iterate 4 (refine wpList_plainQ rfl (fun K Q' hK => ?_); go_simp; refine hK _ _ ?_; clear hK K; try clear Q')
      clear c_1_1 c_1_2 c_0_1 c_0_2
      -- stops at: eff:call (Go.Op.call {'callee': (Go.Callee.value (Go.Operand.func 26)), 'args': [(Go.Operand.tmp 22), (Go.Operand.tmp 24)], 'argTypes': [32, 32]}) slot 25
      refine wpList_plainQ rfl (fun K Q' hK => ?_); go_simp
      refine (rless_ok H _ b.root a.root h7.fits).mono ?_
      rintro e wA ⟨rfl, hkA⟩
      rw [hlt]
      have h8 := h7.callk hkA
      refine hK _ _ ?_; clear hK K; try clear Q'
      iterate 1 (refine wpList_plainQ rfl (fun K Q' hK => ?_); go_simp; refine hK _ _ ?_; clear hK K; try clear Q')
      refine wpList_nil ?_
      show Code.wp _ _ _ _ _
      refine wp_seq ?_
      refine wp_seq ?_
      repeat (first | simp only [List.nil_append] at h8 | simp only [List.cons_append] at h8 | simp only [List.set_cons_zero] at h8 | simp only [List.set_cons_succ] at h8 | simp only [List.eraseIdx_zero] at h8 | simp only [List.tail_cons] at h8 | simp only [List.eraseIdx_cons_zero] at h8 | simp only [List.eraseIdx_cons_succ] at h8 | simp only [List.setIfInBounds_toArray] at h8)
      refine wp_region_lit ?_
      iterate 1 (refine wpList_plainQ rfl (fun K Q' hK => ?_); go_simp; refine hK _ _ ?_; clear hK K; try clear Q')
      refine wpList_nil ?_
      show Code.wp _ _ _ _ _
      -- stops at: cond
      refine wp_cond_false (rfl) ?_
      refine wp_skip ?_
      show Code.wp _ _ _ _ _
      refine wp_seq ?_
      refine wp_region_lit ?_
      have c_4_0 := h8.cell 4 rfl 0 rfl
      have c_4_1 := h8.cell 4 rfl 1 rfl
      have c_4_2 := h8.cell 4 rfl 2 rfl
      have c_4_3 := h8.cell 4 rfl 3 rfl
      have c_3_3 := h8.cell 3 rfl 3 rfl
      iterate 3 (refine wpList_plainQ rfl (fun K Q' hK => ?_); go_simp; refine hK _ _ ?_; clear hK K; try clear Q')
      clear c_4_0 c_4_1 c_4_2 c_4_3 c_3_3
      -- stops at: eff:call (Go.Op.call {'callee': (Go.Callee.value (Go.Operand.func 27)), 'args': [(Go.Operand.tmp 30), (Go.Operand.tmp 32)], 'argTypes': [35, 33]}) slot 33
      refine wpList_plainQ rfl (fun K Q' hK => ?_); go_simp
      refine (wins_ok H _ (([.bool true, .int .i64 b.root.1, .int .i64 b.root.2, .slice ab nb cb] : List Value), b) _ la ⟨_, _, _, rfl⟩ h8.fits (by omega) hla).mono ?_
      rintro e wB ⟨q, H2, rfl, hpB, hB⟩
      rw [hic.out]
      have hB' := hB
      obtain ⟨aQ, cQ, rfl, _, _⟩ := hB.form
      have hle2 := hpB.le
      have h9 := h8.call0 hpB
      refine hK _ _ ?_; clear hK K; try clear Q'
      iterate 5 (refine wpList_plainQ rfl (fun K Q' hK => ?_); go_simp; refine hK _ _ ?_; clear hK K; try clear Q')
      refine wpList_nil ?_
      show Code.wp _ _ _ _ _
      refine wp_seq ?_
      repeat (first | simp only [List.nil_append] at h9 | simp only [List.cons_append] at h9 | simp only [List.set_cons_zero] at h9 | simp only [List.set_cons_succ] at h9 | simp only [List.eraseIdx_zero] at h9 | simp only [List.tail_cons] at h9 | simp only [List.eraseIdx_cons_zero] at h9 | simp only [List.eraseIdx_cons_succ] at h9 | simp only [List.setIfInBounds_toArray] at h9)
      refine wp_region_lit ?_
      have c_3_1 := h9.cell 3 rfl 1 rfl
      have c_3_2 := h9.cell 3 rfl 2 rfl
      iterate 6 (refine wpList_plainQ rfl (fun K Q' hK => ?_); go_simp; refine hK _ _ ?_; clear hK K; try clear Q')
      clear c_3_1 c_3_2
      have c_0 := h9.cell 2 rfl 0 rfl
      have f_0 := h9.free 2 rfl 0
      have c_1 := h9.cell 2 rfl 1 rfl
      have f_1 := h9.free 2 rfl 1
      have c_2 := h9.cell 2 rfl 2 rfl
      have f_2 := h9.free 2 rfl 2
      have c_3 := h9.cell 2 rfl 3 rfl
      have f_3 := h9.free 2 rfl 3
      refine wpList_plainQ rfl (fun K Q' hK => ?_); go_simp
      clear c_0 f_0 c_1 f_1 c_2 f_2 c_3 f_3
      refine (((h9.set (i := 2) rfl 0 _).set (i := 2) rfl 1 _).set (i := 2) rfl 2 _).k_set 2 rfl (fun w10 h10 => ?_)
      refine hK _ _ ?_; clear hK K; try clear Q'
      iterate 1 (refine wpList_plainQ rfl (fun K Q' hK => ?_); go_simp; refine hK _ _ ?_; clear hK K; try clear Q')
      refine wpList_nil ?_
      show Code.wp _ _ _ _ _
      -- stops at: ret
      refine wp_ret ?_
      have r_2_0 := h10.cell 2 rfl 0 rfl
      have r_2_1 := h10.cell 2 rfl 1 rfl
      have r_2_2 := h10.cell 2 rfl 2 rfl
      have r_2_3 := h10.cell 2 rfl 3 rfl
      first | show bodyPost _ _ _ _ _ _ | (simp only [Exit.then]; show bodyPost _ _ _ _ _ _) | (simp only [Exit.inBlock]; show bodyPost _ _ _ _ _ _) | (simp only [Exit.inBlock, Exit.then]; show bodyPost _ _ _ _ _ _) | (simp only [Exit.noGoto, Exit.inBlock, Exit.then]; show bodyPost _ _ _ _ _ _)
      refine bodyPost_ret (v := ?_) ?_ rfl ?_
      rotate_left
      · simp only [results, Tryz.results11]; go_simp; with_reducible rfl
      clear r_2_0 r_2_1 r_2_2 r_2_3
      have hmap := Sk.map_insert Prod.snd BH.root (([.bool true, .int .i64 b.root.1, .int .i64 b.root.2, .slice ab nb cb] : List Value), b) la
      have e1 : Hp.meldC (some a) (some b) = 1 + Sk.insC la := by show 1 + Sk.insC (BH.winQ a b) = _; rw [BH.winQ_ge hlt, ← hqa.out, hmap.2.1]
      have e2 : Hp.meldD (some a) (some b) = Sk.insD la + 1 := by show Sk.insD (BH.winQ a b) + 1 = _; rw [BH.winQ_ge hlt, ← hqa.out, hmap.2.2]
      have hcd : Hp.meldC (some a) (some b) + Hp.meldD (some a) (some b) = rr := by rw [e1, e2]; have := hic.out; have := hrr.out; omega
      refine ⟨[.bool true, .int .i64 a.root.1, .int .i64 a.root.2, .slice aQ _ cQ], H2, by rw [hcd], h10.post, ?_⟩
      rw [show Hp.meld (some a) (some b) = some (BH.win a b) from rfl, BH.win_ge hlt]
      refine HvR.mk _ hB' ?_ (fun y hy => ?_)
      · rw [← hqa.out]; exact hmap.1
      · rcases List.mem_cons.1 ((Sk.insert_perm kw _ la).subset hy) with rfl | hy
        · exact k'.mono hle2
        · exact (hda y hy).mono hle2

set_option maxRecDepth 100000 in
set_option maxHeartbeats 4000000 in
theorem winsert_ok {w : World} {H : GH} {cs : List Value} {t : Hp} (x : El) (hf : Fits w H) (hn : Hp.size t < 700000) (h : WvR H cs t) :
    Calls Tryz.prog 9 #[elV x, .agg cs.toArray] w fun e w' => ∃ ds H', e = .returned (.tuple #[.agg ds.toArray, .int .i64 (Hp.insC x t + Hp.insD x t : Nat)]) ∧ Post w H none w' H' 0 0 ∧ WvR H' ds (Hp.insert x t) := by
  have hpre : Pre w H none 0 0 := Pre.none hf 0 0
  have h' := h
  obtain ⟨bk, pk, ik, ak, nk, ck, rfl⟩ := h.form
  have hone : WvR H [.bool true, .int .i64 x.1, .int .i64 x.2, .slice none 0 0] (some (BH.single x)) := HvR.mk [] (RsW.nil H) rfl (by simp [Rw.els])
  have hsz1 : Hp.size (some (BH.single x)) = 1 := by show (Hp.els (some (BH.single x))).length = 1; rw [Hp.els_single]; rfl
  obtain ⟨ic, hic⟩ : ∃ m, Hid (Hp.meldC (some (BH.single x)) t + Hp.meldD (some (BH.single x)) t = m) := ⟨_, show _ = _ from rfl⟩
  obtain ⟨rr, hrr⟩ : ∃ m, Hid (ic + 1 = m) := ⟨_, show _ = _ from rfl⟩
  have hst : ic ≤ 6 := by
    rw [← hic.out]
    cases t with
    | none => simp [Hp.meldC, Hp.meldD]
    | some b =>
      show 1 + Sk.insC (BH.winQ (BH.single x) b) + (Sk.insD (BH.winQ (BH.single x) b) + 1) ≤ 6
      have := Sk.insert_steps (BH.winQ (BH.single x) b)
      omega
  have e1 : IntKind.i64.wrap ((ic : Int) + 1) = (rr : Int) := by have := hrr.out; rw [IntWalk.i64_in _ (by omega)]; omega
  have hcd : Hp.insC x t + Hp.insD x t = rr := by
    show Hp.meldC (some (BH.single x)) t + (1 + Hp.meldD (some (BH.single x)) t) = rr
    have := hic.out
    have := hrr.out
    omega
  clear hst
  go_enter Tryz.func9, Tryz.ntmps9
  have h0 := St.start hpre
  refine wp_seq ?_
  repeat (first | simp only [List.nil_append] at h0 | simp only [List.cons_append] at h0 | simp only [List.set_cons_zero] at h0 | simp only [List.set_cons_succ] at h0 | simp only [List.eraseIdx_zero] at h0 | simp only [List.tail_cons] at h0 | simp only [List.eraseIdx_cons_zero] at h0 | simp only [List.eraseIdx_cons_succ] at h0 | simp only [List.setIfInBounds_toArray] at h0)
  refine wp_region_lit ?_
  refine wpList_plainQ rfl (fun K Q' hK => ?_); go_simp
  refine h0.k_alloc (fun w1 h1 => ?_)
  refine hK _ _ ?_; clear hK K; try clear Q'
  refine wpList_plainQ rfl (fun K Q' hK => ?_); go_simp
  refine h1.k_alloc (fun w2 h2 => ?_)
  refine hK _ _ ?_; clear hK K; try clear Q'
  refine wpList_plainQ rfl (fun K Q' hK => ?_); go_simp
  refine h2.k_alloc (fun w3 h3 => ?_)
  refine hK _ _ ?_; clear hK K; try clear Q'
  iterate 1 (refine wpList_plainQ rfl (fun K Q' hK => ?_); go_simp; refine hK _ _ ?_; clear hK K; try clear Q')
  refine wpList_nil ?_
  show Code.wp _ _ _ _ _
  refine wp_seq ?_
  repeat (first | simp only [List.nil_append] at h3 | simp only [List.cons_append] at h3 | simp only [List.set_cons_zero] at h3 | simp only [List.set_cons_succ] at h3 | simp only [List.eraseIdx_zero] at h3 | simp only [List.tail_cons] at h3 | simp only [List.eraseIdx_cons_zero] at h3 | simp only [List.eraseIdx_cons_succ] at h3 | simp only [List.setIfInBounds_toArray] at h3)
  refine wp_region_lit ?_
  have c_0_0 := h3.cell 0 rfl 0 rfl
  have c_0_1 := h3.cell 0 rfl 1 rfl
  have c_1_0 := h3.cell 1 rfl 0 rfl
  have c_1_1 := h3.cell 1 rfl 1 rfl
  have c_1_2 := h3.cell 1 rfl 2 rfl
  have c_1_3 := h3.cell 1 rfl 3 rfl
  iterate 3 (refine wpList_plainQ rfl (fun K Q' hK => ?_); go_simp; refine hK _ _ ?_; clear hK K; try clear Q')
  clear c_0_0 c_0_1 c_1_0 c_1_1 c_1_2 c_1_3
  -- stops at: eff:call (Go.Op.call {'callee': (Go.Callee.value (Go.Operand.func 11)), 'args': [(Go.Operand.tmp 10), (Go.Operand.tmp 11)], 'argTypes': [35, 35]}) slot 12
  refine wpList_plainQ rfl (fun K Q' hK => ?_); go_simp
  refine (wmeld_ok h3.fits (by omega) hone h').mono ?_
  rintro e wA ⟨es, H1, rfl, hpA, hA⟩
  rw [hic.out]
  have hA' := hA
  obtain ⟨bm, pm, im, am, nm, cm, rfl⟩ := hA.form
  have h4 := h3.call0 hpA
  refine hK _ _ ?_; clear hK K; try clear Q'
  iterate 3 (refine wpList_plainQ rfl (fun K Q' hK => ?_); go_simp; refine hK _ _ ?_; clear hK K; try clear Q')
  refine wpList_plainQ rfl (fun K Q' hK => ?_); go_simp
  refine h4.k_alloc (fun w5 h5 => ?_)
  refine hK _ _ ?_; clear hK K; try clear Q'
  have c_0 := h5.cell 3 rfl 0 rfl
  have f_0 := h5.free 3 rfl 0
  have c_1 := h5.cell 3 rfl 1 rfl
  have f_1 := h5.free 3 rfl 1
  have c_2 := h5.cell 3 rfl 2 rfl
  have f_2 := h5.free 3 rfl 2
  have c_3 := h5.cell 3 rfl 3 rfl
  have f_3 := h5.free 3 rfl 3
  refine wpList_plainQ rfl (fun K Q' hK => ?_); go_simp
  clear c_0 f_0 c_1 f_1 c_2 f_2 c_3 f_3
  refine (((h5.set (i := 3) rfl 0 _).set (i := 3) rfl 1 _).set (i := 3) rfl 2 _).k_set 3 rfl (fun w6 h6 => ?_)
  refine hK _ _ ?_; clear hK K; try clear Q'
  iterate 1 (refine wpList_plainQ rfl (fun K Q' hK => ?_); go_simp; refine hK _ _ ?_; clear hK K; try clear Q')
  refine wpList_nil ?_
  show Code.wp _ _ _ _ _
  refine wp_seq ?_
  repeat (first | simp only [List.nil_append] at h6 | simp only [List.cons_append] at h6 | simp only [List.set_cons_zero] at h6 | simp only [List.set_cons_succ] at h6 | simp only [List.eraseIdx_zero] at h6 | simp only [List.tail_cons] at h6 | simp only [List.eraseIdx_cons_zero] at h6 | simp only [List.eraseIdx_cons_succ] at h6 | simp only [List.setIfInBounds_toArray] at h6)
  refine wp_region_lit ?_
  have c_3_0 := h6.cell 3 rfl 0 rfl
  have c_3_1 := h6.cell 3 rfl 1 rfl
  have c_3_2 := h6.cell 3 rfl 2 rfl
  have c_3_3 := h6.cell 3 rfl 3 rfl
  iterate 3 (refine wpList_plainQ rfl (fun K Q' hK => ?_); go_simp; refine hK _ _ ?_; clear hK K; try clear Q')
  clear c_3_0 c_3_1 c_3_2 c_3_3
  have c_0 := h6.cell 2 rfl 0 rfl
  have f_0 := h6.free 2 rfl 0
  have c_1 := h6.cell 2 rfl 1 rfl
  have f_1 := h6.free 2 rfl 1
  have c_2 := h6.cell 2 rfl 2 rfl
  have f_2 := h6.free 2 rfl 2
  have c_3 := h6.cell 2 rfl 3 rfl
  have f_3 := h6.free 2 rfl 3
  refine wpList_plainQ rfl (fun K Q' hK => ?_); go_simp
  clear c_0 f_0 c_1 f_1 c_2 f_2 c_3 f_3
  refine (((h6.set (i := 2) rfl 0 _).set (i := 2) rfl 1 _).set (i := 2) rfl 2 _).k_set 2 rfl (fun w7 h7 => ?_)
  refine hK _ _ ?_; clear hK K; try clear Q'
  iterate 1 (refine wpList_plainQ rfl (fun K Q' hK => ?_); go_simp; refine hK _ _ ?_; clear hK K; try clear Q')
  refine wpList_nil ?_
  show Code.wp _ _ _ _ _
  -- stops at: ret
  refine wp_ret ?_
  have r_2_0 := h7.cell 2 rfl 0 rfl
  have r_2_1 := h7.cell 2 rfl 1 rfl
  have r_2_2 := h7.cell 2 rfl 2 rfl
  have r_2_3 := h7.cell 2 rfl 3 rfl
  first | show bodyPost _ _ _ _ _ _ | (simp only [Exit.then]; show bodyPost _ _ _ _ _ _) | (simp only [Exit.inBlock]; show bodyPost _ _ _ _ _ _) | (simp only [Exit.inBlock, Exit.then]; show bodyPost _ _ _ _ _ _) | (simp only [Exit.noGoto, Exit.inBlock, Exit.then]; show bodyPost _ _ _ _ _ _)
  refine bodyPost_ret (v := ?_) ?_ rfl ?_
  rotate_left
  · simp only [results, Tryz.results9]; go_simp; with_reducible rfl
  clear r_2_0 r_2_1 r_2_2 r_2_3
  refine ⟨[.bool bm, .int .i64 pm, .int .i64 im, .slice am nm cm], H1, ?_, h7.post, hA'⟩
  rw [hcd]

set_option maxRecDepth 100000 in
theorem wmin_ok {w : World} {H : GH} {cs : List Value} {t : Hp} (hf : Fits w H) (hn : Hp.size t < 800000) (h : WvR H cs t) :
    Calls Tryz.prog 17 #[.agg cs.toArray] w fun e w' => e = .returned (.tuple #[elV ((Hp.min? t).getD (0, 0)), .int .i64 (Hp.minC t : Nat)]) ∧ Keep none w w' := by
  have hpre : Pre w H none 0 0 := Pre.none hf 0 0
  match t, hn, h with
  | none, hn, h =>
    obtain rfl := h
    go_enter Tryz.func17, Tryz.ntmps17
    have h0 := St.start hpre
    refine wp_seq ?_
    repeat (first | simp only [List.nil_append] at h0 | simp only [List.cons_append] at h0 | simp only [List.set_cons_zero] at h0 | simp only [List.set_cons_succ] at h0 | simp only [List.eraseIdx_zero] at h0 | simp only [List.tail_cons] at h0 | simp only [List.eraseIdx_cons_zero] at h0 | simp only [List.eraseIdx_cons_succ] at h0 | simp only [List.setIfInBounds_toArray] at h0)
    refine wp_region_lit ?_
    refine wpList_plainQ rfl (fun K Q' hK => ?_); go_simp
    refine h0.k_alloc (fun w1 h1 => ?_)
    refine hK _ _ ?_; clear hK K; try clear Q'
    refine wpList_plainQ rfl (fun K Q' hK => ?_); go_simp
    refine h1.k_alloc (fun w2 h2 => ?_)
    refine hK _ _ ?_; clear hK K; try clear Q'
    iterate 1 (refine wpList_plainQ rfl (fun K Q' hK => ?_); go_simp; refine hK _ _ ?_; clear hK K; try clear Q')
    refine wpList_nil ?_
    show Code.wp _ _ _ _ _
    refine wp_seq ?_
    repeat (first | simp only [List.nil_append] at h2 | simp only [List.cons_append] at h2 | simp only [List.set_cons_zero] at h2 | simp only [List.set_cons_succ] at h2 | simp only [List.eraseIdx_zero] at h2 | simp only [List.tail_cons] at h2 | simp only [List.eraseIdx_cons_zero] at h2 | simp only [List.eraseIdx_cons_succ] at h2 | simp only [List.setIfInBounds_toArray] at h2)
    refine wp_region_lit ?_
    have c_0_1 := h2.cell 0 rfl 1 rfl
    have c_0_2 := h2.cell 0 rfl 2 rfl
    iterate 2 (refine wpList_plainQ rfl (fun K Q' hK => ?_); go_simp; refine hK _ _ ?_; clear hK K; try clear Q')
    clear c_0_1 c_0_2
    have c_0 := h2.cell 1 rfl 0 rfl
    have f_0 := h2.free 1 rfl 0
    have c_1 := h2.cell 1 rfl 1 rfl
    have f_1 := h2.free 1 rfl 1
    refine wpList_plainQ rfl (fun K Q' hK => ?_); go_simp
    clear c_0 f_0 c_1 f_1
    refine (h2.set (i := 1) rfl 0 _).k_set 1 rfl (fun w3 h3 => ?_)
    refine hK _ _ ?_; clear hK K; try clear Q'
    iterate 1 (refine wpList_plainQ rfl (fun K Q' hK => ?_); go_simp; refine hK _ _ ?_; clear hK K; try clear Q')
    refine wpList_nil ?_
    show Code.wp _ _ _ _ _
    -- stops at: ret
    refine wp_ret ?_
    have r_1_0 := h3.cell 1 rfl 0 rfl
    have r_1_1 := h3.cell 1 rfl 1 rfl
    first | show bodyPost _ _ _ _ _ _ | (simp only [Exit.then]; show bodyPost _ _ _ _ _ _) | (simp only [Exit.inBlock]; show bodyPost _ _ _ _ _ _) | (simp only [Exit.inBlock, Exit.then]; show bodyPost _ _ _ _ _ _) | (simp only [Exit.noGoto, Exit.inBlock, Exit.then]; show bodyPost _ _ _ _ _ _)
    refine bodyPost_ret (v := ?_) ?_ rfl ?_
    rotate_left
    · simp only [results, Tryz.results17]; go_simp; with_reducible rfl
    clear r_1_0 r_1_1
    exact ⟨rfl, h3.post.keep⟩
  | some a, hn, h =>
    obtain ⟨aa, na, ca, la, rfl, hla, hqa, hda⟩ := HvR.open h
    go_enter Tryz.func17, Tryz.ntmps17
    have h0 := St.start hpre
    refine wp_seq ?_
    repeat (first | simp only [List.nil_append] at h0 | simp only [List.cons_append] at h0 | simp only [List.set_cons_zero] at h0 | simp only [List.set_cons_succ] at h0 | simp only [List.eraseIdx_zero] at h0 | simp only [List.tail_cons] at h0 | simp only [List.eraseIdx_cons_zero] at h0 | simp only [List.eraseIdx_cons_succ] at h0 | simp only [List.setIfInBounds_toArray] at h0)
    refine wp_region_lit ?_
    refine wpList_plainQ rfl (fun K Q' hK => ?_); go_simp
    refine h0.k_alloc (fun w1 h1 => ?_)
    refine hK _ _ ?_; clear hK K; try clear Q'
    refine wpList_plainQ rfl (fun K Q' hK => ?_); go_simp
    refine h1.k_alloc (fun w2 h2 => ?_)
    refine hK _ _ ?_; clear hK K; try clear Q'
    iterate 1 (refine wpList_plainQ rfl (fun K Q' hK => ?_); go_simp; refine hK _ _ ?_; clear hK K; try clear Q')
    refine wpList_nil ?_
    show Code.wp _ _ _ _ _
    refine wp_seq ?_
    repeat (first | simp only [List.nil_append] at h2 | simp only [List.cons_append] at h2 | simp only [List.set_cons_zero] at h2 | simp only [List.set_cons_succ] at h2 | simp only [List.eraseIdx_zero] at h2 | simp only [List.tail_cons] at h2 | simp only [List.eraseIdx_cons_zero] at h2 | simp only [List.eraseIdx_cons_succ] at h2 | simp only [List.setIfInBounds_toArray] at h2)
    refine wp_region_lit ?_
    have c_0_1 := h2.cell 0 rfl 1 rfl
    have c_0_2 := h2.cell 0 rfl 2 rfl
    iterate 2 (refine wpList_plainQ rfl (fun K Q' hK => ?_); go_simp; refine hK _ _ ?_; clear hK K; try clear Q')
    clear c_0_1 c_0_2
    have c_0 := h2.cell 1 rfl 0 rfl
    have f_0 := h2.free 1 rfl 0
    have c_1 := h2.cell 1 rfl 1 rfl
    have f_1 := h2.free 1 rfl 1
    refine wpList_plainQ rfl (fun K Q' hK => ?_); go_simp
    clear c_0 f_0 c_1 f_1
    refine (h2.set (i := 1) rfl 0 _).k_set 1 rfl (fun w3 h3 => ?_)
    refine hK _ _ ?_; clear hK K; try clear Q'
    iterate 1 (refine wpList_plainQ rfl (fun K Q' hK => ?_); go_simp; refine hK _ _ ?_; clear hK K; try clear Q')
    refine wpList_nil ?_
    show Code.wp _ _ _ _ _
    -- stops at: ret
    refine wp_ret ?_
    have r_1_0 := h3.cell 1 rfl 0 rfl
    have r_1_1 := h3.cell 1 rfl 1 rfl
    first | show bodyPost _ _ _ _ _ _ | (simp only [Exit.then]; show bodyPost _ _ _ _ _ _) | (simp only [Exit.inBlock]; show bodyPost _ _ _ _ _ _) | (simp only [Exit.inBlock, Exit.then]; show bodyPost _ _ _ _ _ _) | (simp only [Exit.noGoto, Exit.inBlock, Exit.then]; show bodyPost _ _ _ _ _ _)
    refine bodyPost_ret (v := ?_) ?_ rfl ?_
    rotate_left
    · simp only [results, Tryz.results17]; go_simp; with_reducible rfl
    clear r_1_0 r_1_1
    exact ⟨rfl, h3.post.keep⟩

theorem wpopMap {t : BH} {ts : List (Tr Vp)} {us : List (Tr Vp)} {tr : Tr Vp} (hq : Rw.map Prod.snd ts = t.queue) (hm : Rw.minT kw ts = some tr) (hu : Rw.map Prod.snd us = tr.x.2.queue) :
    t.pop = some (.mk tr.x.2.root (Rw.map Prod.snd (Sk.meld kw us (Sk.pop kw ts)))) ∧ Hp.popC (some t) + Hp.popD (some t) = (ts.length - 1) + (Sk.popC kw ts + Sk.popD kw ts) + 2 * Sk.meldN kw us (Sk.pop kw ts) + 1 := by
  have h1 := Sk.map_pop Prod.snd BH.root ts
  have h2 := Sk.map_meld Prod.snd BH.root us (Sk.pop kw ts)
  have h3 : Rw.minT BH.root t.queue = some (Tr.map Prod.snd tr) := by rw [← hq, Rw.map_minT]; show Option.map _ (Rw.minT kw ts) = _; rw [hm]; rfl
  have e1 : Rw.map Prod.snd (Sk.pop kw ts) = Sk.pop BH.root t.queue := by rw [← hq]; exact h1.1
  have e2 : Rw.map Prod.snd (Sk.meld kw us (Sk.pop kw ts)) = Sk.meld BH.root tr.x.2.queue (Sk.pop BH.root t.queue) := by rw [← e1, ← hu]; exact h2.1
  have e3 : Sk.meldN kw us (Sk.pop kw ts) = Sk.meldN BH.root tr.x.2.queue (Sk.pop BH.root t.queue) := by rw [← e1, ← hu]; exact h2.2
  have e4 : Sk.popC kw ts = Sk.popC BH.root t.queue := by rw [← hq]; exact h1.2.1
  have e5 : Sk.popD kw ts = Sk.popD BH.root t.queue := by rw [← hq]; exact h1.2.2
  have e6 : ts.length = t.queue.length := by rw [← hq, List.length_map]
  refine ⟨?_, ?_⟩
  · rw [BH.pop_some h3, e2]; rfl
  · show (match Rw.minT BH.root t.queue with | none => 0 | some tr => (t.queue.length - 1) + Sk.popC BH.root t.queue + Sk.meldN BH.root tr.x.queue (Sk.pop BH.root t.queue)) + (match Rw.minT BH.root t.queue with | none => 0 | some tr => Sk.popD BH.root t.queue + Sk.meldN BH.root tr.x.queue (Sk.pop BH.root t.queue) + 1) = _
    rw [h3, e3, e4, e5, e6]
    show (t.queue.length - 1) + Sk.popC BH.root t.queue + Sk.meldN BH.root tr.x.2.queue (Sk.pop BH.root t.queue) + (Sk.popD BH.root t.queue + Sk.meldN BH.root tr.x.2.queue (Sk.pop BH.root t.queue) + 1) = _
    omega

theorem wpop_bound (l : List (Tr Vp)) : Sk.popC kw l + Sk.popD kw l ≤ 20 * Rw.size l := by
  cases hm : Rw.minT kw l with
  | none => unfold Sk.popC Sk.popD; rw [hm]; exact Nat.zero_le _
  | some t =>
    have hat := wat_least hm
    have hts := wsize_mem hat
    have h8 : t.size = 1 + (t.b.length + t.k.els.length) := by simp [Tr.size, Tr.els]; omega
    have h9 := t.k.len_le
    have h1 := Sk.inserts_steps kw t.b (Sk.after kw t (l.eraseIdx (Rw.least kw l)))
    have h2 := Sk.level_len kw (l.eraseIdx (Rw.least kw l))
    have h3 := Rw.meld_length kw t.k.toL.reverse (Sk.level kw (l.eraseIdx (Rw.least kw l)))
    have h4 : (l.eraseIdx (Rw.least kw l)).length ≤ l.length := (List.eraseIdx_sublist l _).length_le
    have h5 := Rw.length_le l
    have h6 : t.k.toL.reverse.length = t.k.len := by rw [List.length_reverse, RT.toL_length]
    unfold Sk.popC Sk.popD
    rw [hm]
    simp only
    unfold Sk.afterN
    omega
set_option maxRecDepth 100000 in
set_option maxHeartbeats 8000000 in
theorem wpop_ok {w : World} {H : GH} {cs : List Value} {t : Hp} (hf : Fits w H) (hn : Hp.size t < 800000) (h : WvR H cs t) :
    Calls Tryz.prog 13 #[.agg cs.toArray] w fun e w' => ∃ ds H', e = .returned (.tuple #[.agg ds.toArray, .int .i64 (Hp.popC t + Hp.popD t : Nat)]) ∧ Post w H none w' H' 0 0 ∧ WvR H' ds (Hp.pop t) := by
  have hpre : Pre w H none 0 0 := Pre.none hf 0 0
  match t, hn, h with
  | none, hn, h =>
    obtain rfl := h
    go_enter Tryz.func13, Tryz.ntmps13
    have h0 := St.start hpre
    refine wp_seq ?_
    repeat (first | simp only [List.nil_append] at h0 | simp only [List.cons_append] at h0 | simp only [List.set_cons_zero] at h0 | simp only [List.set_cons_succ] at h0 | simp only [List.eraseIdx_zero] at h0 | simp only [List.tail_cons] at h0 | simp only [List.eraseIdx_cons_zero] at h0 | simp only [List.eraseIdx_cons_succ] at h0 | simp only [List.setIfInBounds_toArray] at h0)
    refine wp_region_lit ?_
    refine wpList_plainQ rfl (fun K Q' hK => ?_); go_simp
    refine h0.k_alloc (fun w1 h1 => ?_)
    refine hK _ _ ?_; clear hK K; try clear Q'
    refine wpList_plainQ rfl (fun K Q' hK => ?_); go_simp
    refine h1.k_alloc (fun w2 h2 => ?_)
    refine hK _ _ ?_; clear hK K; try clear Q'
    iterate 1 (refine wpList_plainQ rfl (fun K Q' hK => ?_); go_simp; refine hK _ _ ?_; clear hK K; try clear Q')
    refine wpList_nil ?_
    show Code.wp _ _ _ _ _
    refine wp_seq ?_
    refine wp_seq ?_
    repeat (first | simp only [List.nil_append] at h2 | simp only [List.cons_append] at h2 | simp only [List.set_cons_zero] at h2 | simp only [List.set_cons_succ] at h2 | simp only [List.eraseIdx_zero] at h2 | simp only [List.tail_cons] at h2 | simp only [List.eraseIdx_cons_zero] at h2 | simp only [List.eraseIdx_cons_succ] at h2 | simp only [List.setIfInBounds_toArray] at h2)
    refine wp_region_lit ?_
    have c_0_3 := h2.cell 0 rfl 3 rfl
    iterate 4 (refine wpList_plainQ rfl (fun K Q' hK => ?_); go_simp; refine hK _ _ ?_; clear hK K; try clear Q')
    clear c_0_3
    refine wpList_nil ?_
    show Code.wp _ _ _ _ _
    -- stops at: cond
    refine wp_cond_true (rfl) ?_
    refine wp_seq ?_
    refine wp_region_lit ?_
    iterate 1 (refine wpList_plainQ rfl (fun K Q' hK => ?_); go_simp; refine hK _ _ ?_; clear hK K; try clear Q')
    have c_0 := h2.cell 1 rfl 0 rfl
    have f_0 := h2.free 1 rfl 0
    have c_1 := h2.cell 1 rfl 1 rfl
    have f_1 := h2.free 1 rfl 1
    have c_2 := h2.cell 1 rfl 2 rfl
    have f_2 := h2.free 1 rfl 2
    have c_3 := h2.cell 1 rfl 3 rfl
    have f_3 := h2.free 1 rfl 3
    refine wpList_plainQ rfl (fun K Q' hK => ?_); go_simp
    clear c_0 f_0 c_1 f_1 c_2 f_2 c_3 f_3
    refine (((h2.set (i := 1) rfl 0 _).set (i := 1) rfl 1 _).set (i := 1) rfl 2 _).k_set 1 rfl (fun w3 h3 => ?_)
    refine hK _ _ ?_; clear hK K; try clear Q'
    iterate 1 (refine wpList_plainQ rfl (fun K Q' hK => ?_); go_simp; refine hK _ _ ?_; clear hK K; try clear Q')
    refine wpList_nil ?_
    show Code.wp _ _ _ _ _
    -- stops at: ret
    refine wp_ret ?_
    have r_1_0 := h3.cell 1 rfl 0 rfl
    have r_1_1 := h3.cell 1 rfl 1 rfl
    have r_1_2 := h3.cell 1 rfl 2 rfl
    have r_1_3 := h3.cell 1 rfl 3 rfl
    first | show bodyPost _ _ _ _ _ _ | (simp only [Exit.then]; show bodyPost _ _ _ _ _ _) | (simp only [Exit.inBlock]; show bodyPost _ _ _ _ _ _) | (simp only [Exit.inBlock, Exit.then]; show bodyPost _ _ _ _ _ _) | (simp only [Exit.noGoto, Exit.inBlock, Exit.then]; show bodyPost _ _ _ _ _ _)
    refine bodyPost_ret (v := ?_) ?_ rfl ?_
    rotate_left
    · simp only [results, Tryz.results13]; go_simp; with_reducible rfl
    clear r_1_0 r_1_1 r_1_2 r_1_3
    exact ⟨[.bool false, .int .i64 0, .int .i64 0, .slice none 0 0], H, rfl, h3.post, rfl⟩
  | some t, hn, h =>
    obtain ⟨aa, na, ca, ts, rfl, hl, hq, hd⟩ := HvR.open h
    have hqs := BH.queue_le t
    have hsz : Rw.size ts < 800000 := by rw [← hq.out, wsnd] at hqs; have : t.els.length < 800000 := hn; omega
    clear hqs
    cases ts with
    | nil =>
      have hq0 : t.queue = [] := by rw [← hq.out]; rfl
      have e1 : Rw.minT BH.root t.queue = none := by rw [hq0]; rfl
      have e2 : Hp.popC (some t) + Hp.popD (some t) = 0 := by
        show (match Rw.minT BH.root t.queue with | none => 0 | some tr => _) + (match Rw.minT BH.root t.queue with | none => 0 | some tr => _) = _
        rw [e1]
        rfl
      obtain ⟨_, _, e, _, _⟩ := hl.form
      simp only [Value.slice.injEq] at e
      obtain ⟨rfl, rfl, rfl⟩ := e
      go_enter Tryz.func13, Tryz.ntmps13
      have h0 := St.start hpre
      refine wp_seq ?_
      repeat (first | simp only [List.nil_append] at h0 | simp only [List.cons_append] at h0 | simp only [List.set_cons_zero] at h0 | simp only [List.set_cons_succ] at h0 | simp only [List.eraseIdx_zero] at h0 | simp only [List.tail_cons] at h0 | simp only [List.eraseIdx_cons_zero] at h0 | simp only [List.eraseIdx_cons_succ] at h0 | simp only [List.setIfInBounds_toArray] at h0)
      refine wp_region_lit ?_
      refine wpList_plainQ rfl (fun K Q' hK => ?_); go_simp
      refine h0.k_alloc (fun w1 h1 => ?_)
      refine hK _ _ ?_; clear hK K; try clear Q'
      refine wpList_plainQ rfl (fun K Q' hK => ?_); go_simp
      refine h1.k_alloc (fun w2 h2 => ?_)
      refine hK _ _ ?_; clear hK K; try clear Q'
      iterate 1 (refine wpList_plainQ rfl (fun K Q' hK => ?_); go_simp; refine hK _ _ ?_; clear hK K; try clear Q')
      refine wpList_nil ?_
      show Code.wp _ _ _ _ _
      refine wp_seq ?_
      refine wp_seq ?_
      repeat (first | simp only [List.nil_append] at h2 | simp only [List.cons_append] at h2 | simp only [List.set_cons_zero] at h2 | simp only [List.set_cons_succ] at h2 | simp only [List.eraseIdx_zero] at h2 | simp only [List.tail_cons] at h2 | simp only [List.eraseIdx_cons_zero] at h2 | simp only [List.eraseIdx_cons_succ] at h2 | simp only [List.setIfInBounds_toArray] at h2)
      refine wp_region_lit ?_
      have c_0_3 := h2.cell 0 rfl 3 rfl
      iterate 4 (refine wpList_plainQ rfl (fun K Q' hK => ?_); go_simp; refine hK _ _ ?_; clear hK K; try clear Q')
      clear c_0_3
      refine wpList_nil ?_
      show Code.wp _ _ _ _ _
      -- stops at: cond
      refine wp_cond_true (rfl) ?_
      refine wp_seq ?_
      refine wp_region_lit ?_
      iterate 1 (refine wpList_plainQ rfl (fun K Q' hK => ?_); go_simp; refine hK _ _ ?_; clear hK K; try clear Q')
      have c_0 := h2.cell 1 rfl 0 rfl
      have f_0 := h2.free 1 rfl 0
      have c_1 := h2.cell 1 rfl 1 rfl
      have f_1 := h2.free 1 rfl 1
      have c_2 := h2.cell 1 rfl 2 rfl
      have f_2 := h2.free 1 rfl 2
      have c_3 := h2.cell 1 rfl 3 rfl
      have f_3 := h2.free 1 rfl 3
      refine wpList_plainQ rfl (fun K Q' hK => ?_); go_simp
      clear c_0 f_0 c_1 f_1 c_2 f_2 c_3 f_3
      refine (((h2.set (i := 1) rfl 0 _).set (i := 1) rfl 1 _).set (i := 1) rfl 2 _).k_set 1 rfl (fun w3 h3 => ?_)
      refine hK _ _ ?_; clear hK K; try clear Q'
      iterate 1 (refine wpList_plainQ rfl (fun K Q' hK => ?_); go_simp; refine hK _ _ ?_; clear hK K; try clear Q')
      refine wpList_nil ?_
      show Code.wp _ _ _ _ _
      -- stops at: ret
      refine wp_ret ?_
      have r_1_0 := h3.cell 1 rfl 0 rfl
      have r_1_1 := h3.cell 1 rfl 1 rfl
      have r_1_2 := h3.cell 1 rfl 2 rfl
      have r_1_3 := h3.cell 1 rfl 3 rfl
      first | show bodyPost _ _ _ _ _ _ | (simp only [Exit.then]; show bodyPost _ _ _ _ _ _) | (simp only [Exit.inBlock]; show bodyPost _ _ _ _ _ _) | (simp only [Exit.inBlock, Exit.then]; show bodyPost _ _ _ _ _ _) | (simp only [Exit.noGoto, Exit.inBlock, Exit.then]; show bodyPost _ _ _ _ _ _)
      refine bodyPost_ret (v := ?_) ?_ rfl ?_
      rotate_left
      · simp only [results, Tryz.results13]; go_simp; with_reducible rfl
      clear r_1_0 r_1_1 r_1_2 r_1_3
      refine ⟨[.bool false, .int .i64 0, .int .i64 0, .slice none 0 0], H, by rw [e2]; rfl, h3.post, ?_⟩
      show WvR H _ t.pop
      rw [BH.pop_none e1]
      rfl
    | cons t0 l0 =>
      have hl' := hl
      obtain ⟨tr, hm⟩ : ∃ tr, Rw.minT kw (t0 :: l0) = some tr := by
        cases hm : Rw.minT kw (t0 :: l0) with
        | none => cases Rw.minT_none kw hm
        | some tr => exact ⟨tr, rfl⟩
      obtain ⟨b9, o9, cap9, nn, _, e9, hnn, _, hn0, hcap, _, _⟩ := hl.cons
      simp only [Value.slice.injEq] at e9
      obtain ⟨rfl, rfl, rfl⟩ := e9
      have hperm := Sk.pop_perm kw hm
      have hy : tr.x ∈ Rw.els (t0 :: l0) := hperm.subset (by simp)
      have hall : ∀ z ∈ Rw.els (Sk.pop kw (t0 :: l0)), z ∈ Rw.els (t0 :: l0) := fun z hz => hperm.subset (by simp [hz])
      have hfx := hd _ hy
      obtain ⟨i, hi⟩ : ∃ i, Hid (Rw.least kw (t0 :: l0) = i) := ⟨_, show _ = _ from rfl⟩
      have hat := wat_least hm
      rw [hi.out] at hat
      have hil := (List.getElem?_eq_some_iff.1 hat).1
      have hin : (i : Int) < (na : Int) := by have := hnn.out; simp at hil; omega
      clear hil
      obtain ⟨bR, oR, cR, aB, cB, aK, cK, r1, hcR, hc, hr1, hxv, hbv, hkv⟩ := hl'.at i hat
      obtain ⟨af, nf, cf, us, efx, hlu, hqu, hdu⟩ := hfx.open
      have hcx0 := hxv.cells
      rw [efx] at hcx0
      obtain ⟨ax2, mx2, kx2, e2x, hcx⟩ := hcx0
      simp only [List.cons.injEq, Value.slice.injEq, true_and, and_true] at e2x
      obtain ⟨rfl, rfl, rfl⟩ := e2x
      have hszs : Rw.size us + Rw.size (Sk.pop kw (t0 :: l0)) < 800000 := by
        have h1 := BH.queue_le tr.x.2
        rw [← hqu.out, wsnd] at h1
        have hmem : tr.x.2 ∈ Rw.els t.queue := by rw [← hq.out, Rw.map_els]; exact List.mem_map.2 ⟨_, hy, rfl⟩
        have h2 := BH.sum_mem hmem
        have h3 : (Rw.els t.queue).length = Rw.size (t0 :: l0) := by rw [← hq.out]; exact wsnd (t0 :: l0)
        have h4 : (Rw.els (Sk.pop kw (t0 :: l0))).length + 1 = (Rw.els (t0 :: l0)).length := by rw [← hperm.length_eq]; rfl
        have h5 : t.els.length = (BH.elsL (Rw.els t.queue)).length + 1 := by rw [BH.els_eq]; rfl
        have : t.els.length < 800000 := hn
        unfold Rw.size at *
        omega
      obtain ⟨hpop, hpcd⟩ := wpopMap hq.out hm hqu.out
      obtain ⟨pk, hpk⟩ : ∃ m, Hid (Sk.popC kw (t0 :: l0) + Sk.popD kw (t0 :: l0) = m) := ⟨_, show _ = _ from rfl⟩
      obtain ⟨mn, hmn⟩ : ∃ m, Hid (2 * Sk.meldN kw us (Sk.pop kw (t0 :: l0)) = m) := ⟨_, show _ = _ from rfl⟩
      obtain ⟨pn, hpn⟩ : ∃ m, Hid (na - 1 = m) := ⟨_, show _ = _ from rfl⟩
      obtain ⟨s1, hs1⟩ : ∃ m, Hid (pn + pk = m) := ⟨_, show _ = _ from rfl⟩
      obtain ⟨s2, hs2⟩ : ∃ m, Hid (s1 + mn = m) := ⟨_, show _ = _ from rfl⟩
      obtain ⟨s3, hs3⟩ : ∃ m, Hid (s2 + 1 = m) := ⟨_, show _ = _ from rfl⟩
      have hnal : na < 900000 := by have := hnn.out; have := Rw.length_le (t0 :: l0); simp at this; omega
      have hb1 : mn ≤ 8000000 := by
        have h1 := Sk.meldN_le kw us (Sk.pop kw (t0 :: l0))
        have h2 := Rw.length_le us
        have h3 := Rw.length_le (Sk.pop kw (t0 :: l0))
        have := hmn.out
        omega
      have hb2 : pk ≤ 100000000 := by have := wpop_bound (t0 :: l0); have := hpk.out; omega
      have hcd : Hp.popC (some t) + Hp.popD (some t) = s3 := by
        rw [hpcd]
        have h1 : (t0 :: l0).length = na := by have := hnn.out; simp; omega
        rw [h1]
        have := hpk.out
        have := hmn.out
        have := hpn.out
        have := hs1.out
        have := hs2.out
        have := hs3.out
        omega
      clear hpcd
      have d1 : ((na : Int) == 0) = false := beq_eq_false_iff_ne.2 (by omega)
      have e1 : IntKind.i64.wrap ((na : Int) - 1) = (pn : Int) := by have := hpn.out; rw [IntWalk.i64_in _ (by omega)]; omega
      have e2 : IntKind.i64.wrap ((pn : Int) + (pk : Int)) = (s1 : Int) := by have := hs1.out; have := hpn.out; rw [IntWalk.i64_in _ (by omega)]; omega
      have e3 : IntKind.i64.wrap ((s1 : Int) + (mn : Int)) = (s2 : Int) := by have := hs2.out; have := hs1.out; have := hpn.out; rw [IntWalk.i64_in _ (by omega)]; omega
      have e4 : IntKind.i64.wrap ((s2 : Int) + 1) = (s3 : Int) := by have := hs3.out; have := hs2.out; have := hs1.out; have := hpn.out; rw [IntWalk.i64_in _ (by omega)]; omega
      go_enter Tryz.func13, Tryz.ntmps13
      have h0 := St.start hpre
      refine wp_seq ?_
      repeat (first | simp only [List.nil_append] at h0 | simp only [List.cons_append] at h0 | simp only [List.set_cons_zero] at h0 | simp only [List.set_cons_succ] at h0 | simp only [List.eraseIdx_zero] at h0 | simp only [List.tail_cons] at h0 | simp only [List.eraseIdx_cons_zero] at h0 | simp only [List.eraseIdx_cons_succ] at h0 | simp only [List.setIfInBounds_toArray] at h0)
      refine wp_region_lit ?_
      refine wpList_plainQ rfl (fun K Q' hK => ?_); go_simp
      refine h0.k_alloc (fun w1 h1 => ?_)
      refine hK _ _ ?_; clear hK K; try clear Q'
      refine wpList_plainQ rfl (fun K Q' hK => ?_); go_simp
      refine h1.k_alloc (fun w2 h2 => ?_)
      refine hK _ _ ?_; clear hK K; try clear Q'
      iterate 1 (refine wpList_plainQ rfl (fun K Q' hK => ?_); go_simp; refine hK _ _ ?_; clear hK K; try clear Q')
      refine wpList_nil ?_
      show Code.wp _ _ _ _ _
      refine wp_seq ?_
      refine wp_seq ?_
      repeat (first | simp only [List.nil_append] at h2 | simp only [List.cons_append] at h2 | simp only [List.set_cons_zero] at h2 | simp only [List.set_cons_succ] at h2 | simp only [List.eraseIdx_zero] at h2 | simp only [List.tail_cons] at h2 | simp only [List.eraseIdx_cons_zero] at h2 | simp only [List.eraseIdx_cons_succ] at h2 | simp only [List.setIfInBounds_toArray] at h2)
      refine wp_region_lit ?_
      have c_0_3 := h2.cell 0 rfl 3 rfl
      iterate 4 (refine wpList_plainQ rfl (fun K Q' hK => ?_); go_simp; refine hK _ _ ?_; clear hK K; try clear Q')
      clear c_0_3
      refine wpList_nil ?_
      show Code.wp _ _ _ _ _
      -- stops at: cond
      refine wp_cond_false (rfl) ?_
      refine wp_skip ?_
      show Code.wp _ _ _ _ _
      refine wp_seq ?_
      refine h2.regionT [0] (.one 0 true (.one 1 true (.one 2 true (.one 3 true (.two (.one 4 false (.one 5 true (.one 6 true (.one 7 true (.one 8 true (.one 9 true (.one 10 false (.one 11 false .nil)))))))) (.one 10 false (.one 4 false (.one 5 true (.one 6 true (.one 7 true (.one 8 true (.one 9 true (.one 11 false .nil))))))))))))) (by as_aux_lemma => kernel_rfl) (by as_aux_lemma => kernel_rfl) (fun w3 h3 => ?_)
      refine wpT_hide (fun _ _ d _ _ h => by cases d <;> exact h) (fun QR hQn hQp => ?_)
      dsimp only [OT.ops, List.getD_cons_zero, List.getD_cons_succ]
      iterate 4 (refine wpT_quiet (v := ?_) rfl (fun _ _ _ => hQp _ _ _ _ _) ?_ ?_; rotate_left; (intro w' hS; have c_0_3 := hS.cell 0 rfl 3 rfl; (first | (go_simp; done) | (go_simp; with_reducible rfl))); simp only [Act.put, List.setIfInBounds_toArray])
      refine wpT_two ?_ ?_
      -- stops at: fork 
      · skip
        -- stops at: eff:call (Go.Op.call {'callee': (Go.Callee.value (Go.Operand.func 31)), 'args': [(Go.Operand.tmp 18)], 'argTypes': [33]}) slot 19
        refine wpT_effQ rfl (fun K Q' hK => ?_); go_simp
        refine (wleast_ok H _ _ t0 l0 h3.fits (by omega) hl').mono ?_
        rintro e wA ⟨rfl, hkA⟩
        rw [hi.out]
        have h4 := h3.callk hkA
        refine hK _ _ (h4.sat' (GH.le_refl _) [0] (by kernel_rfl)) ?_; clear hK K; try clear Q'
        iterate 2 (refine wpT_quiet (v := ?_) rfl (fun _ _ _ => hQp _ _ _ _ _) ?_ ?_; rotate_left; (intro w' hS; (first | (go_simp; done) | (go_simp; with_reducible rfl))); simp only [Act.put, List.setIfInBounds_toArray])
        -- stops at: load (Go.Op.load 36 (Go.Operand.tmp 21)) slot 22
        iterate 1 (refine wpT_quiet (v := ?_) rfl (fun _ _ _ => hQp _ _ _ _ _) ?_ ?_; rotate_left; (intro w' hS; obtain ⟨q0, q1, q2, q3⟩ := hc.out _ hS.1; (first | (go_simp; done) | (go_simp; with_reducible rfl))); simp only [Act.put])
        iterate 1 (refine wpT_quiet (v := ?_) rfl (fun _ _ _ => hQp _ _ _ _ _) ?_ ?_; rotate_left; (intro w' hS; (first | (go_simp; done) | (go_simp; with_reducible rfl))); simp only [Act.put])
        -- stops at: load (Go.Op.load 35 (Go.Operand.tmp 23)) slot 24
        iterate 1 (refine wpT_quiet (v := ?_) rfl (fun _ _ _ => hQp _ _ _ _ _) ?_ ?_; rotate_left; (intro w' hS; obtain ⟨q0, q1, q2, q3⟩ := hcx.out _ hS.1; (first | (go_simp; done) | (go_simp; with_reducible rfl))); simp only [Act.put])
        refine wpT_effQ rfl (fun K Q' hK => ?_); go_simp
        refine h4.k_alloc (fun w5 h5 => ?_)
        refine hK _ _ (h5.sat' (GH.le_refl _) [0] (by kernel_rfl)) ?_; clear hK K; try clear Q'
        have c_0 := h5.cell 2 rfl 0 rfl
        have f_0 := h5.free 2 rfl 0
        have c_1 := h5.cell 2 rfl 1 rfl
        have f_1 := h5.free 2 rfl 1
        have c_2 := h5.cell 2 rfl 2 rfl
        have f_2 := h5.free 2 rfl 2
        have c_3 := h5.cell 2 rfl 3 rfl
        have f_3 := h5.free 2 rfl 3
        refine wpT_effQ rfl (fun K Q' hK => ?_); go_simp
        clear c_0 f_0 c_1 f_1 c_2 f_2 c_3 f_3
        refine (((h5.set (i := 2) rfl 0 _).set (i := 2) rfl 1 _).set (i := 2) rfl 2 _).k_set 2 rfl (fun w6 h6 => ?_)
        refine hK _ _ (h6.sat' (GH.le_refl _) [0] (by kernel_rfl)) ?_; clear hK K; try clear Q'
        refine wpT_nil (hQn _ _ ?_); clear hQn hQp QR
        show Code.wp _ _ _ _ _
        refine wp_seq ?_
        repeat (first | simp only [List.nil_append] at h6 | simp only [List.cons_append] at h6 | simp only [List.set_cons_zero] at h6 | simp only [List.set_cons_succ] at h6 | simp only [List.eraseIdx_zero] at h6 | simp only [List.tail_cons] at h6 | simp only [List.eraseIdx_cons_zero] at h6 | simp only [List.eraseIdx_cons_succ] at h6 | simp only [List.setIfInBounds_toArray] at h6)
        refine wp_region_lit ?_
        have c_0_3 := h6.cell 0 rfl 3 rfl
        iterate 5 (refine wpList_plainQ rfl (fun K Q' hK => ?_); go_simp; refine hK _ _ ?_; clear hK K; try clear Q')
        clear c_0_3
        refine wpList_nil ?_
        show Code.wp _ _ _ _ _
        refine wp_seq ?_
        refine wp_region_lit ?_
        have c_0_3 := h6.cell 0 rfl 3 rfl
        iterate 2 (refine wpList_plainQ rfl (fun K Q' hK => ?_); go_simp; refine hK _ _ ?_; clear hK K; try clear Q')
        clear c_0_3
        -- stops at: eff:call (Go.Op.call {'callee': (Go.Callee.value (Go.Operand.func 32)), 'args': [(Go.Operand.tmp 31)], 'argTypes': [33]}) slot 32
        refine wpList_plainQ rfl (fun K Q' hK => ?_); go_simp
        refine (wtpop_ok H _ _ t0 l0 h6.fits (by omega) hl').mono ?_
        rintro e wB ⟨q, H2, rfl, hpB, hB⟩
        rw [hpk.out]
        have hB' := hB
        obtain ⟨aQ, cQ, rfl, _, _⟩ := hB.form
        have h7 := h6.call0 hpB
        refine hK _ _ ?_; clear hK K; try clear Q'
        iterate 5 (refine wpList_plainQ rfl (fun K Q' hK => ?_); go_simp; refine hK _ _ ?_; clear hK K; try clear Q')
        refine wpList_nil ?_
        show Code.wp _ _ _ _ _
        refine wp_seq ?_
        repeat (first | simp only [List.nil_append] at h7 | simp only [List.cons_append] at h7 | simp only [List.set_cons_zero] at h7 | simp only [List.set_cons_succ] at h7 | simp only [List.eraseIdx_zero] at h7 | simp only [List.tail_cons] at h7 | simp only [List.eraseIdx_cons_zero] at h7 | simp only [List.eraseIdx_cons_succ] at h7 | simp only [List.setIfInBounds_toArray] at h7)
        refine wp_region_lit ?_
        have c_2_3 := h7.cell 2 rfl 3 rfl
        iterate 3 (refine wpList_plainQ rfl (fun K Q' hK => ?_); go_simp; refine hK _ _ ?_; clear hK K; try clear Q')
        clear c_2_3
        -- stops at: eff:call (Go.Op.call {'callee': (Go.Callee.value (Go.Operand.func 33)), 'args': [(Go.Operand.tmp 37), (Go.Operand.tmp 38)], 'argTypes': [33, 33]}) slot 39
        refine wpList_plainQ rfl (fun K Q' hK => ?_); go_simp
        refine (whmeld_ok H2 _ _ _ us (Sk.pop kw (t0 :: l0)) h7.fits (by omega) (hlu.mono hpB.le) hB').mono ?_
        rintro e wC ⟨q3, H3, rfl, hpC, hC⟩
        rw [hmn.out]
        have hC' := hC
        obtain ⟨aR, cR3, rfl, _, _⟩ := hC.form
        have h8 := h7.call0 hpC
        refine hK _ _ ?_; clear hK K; try clear Q'
        iterate 5 (refine wpList_plainQ rfl (fun K Q' hK => ?_); go_simp; refine hK _ _ ?_; clear hK K; try clear Q')
        refine wpList_nil ?_
        show Code.wp _ _ _ _ _
        refine wp_seq ?_
        repeat (first | simp only [List.nil_append] at h8 | simp only [List.cons_append] at h8 | simp only [List.set_cons_zero] at h8 | simp only [List.set_cons_succ] at h8 | simp only [List.eraseIdx_zero] at h8 | simp only [List.tail_cons] at h8 | simp only [List.eraseIdx_cons_zero] at h8 | simp only [List.eraseIdx_cons_succ] at h8 | simp only [List.setIfInBounds_toArray] at h8)
        refine wp_region_lit ?_
        have c_2_1 := h8.cell 2 rfl 1 rfl
        have c_2_2 := h8.cell 2 rfl 2 rfl
        iterate 10 (refine wpList_plainQ rfl (fun K Q' hK => ?_); go_simp; refine hK _ _ ?_; clear hK K; try clear Q')
        clear c_2_1 c_2_2
        have c_0 := h8.cell 1 rfl 0 rfl
        have f_0 := h8.free 1 rfl 0
        have c_1 := h8.cell 1 rfl 1 rfl
        have f_1 := h8.free 1 rfl 1
        have c_2 := h8.cell 1 rfl 2 rfl
        have f_2 := h8.free 1 rfl 2
        have c_3 := h8.cell 1 rfl 3 rfl
        have f_3 := h8.free 1 rfl 3
        refine wpList_plainQ rfl (fun K Q' hK => ?_); go_simp
        clear c_0 f_0 c_1 f_1 c_2 f_2 c_3 f_3
        refine (((h8.set (i := 1) rfl 0 _).set (i := 1) rfl 1 _).set (i := 1) rfl 2 _).k_set 1 rfl (fun w9 h9 => ?_)
        refine hK _ _ ?_; clear hK K; try clear Q'
        iterate 1 (refine wpList_plainQ rfl (fun K Q' hK => ?_); go_simp; refine hK _ _ ?_; clear hK K; try clear Q')
        refine wpList_nil ?_
        show Code.wp _ _ _ _ _
        -- stops at: ret
        refine wp_ret ?_
        have r_1_0 := h9.cell 1 rfl 0 rfl
        have r_1_1 := h9.cell 1 rfl 1 rfl
        have r_1_2 := h9.cell 1 rfl 2 rfl
        have r_1_3 := h9.cell 1 rfl 3 rfl
        first | show bodyPost _ _ _ _ _ _ | (simp only [Exit.then]; show bodyPost _ _ _ _ _ _) | (simp only [Exit.inBlock]; show bodyPost _ _ _ _ _ _) | (simp only [Exit.inBlock, Exit.then]; show bodyPost _ _ _ _ _ _) | (simp only [Exit.noGoto, Exit.inBlock, Exit.then]; show bodyPost _ _ _ _ _ _)
        refine bodyPost_ret (v := ?_) ?_ rfl ?_
        rotate_left
        · simp only [results, Tryz.results13]; go_simp; with_reducible rfl
        clear r_1_0 r_1_1 r_1_2 r_1_3
        refine ⟨[.bool true, .int .i64 tr.x.2.root.1, .int .i64 tr.x.2.root.2, .slice aR _ cR3], H3, by rw [hcd], h9.post, ?_⟩
        show WvR H3 _ t.pop
        rw [hpop]
        refine HvR.mk _ hC' rfl (fun z hz => ?_)
        rcases List.mem_append.1 ((Sk.meld_perm kw us (Sk.pop kw (t0 :: l0))).subset hz) with hz | hz
        · exact ((hdu z hz).mono hpB.le).mono hpC.le
        · exact ((hd z (hall z hz)).mono hpB.le).mono hpC.le
      · skip
        refine wpT_effQ rfl (fun K Q' hK => ?_); go_simp
        refine h3.k_alloc (fun w10 h10 => ?_)
        refine hK _ _ (h10.sat' (GH.le_refl _) [0] (by kernel_rfl)) ?_; clear hK K; try clear Q'
        -- stops at: eff:call (Go.Op.call {'callee': (Go.Callee.value (Go.Operand.func 31)), 'args': [(Go.Operand.tmp 18)], 'argTypes': [33]}) slot 19
        refine wpT_effQ rfl (fun K Q' hK => ?_); go_simp
        refine (wleast_ok H _ _ t0 l0 h10.fits (by omega) hl').mono ?_
        rintro e wA ⟨rfl, hkA⟩
        rw [hi.out]
        have h11 := h10.callk hkA
        refine hK _ _ (h11.sat' (GH.le_refl _) [0] (by kernel_rfl)) ?_; clear hK K; try clear Q'
        iterate 2 (refine wpT_quiet (v := ?_) rfl (fun _ _ _ => hQp _ _ _ _ _) ?_ ?_; rotate_left; (intro w' hS; (first | (go_simp; done) | (go_simp; with_reducible rfl))); simp only [Act.put, List.setIfInBounds_toArray])
        -- stops at: load (Go.Op.load 36 (Go.Operand.tmp 21)) slot 22
        iterate 1 (refine wpT_quiet (v := ?_) rfl (fun _ _ _ => hQp _ _ _ _ _) ?_ ?_; rotate_left; (intro w' hS; obtain ⟨q0, q1, q2, q3⟩ := hc.out _ hS.1; (first | (go_simp; done) | (go_simp; with_reducible rfl))); simp only [Act.put])
        iterate 1 (refine wpT_quiet (v := ?_) rfl (fun _ _ _ => hQp _ _ _ _ _) ?_ ?_; rotate_left; (intro w' hS; (first | (go_simp; done) | (go_simp; with_reducible rfl))); simp only [Act.put])
        -- stops at: load (Go.Op.load 35 (Go.Operand.tmp 23)) slot 24
        iterate 1 (refine wpT_quiet (v := ?_) rfl (fun _ _ _ => hQp _ _ _ _ _) ?_ ?_; rotate_left; (intro w' hS; obtain ⟨q0, q1, q2, q3⟩ := hcx.out _ hS.1; (first | (go_simp; done) | (go_simp; with_reducible rfl))); simp only [Act.put])
        have c_0 := h11.cell 2 rfl 0 rfl
        have f_0 := h11.free 2 rfl 0
        have c_1 := h11.cell 2 rfl 1 rfl
        have f_1 := h11.free 2 rfl 1
        have c_2 := h11.cell 2 rfl 2 rfl
        have f_2 := h11.free 2 rfl 2
        have c_3 := h11.cell 2 rfl 3 rfl
        have f_3 := h11.free 2 rfl 3
        refine wpT_effQ rfl (fun K Q' hK => ?_); go_simp
        clear c_0 f_0 c_1 f_1 c_2 f_2 c_3 f_3
        refine (((h11.set (i := 2) rfl 0 _).set (i := 2) rfl 1 _).set (i := 2) rfl 2 _).k_set 2 rfl (fun w12 h12 => ?_)
        refine hK _ _ (h12.sat' (GH.le_refl _) [0] (by kernel_rfl)) ?_; clear hK K; try clear Q'
        refine wpT_nil (hQn _ _ ?_); clear hQn hQp QR
        show Code.wp _ _ _ _ _
        refine wp_seq ?_
        repeat (first | simp only [List.nil_append] at h12 | simp only [List.cons_append] at h12 | simp only [List.set_cons_zero] at h12 | simp only [List.set_cons_succ] at h12 | simp only [List.eraseIdx_zero] at h12 | simp only [List.tail_cons] at h12 | simp only [List.eraseIdx_cons_zero] at h12 | simp only [List.eraseIdx_cons_succ] at h12 | simp only [List.setIfInBounds_toArray] at h12)
        refine wp_region_lit ?_
        have c_0_3 := h12.cell 0 rfl 3 rfl
        iterate 5 (refine wpList_plainQ rfl (fun K Q' hK => ?_); go_simp; refine hK _ _ ?_; clear hK K; try clear Q')
        clear c_0_3
        refine wpList_nil ?_
        show Code.wp _ _ _ _ _
        refine wp_seq ?_
        refine wp_region_lit ?_
        have c_0_3 := h12.cell 0 rfl 3 rfl
        iterate 2 (refine wpList_plainQ rfl (fun K Q' hK => ?_); go_simp; refine hK _ _ ?_; clear hK K; try clear Q')
        clear c_0_3
        -- stops at: eff:call (Go.Op.call {'callee': (Go.Callee.value (Go.Operand.func 32)), 'args': [(Go.Operand.tmp 31)], 'argTypes': [33]}) slot 32
        refine wpList_plainQ rfl (fun K Q' hK => ?_); go_simp
        refine (wtpop_ok H _ _ t0 l0 h12.fits (by omega) hl').mono ?_
        rintro e wB ⟨q, H2, rfl, hpB, hB⟩
        rw [hpk.out]
        have hB' := hB
        obtain ⟨aQ, cQ, rfl, _, _⟩ := hB.form
        have h13 := h12.call0 hpB
        refine hK _ _ ?_; clear hK K; try clear Q'
        iterate 5 (refine wpList_plainQ rfl (fun K Q' hK => ?_); go_simp; refine hK _ _ ?_; clear hK K; try clear Q')
        refine wpList_nil ?_
        show Code.wp _ _ _ _ _
        refine wp_seq ?_
        repeat (first | simp only [List.nil_append] at h13 | simp only [List.cons_append] at h13 | simp only [List.set_cons_zero] at h13 | simp only [List.set_cons_succ] at h13 | simp only [List.eraseIdx_zero] at h13 | simp only [List.tail_cons] at h13 | simp only [List.eraseIdx_cons_zero] at h13 | simp only [List.eraseIdx_cons_succ] at h13 | simp only [List.setIfInBounds_toArray] at h13)
        refine wp_region_lit ?_
        have c_2_3 := h13.cell 2 rfl 3 rfl
        iterate 3 (refine wpList_plainQ rfl (fun K Q' hK => ?_); go_simp; refine hK _ _ ?_; clear hK K; try clear Q')
        clear c_2_3
        -- stops at: eff:call (Go.Op.call {'callee': (Go.Callee.value (Go.Operand.func 33)), 'args': [(Go.Operand.tmp 37), (Go.Operand.tmp 38)], 'argTypes': [33, 33]}) slot 39
        refine wpList_plainQ rfl (fun K Q' hK => ?_); go_simp
        refine (whmeld_ok H2 _ _ _ us (Sk.pop kw (t0 :: l0)) h13.fits (by omega) (hlu.mono hpB.le) hB').mono ?_
        rintro e wC ⟨q3, H3, rfl, hpC, hC⟩
        rw [hmn.out]
        have hC' := hC
        obtain ⟨aR, cR3, rfl, _, _⟩ := hC.form
        have h14 := h13.call0 hpC
        refine hK _ _ ?_; clear hK K; try clear Q'
        iterate 5 (refine wpList_plainQ rfl (fun K Q' hK => ?_); go_simp; refine hK _ _ ?_; clear hK K; try clear Q')
        refine wpList_nil ?_
        show Code.wp _ _ _ _ _
        refine wp_seq ?_
        repeat (first | simp only [List.nil_append] at h14 | simp only [List.cons_append] at h14 | simp only [List.set_cons_zero] at h14 | simp only [List.set_cons_succ] at h14 | simp only [List.eraseIdx_zero] at h14 | simp only [List.tail_cons] at h14 | simp only [List.eraseIdx_cons_zero] at h14 | simp only [List.eraseIdx_cons_succ] at h14 | simp only [List.setIfInBounds_toArray] at h14)
        refine wp_region_lit ?_
        have c_2_1 := h14.cell 2 rfl 1 rfl
        have c_2_2 := h14.cell 2 rfl 2 rfl
        iterate 10 (refine wpList_plainQ rfl (fun K Q' hK => ?_); go_simp; refine hK _ _ ?_; clear hK K; try clear Q')
        clear c_2_1 c_2_2
        have c_0 := h14.cell 1 rfl 0 rfl
        have f_0 := h14.free 1 rfl 0
        have c_1 := h14.cell 1 rfl 1 rfl
        have f_1 := h14.free 1 rfl 1
        have c_2 := h14.cell 1 rfl 2 rfl
        have f_2 := h14.free 1 rfl 2
        have c_3 := h14.cell 1 rfl 3 rfl
        have f_3 := h14.free 1 rfl 3
        refine wpList_plainQ rfl (fun K Q' hK => ?_); go_simp
        clear c_0 f_0 c_1 f_1 c_2 f_2 c_3 f_3
        refine (((h14.set (i := 1) rfl 0 _).set (i := 1) rfl 1 _).set (i := 1) rfl 2 _).k_set 1 rfl (fun w15 h15 => ?_)
        refine hK _ _ ?_; clear hK K; try clear Q'
        iterate 1 (refine wpList_plainQ rfl (fun K Q' hK => ?_); go_simp; refine hK _ _ ?_; clear hK K; try clear Q')
        refine wpList_nil ?_
        show Code.wp _ _ _ _ _
        -- stops at: ret
        refine wp_ret ?_
        have r_1_0 := h15.cell 1 rfl 0 rfl
        have r_1_1 := h15.cell 1 rfl 1 rfl
        have r_1_2 := h15.cell 1 rfl 2 rfl
        have r_1_3 := h15.cell 1 rfl 3 rfl
        first | show bodyPost _ _ _ _ _ _ | (simp only [Exit.then]; show bodyPost _ _ _ _ _ _) | (simp only [Exit.inBlock]; show bodyPost _ _ _ _ _ _) | (simp only [Exit.inBlock, Exit.then]; show bodyPost _ _ _ _ _ _) | (simp only [Exit.noGoto, Exit.inBlock, Exit.then]; show bodyPost _ _ _ _ _ _)
        refine bodyPost_ret (v := ?_) ?_ rfl ?_
        rotate_left
        · simp only [results, Tryz.results13]; go_simp; with_reducible rfl
        clear r_1_0 r_1_1 r_1_2 r_1_3
        refine ⟨[.bool true, .int .i64 tr.x.2.root.1, .int .i64 tr.x.2.root.2, .slice aR _ cR3], H3, by rw [hcd], h15.post, ?_⟩
        show WvR H3 _ t.pop
        rw [hpop]
        refine HvR.mk _ hC' rfl (fun z hz => ?_)
        rcases List.mem_append.1 ((Sk.meld_perm kw us (Sk.pop kw (t0 :: l0))).subset hz) with hz | hz
        · exact ((hdu z hz).mono hpB.le).mono hpC.le
        · exact ((hd z (hall z hz)).mono hpB.le).mono hpC.le
end Go.Proofs.YtkhjcmbppcimnaaGreatDoor
/-
The document's heaps of heaps: all heaps of a queue, how many elements, as a text.
-/
namespace Go.Proofs.YtkhjcmbppcimnaaGreatDoor
open Go Go.RowKit
set_option linter.unusedVariables false

theorem vC_els {l : List (Tr Vp)} (h : ∀ y ∈ Rw.els l, vC y) {t : Tr Vp} (ht : t ∈ l) : ∀ y ∈ t.els, vC y := fun y hy => h y (List.mem_flatMap.2 ⟨t, ht, hy⟩)
theorem vpC_append (a b : List Vp) : vpC (a ++ b) = vpC a ++ vpC b := List.flatMap_append
theorem wtoL_size {k : RT Vp} {t : Tr Vp} (h : t ∈ k.toL) : t.size ≤ k.els.length := by
  have he := Rw.toL_els k
  obtain ⟨i, hi⟩ := List.getElem?_of_mem h
  have := wsize_mem hi
  rw [← he]; exact this
theorem take_els_le (l : List (Tr Vp)) (j : Nat) : (Rw.els (l.take j)).length ≤ (Rw.els l).length := wsize_take_le l j
theorem take_els_snoc (l : List (Tr Vp)) (j : Nat) (t : Tr Vp) (h : l[j]? = some t) : Rw.els (l.take (j + 1)) = Rw.els (l.take j) ++ t.els := by
  rw [List.take_add_one, h]
  simp [Rw.els]

set_option maxRecDepth 100000 in
set_option maxHeartbeats 8000000 in
theorem wall_all (t : RT Vp) : ∀ tr ∈ t.toL, ∀ (H : GH) (w : World) (v : Value), Fits w H → tr.size < 900000 → TrW H v tr →
    Calls Tryz.prog 41 #[v] w fun e w' => ∃ r H', e = .returned r ∧ Post w H none w' H' 0 0 ∧ HsV H' r tr.els := by
  induction t with
  | nil => intro tr h; simp [RT.toL] at h
  | node x b k n ih1 ih2 =>
    intro tr htr H w v hf hn hv
    rcases List.mem_cons.1 htr with rfl | htr
    · clear ih2 htr
      have hpre : Pre w H none 0 0 := Pre.none hf 0 0
      have hsz : 1 + b.length + k.els.length < 900000 := by
        have h5 : (⟨x, b, k⟩ : Tr Vp).size = 1 + b.length + k.els.length := by simp [Tr.size, Tr.els]; omega
        omega
      have hkl := k.len_le
      obtain ⟨bR, oR, cR, aB, cB, aK, cK, r, rfl, hcR, hr, hxv, hbv, hkv⟩ := hv.form
      simp only at hxv hbv hkv
      obtain ⟨nb, hnb⟩ : ∃ m, Hid (b.length = m) := ⟨_, show _ = _ from rfl⟩
      obtain ⟨nk, hnk⟩ : ∃ m, Hid (k.toL.length = m) := ⟨_, show _ = _ from rfl⟩
      have hnk2 : Hid (k.len = nk) := by rw [← hnk.out, RT.toL_length]; exact (show _ = _ from rfl)
      have hnbl : nb < 900000 := by have := hnb.out; omega
      have hnkl : nk < 900000 := by have := hnk2.out; omega
      have hels : Rw.els k.toL = k.els := Rw.toL_els k
      have hb1 := hbv.1
      rw [hnb.out] at hb1
      rw [hnk.out] at hkv
      rw [show (⟨x, b, k⟩ : Tr Vp).b.length = nb from hnb.out, show (⟨x, b, k⟩ : Tr Vp).k.toL.length = nk from hnk.out]
      go_enter Tryz.func41, Tryz.ntmps41
      have h0 := St.start hpre
      refine wp_seq ?_
      repeat (first | simp only [List.nil_append] at h0 | simp only [List.cons_append] at h0 | simp only [List.set_cons_zero] at h0 | simp only [List.set_cons_succ] at h0 | simp only [List.eraseIdx_zero] at h0 | simp only [List.tail_cons] at h0 | simp only [List.eraseIdx_cons_zero] at h0 | simp only [List.eraseIdx_cons_succ] at h0 | simp only [List.setIfInBounds_toArray] at h0)
      refine wp_region_lit ?_
      refine wpList_plainQ rfl (fun K Q' hK => ?_); go_simp
      refine h0.k_alloc (fun w1 h1 => ?_)
      refine hK _ _ ?_; clear hK K; try clear Q'
      iterate 1 (refine wpList_plainQ rfl (fun K Q' hK => ?_); go_simp; refine hK _ _ ?_; clear hK K; try clear Q')
      refine wpList_nil ?_
      show Code.wp _ _ _ _ _
      refine wp_seq ?_
      repeat (first | simp only [List.nil_append] at h1 | simp only [List.cons_append] at h1 | simp only [List.set_cons_zero] at h1 | simp only [List.set_cons_succ] at h1 | simp only [List.eraseIdx_zero] at h1 | simp only [List.tail_cons] at h1 | simp only [List.eraseIdx_cons_zero] at h1 | simp only [List.eraseIdx_cons_succ] at h1 | simp only [List.setIfInBounds_toArray] at h1)
      refine wp_region_lit ?_
      iterate 1 (refine wpList_plainQ rfl (fun K Q' hK => ?_); go_simp; refine hK _ _ ?_; clear hK K; try clear Q')
      refine wpList_nil ?_
      show Code.wp _ _ _ _ _
      refine wp_seq ?_
      refine wp_region_lit ?_
      have c_0_1 := h1.cell 0 rfl 1 rfl
      iterate 3 (refine wpList_plainQ rfl (fun K Q' hK => ?_); go_simp; refine hK _ _ ?_; clear hK K; try clear Q')
      clear c_0_1
      -- stops at: eff:Builtin.append (Go.Op.call {'callee': (Go.Callee.builtin Go.Builtin.append), 'args': [(Go.Operand.tmp 5), (Go.Operand.tmp 7)], 'argTypes': [36, 36]}) slot 8
      have h80 := h1.row0 35 4
      refine wpList_plainQ rfl (fun K Q' hK => ?_)
      refine h80.op_append_rep 0 rfl rfl infoHV rfl (vpC [x]) rfl hxv.1 (vpC_one hxv.2) (by simp) (by unfold maxLen; simp) (fun v1 wB hB => ?_)
      refine hK _ _ ?_; clear hK K; try clear Q'
      simp only [List.length_cons, List.length_nil, Nat.zero_add, List.nil_append] at hB
      obtain ⟨aV, cV, rfl⟩ := hB.row_form 0 rfl
      iterate 1 (refine wpList_plainQ rfl (fun K Q' hK => ?_); go_simp; refine hK _ _ ?_; clear hK K; try clear Q')
      refine wpList_nil ?_
      show Code.wp _ _ _ _ _
      refine wp_seq ?_
      repeat (first | simp only [List.nil_append] at hB | simp only [List.cons_append] at hB | simp only [List.set_cons_zero] at hB | simp only [List.set_cons_succ] at hB | simp only [List.eraseIdx_zero] at hB | simp only [List.tail_cons] at hB | simp only [List.eraseIdx_cons_zero] at hB | simp only [List.eraseIdx_cons_succ] at hB | simp only [List.setIfInBounds_toArray] at hB)
      refine wp_region_lit ?_
      have c_0_2 := hB.cell 0 rfl 2 rfl
      iterate 3 (refine wpList_plainQ rfl (fun K Q' hK => ?_); go_simp; refine hK _ _ ?_; clear hK K; try clear Q')
      clear c_0_2
      -- stops at: eff:Builtin.append (Go.Op.call {'callee': (Go.Callee.builtin Go.Builtin.append), 'args': [(Go.Operand.tmp 9), (Go.Operand.tmp 11)], 'argTypes': [36, 36]}) slot 12
      refine wpList_plainQ rfl (fun K Q' hK => ?_)
      refine hB.op_append_rep 0 rfl rfl infoHV rfl (vpC b) rfl hb1 (vpC_one hbv.2) (by omega) (by unfold maxLen; omega) (fun v2 wC hC => ?_)
      refine hK _ _ ?_; clear hK K; try clear Q'
      obtain ⟨aW, cW, rfl⟩ := hC.row_form 0 rfl
      have hC' : Hid (vpC [x] ++ vpC b = vpC (x :: (b ++ Rw.els (k.toL.take 0)))) := by show _ = _; simp [vpC, Rw.els]
      rw [hC'.out] at hC
      iterate 1 (refine wpList_plainQ rfl (fun K Q' hK => ?_); go_simp; refine hK _ _ ?_; clear hK K; try clear Q')
      refine wpList_nil ?_
      show Code.wp _ _ _ _ _
      refine wp_seq ?_
      refine wp_seq ?_
      repeat (first | simp only [List.nil_append] at hC | simp only [List.cons_append] at hC | simp only [List.set_cons_zero] at hC | simp only [List.set_cons_succ] at hC | simp only [List.eraseIdx_zero] at hC | simp only [List.tail_cons] at hC | simp only [List.eraseIdx_cons_zero] at hC | simp only [List.eraseIdx_cons_succ] at hC | simp only [List.setIfInBounds_toArray] at hC)
      refine wp_region_lit ?_
      iterate 1 (refine wpList_plainQ rfl (fun K Q' hK => ?_); go_simp; refine hK _ _ ?_; clear hK K; try clear Q')
      refine wpList_nil ?_
      show Code.wp _ _ _ _ _
      refine wp_block ?_
      -- stops at: loop
      go_loopw [3, 4] (fun v3 v4 wr => ∃ (j m : Nat) (H' : GH), j ≤ nk ∧ v4 = .int .i64 j ∧ Hid (m = 1 + nb + (Rw.els (k.toL.take j)).length) ∧ H.le H' ∧ (∀ y ∈ Rw.els (k.toL.take j), vC y) ∧ St w H none 0 0 wr H' [(w.heap.size, .cells #[.int .i64 (r : Int), .slice (some ⟨bR, oR, none⟩) 1 cR, .slice aB nb cB, .slice aK nk cK] 82)] [⟨v3, 35, 4, m, vpC (x :: (b ++ Rw.els (k.toL.take j)))⟩]) (fun _ v4 _ => nk - (intOf v4).toNat)
      case atStart => exact ⟨0, 1 + nb, H, by omega, rfl, by show _ = _; simp [Rw.els], GH.le_refl _, by simp [Rw.els], hC⟩
      case round =>
        obtain ⟨j, m, H5, hj, rfl, hm, hle5, hvc, hs⟩ := hrel
        obtain ⟨a3, c3, rfl⟩ := hs.row_form 0 rfl
        have hml : m < 900000 := by have h5 := take_els_le k.toL j; rw [hels] at h5; have := hm.out; have := hnb.out; omega
        by_cases hlt : j < nk
        · obtain ⟨y, hy⟩ : ∃ y, k.toL[j]? = some y := ⟨k.toL[j]'(by have := hnk.out; omega), by simp⟩
          have hyk := List.mem_of_getElem? hy
          have hys := wtoL_size hyk
          obtain ⟨b9, o9, cap9, e9⟩ : ∃ b o c, (Value.slice aK nk cK) = .slice (some ⟨b, o, none⟩) nk c := by
            obtain ⟨cs, h1, _⟩ := hkv
            rw [hnk.out] at h1
            obtain ⟨b, o, c, e, _⟩ := h1.ne_nil (by omega)
            exact ⟨b, o, c, e⟩
          simp only [Value.slice.injEq, true_and] at e9
          obtain ⟨rfl, rfl⟩ := e9
          obtain ⟨bR2, oR2, cR2, aB2, cB2, aK2, cK2, r2, hcR2, hc2, hr2, hx2, hb2, hk2⟩ := hkv.at j hy
          have htv : TrW H (tW r2 (.slice (some ⟨bR2, oR2, none⟩) 1 cR2) (.slice aB2 y.b.length cB2) (.slice aK2 y.k.toL.length cK2)) y := ⟨_, _, _, r2, rfl, hr2, hx2, hb2, hk2⟩
          have e8 : IntKind.i64.wrap ((j : Int) + 1) = (j : Int) + 1 := IntWalk.i64_in _ (by omega)
          have hrec := ih1 y hyk H5
          refine wp_seq ?_
          refine wp_seq ?_
          repeat (first | simp only [List.nil_append] at hs | simp only [List.cons_append] at hs | simp only [List.set_cons_zero] at hs | simp only [List.set_cons_succ] at hs | simp only [List.eraseIdx_zero] at hs | simp only [List.tail_cons] at hs | simp only [List.eraseIdx_cons_zero] at hs | simp only [List.eraseIdx_cons_succ] at hs | simp only [List.setIfInBounds_toArray] at hs)
          refine wp_region_lit ?_
          have c_0_3 := hs.cell 0 rfl 3 rfl
          iterate 5 (refine wpList_plainQ rfl (fun K Q' hK => ?_); go_simp; refine hK _ _ ?_; clear hK K; try clear Q')
          clear c_0_3
          refine wpList_nil ?_
          show Code.wp _ _ _ _ _
          -- stops at: cond
          refine wp_cond_true (rfl) ?_
          refine wp_skip ?_
          show Code.wp _ _ _ _ _
          refine wp_seq ?_
          refine wp_block ?_
          refine wp_region_lit ?_
          have c_0_3 := hs.cell 0 rfl 3 rfl
          iterate 5 (refine wpList_plainQ rfl (fun K Q' hK => ?_); go_simp; refine hK _ _ ?_; clear hK K; try clear Q')
          clear c_0_3
          -- stops at: load (Go.Op.load 82 (Go.Operand.tmp 24)) slot 25
          have ce := hc2.out _ (hs.fits.le hle5)
          obtain ⟨q0, q1, q2, q3⟩ := ce
          iterate 1 (refine wpList_plainQ rfl (fun K Q' hK => ?_); go_simp; refine hK _ _ ?_; clear hK K; try clear Q')
          clear q0 q1 q2 q3
          -- stops at: eff:call (Go.Op.call {'callee': (Go.Callee.value (Go.Operand.func 41)), 'args': [(Go.Operand.tmp 25)], 'argTypes': [82]}) slot 26
          refine wpList_plainQ rfl (fun K Q' hK => ?_); go_simp
          refine (hrec _ _ hs.fits (by omega) (htv.mono hle5)).mono ?_
          rintro e wD ⟨rY, H6, rfl, hpD, hAY⟩
          have hAY' := hAY
          obtain ⟨aY, cY, rfl, _, _⟩ := hAY.form
          obtain ⟨ny, hny⟩ : ∃ q, Hid (y.els.length = q) := ⟨_, show _ = _ from rfl⟩
          have hAY1 := hAY.1
          rw [hny.out] at hAY1 ⊢
          have hnyl : ny < 900000 := by have h5 : y.size = ny := hny.out; omega
          have h2 := hs.call0 hpD
          refine hK _ _ ?_; clear hK K; try clear Q'
          -- stops at: eff:Builtin.append (Go.Op.call {'callee': (Go.Callee.builtin Go.Builtin.append), 'args': [(Go.Operand.tmp 20), (Go.Operand.tmp 26)], 'argTypes': [36, 36]}) slot 27
          refine wpList_plainQ rfl (fun K Q' hK => ?_)
          refine h2.op_append_rep 0 rfl rfl infoHV rfl (vpC y.els) rfl hAY1 (vpC_one hAY.2) (by omega) (by unfold maxLen; omega) (fun v1 wE hE => ?_)
          refine hK _ _ ?_; clear hK K; try clear Q'
          obtain ⟨aE, cE, rfl⟩ := hE.row_form 0 rfl
          iterate 1 (refine wpList_plainQ rfl (fun K Q' hK => ?_); go_simp; refine hK _ _ ?_; clear hK K; try clear Q')
          refine wpList_nil ?_
          show Code.wp _ _ _ _ _
          repeat (first | simp only [List.nil_append] at hE | simp only [List.cons_append] at hE | simp only [List.set_cons_zero] at hE | simp only [List.set_cons_succ] at hE | simp only [List.eraseIdx_zero] at hE | simp only [List.tail_cons] at hE | simp only [List.eraseIdx_cons_zero] at hE | simp only [List.eraseIdx_cons_succ] at hE | simp only [List.setIfInBounds_toArray] at hE)
          refine wp_region_lit ?_
          iterate 3 (refine wpList_plainQ rfl (fun K Q' hK => ?_); go_simp; refine hK _ _ ?_; clear hK K; try clear Q')
          refine wpList_nil ?_
          -- stops at: end ('roundend',)
          show _ ∧ _
          go_roundw
          case rel =>
            have hsn := take_els_snoc k.toL j y hy
            refine ⟨j + 1, m + ny, H6, by omega, by simp, ?_, hle5.trans hpD.le, ?_, ?_⟩
            · show _ = _; rw [hsn, List.length_append, hny.out]; have := hm.out; omega
            · intro z hz
              rw [hsn] at hz
              rcases List.mem_append.1 hz with hz | hz
              · exact hvc z hz
              · exact hAY.2 z hz
            · rw [hsn, show vpC (x :: (b ++ (Rw.els (k.toL.take j) ++ y.els))) = vpC (x :: (b ++ Rw.els (k.toL.take j))) ++ vpC y.els by simp [vpC]]
              exact hE.take 1
          case measure => simp [intOf]; omega
        · obtain rfl : j = nk := by omega
          have htk : k.toL.take j = k.toL := List.take_of_length_le (by have := hnk.out; omega)
          rw [htk, hels] at hs hvc
          rw [htk, hels] at hm
          clear htk
          obtain ⟨H7, h7, rA, leA⟩ := hs.settleRow 0 rfl
          refine wp_seq ?_
          refine wp_seq ?_
          repeat (first | simp only [List.nil_append] at h7 | simp only [List.cons_append] at h7 | simp only [List.set_cons_zero] at h7 | simp only [List.set_cons_succ] at h7 | simp only [List.eraseIdx_zero] at h7 | simp only [List.tail_cons] at h7 | simp only [List.eraseIdx_cons_zero] at h7 | simp only [List.eraseIdx_cons_succ] at h7 | simp only [List.setIfInBounds_toArray] at h7)
          refine wp_region_lit ?_
          have c_0_3 := h7.cell 0 rfl 3 rfl
          iterate 5 (refine wpList_plainQ rfl (fun K Q' hK => ?_); go_simp; refine hK _ _ ?_; clear hK K; try clear Q')
          clear c_0_3
          refine wpList_nil ?_
          show Code.wp _ _ _ _ _
          -- stops at: cond
          refine wp_cond_false (rfl) ?_
          refine wp_exit ?_
          show Code.wp _ _ _ _ _
          refine wp_seq ?_
          refine wp_region_lit ?_
          iterate 2 (refine wpList_plainQ rfl (fun K Q' hK => ?_); go_simp; refine hK _ _ ?_; clear hK K; try clear Q')
          refine wpList_nil ?_
          show Code.wp _ _ _ _ _
          -- stops at: ret
          refine wp_ret ?_
          go_ret
          refine ⟨_, H7, rfl, h7.post, ?_⟩
          show HsV H7 _ (x :: (b ++ k.els))
          refine ⟨?_, ?_⟩
          · rw [show (x :: (b ++ k.els)).length = m by have := hm.out; have := hnb.out; simp; omega]
            exact rA
          · intro z hz
            rcases List.mem_cons.1 hz with rfl | hz
            · exact hxv.2 _ (by simp)
            · rcases List.mem_append.1 hz with hz | hz
              · exact hbv.2 z hz
              · exact hvc z hz
    · exact ih2 tr htr H w v hf hn hv
theorem wall_ok (H : GH) (w : World) (v : Value) (tr : Tr Vp) (hf : Fits w H) (hn : tr.size < 900000) (hv : TrW H v tr) :
    Calls Tryz.prog 41 #[v] w fun e w' => ∃ r H', e = .returned r ∧ Post w H none w' H' 0 0 ∧ HsV H' r tr.els :=
  wall_all (.node tr.x tr.b tr.k .nil) tr (by simp [RT.toL]) H w v hf hn hv

set_option maxRecDepth 100000 in
set_option maxHeartbeats 4000000 in
theorem wqueue_ok (H : GH) (w : World) (p q : Int) (a : Option Addr) (n0 c : Nat) (l : List (Tr Vp)) (hf : Fits w H) (hn : Rw.size l < 900000) (hv : RsW H (.slice a n0 c) l) :
    Calls Tryz.prog 22 #[.agg #[.bool true, .int .i64 p, .int .i64 q, .slice a n0 c]] w fun e w' => ∃ r H', e = .returned r ∧ Post w H none w' H' 0 0 ∧ HsV H' r (Rw.els l) := by
  have hpre : Pre w H none 0 0 := Pre.none hf 0 0
  obtain ⟨nk, hnk⟩ : ∃ m, Hid (l.length = m) := ⟨_, show _ = _ from rfl⟩
  obtain ⟨_, _, e0, _, _⟩ := hv.form
  simp only [Value.slice.injEq] at e0
  obtain ⟨rfl, rfl, rfl⟩ := e0
  have hnkl : nk < 900000 := by have := hnk.out; have := Rw.length_le l; omega
  rw [hnk.out] at hv ⊢
  go_enter Tryz.func22, Tryz.ntmps22
  have h0 := St.start hpre
  refine wp_seq ?_
  repeat (first | simp only [List.nil_append] at h0 | simp only [List.cons_append] at h0 | simp only [List.set_cons_zero] at h0 | simp only [List.set_cons_succ] at h0 | simp only [List.eraseIdx_zero] at h0 | simp only [List.tail_cons] at h0 | simp only [List.eraseIdx_cons_zero] at h0 | simp only [List.eraseIdx_cons_succ] at h0 | simp only [List.setIfInBounds_toArray] at h0)
  refine wp_region_lit ?_
  refine wpList_plainQ rfl (fun K Q' hK => ?_); go_simp
  refine h0.k_alloc (fun w1 h1 => ?_)
  refine hK _ _ ?_; clear hK K; try clear Q'
  iterate 1 (refine wpList_plainQ rfl (fun K Q' hK => ?_); go_simp; refine hK _ _ ?_; clear hK K; try clear Q')
  refine wpList_nil ?_
  show Code.wp _ _ _ _ _
  refine wp_seq ?_
  repeat (first | simp only [List.nil_append] at h1 | simp only [List.cons_append] at h1 | simp only [List.set_cons_zero] at h1 | simp only [List.set_cons_succ] at h1 | simp only [List.eraseIdx_zero] at h1 | simp only [List.tail_cons] at h1 | simp only [List.eraseIdx_cons_zero] at h1 | simp only [List.eraseIdx_cons_succ] at h1 | simp only [List.setIfInBounds_toArray] at h1)
  refine wp_region_lit ?_
  iterate 1 (refine wpList_plainQ rfl (fun K Q' hK => ?_); go_simp; refine hK _ _ ?_; clear hK K; try clear Q')
  refine wpList_nil ?_
  show Code.wp _ _ _ _ _
  refine wp_seq ?_
  refine wp_seq ?_
  refine wp_region_lit ?_
  iterate 1 (refine wpList_plainQ rfl (fun K Q' hK => ?_); go_simp; refine hK _ _ ?_; clear hK K; try clear Q')
  refine wpList_nil ?_
  show Code.wp _ _ _ _ _
  refine wp_block ?_
  -- stops at: loop
  have h80 := h1.row0 35 4
  go_loopw [3, 4] (fun v3 v4 wr => ∃ (j m : Nat) (H' : GH), j ≤ nk ∧ v4 = .int .i64 j ∧ Hid (m = (Rw.els (l.take j)).length) ∧ H.le H' ∧ (∀ y ∈ Rw.els (l.take j), vC y) ∧ St w H none 0 0 wr H' [(w.heap.size, .cells #[.bool true, .int .i64 p, .int .i64 q, .slice a nk c] 35)] [⟨v3, 35, 4, m, vpC (Rw.els (l.take j))⟩]) (fun _ v4 _ => nk - (intOf v4).toNat)
  case atStart => exact ⟨0, 0, H, by omega, rfl, by show _ = _; simp [Rw.els], GH.le_refl _, by simp [Rw.els], h80⟩
  case round =>
    obtain ⟨j, m, H5, hj, rfl, hm, hle5, hvc, hs⟩ := hrel
    obtain ⟨a3, c3, rfl⟩ := hs.row_form 0 rfl
    have hml : m < 900000 := by have h5 := wsize_take_le l j; have : Rw.size (l.take j) = m := hm.out.symm; omega
    by_cases hlt : j < nk
    · obtain ⟨y, hy⟩ : ∃ y, l[j]? = some y := ⟨l[j]'(by have := hnk.out; omega), by simp⟩
      have hys := wsize_mem hy
      obtain ⟨b9, o9, cap9, e9⟩ : ∃ b o c', (Value.slice a nk c) = .slice (some ⟨b, o, none⟩) nk c' := by
        obtain ⟨cs, h1, _⟩ := hv
        rw [hnk.out] at h1
        obtain ⟨b, o, c, e, _⟩ := h1.ne_nil (by omega)
        exact ⟨b, o, c, e⟩
      simp only [Value.slice.injEq, true_and] at e9
      obtain ⟨rfl, rfl⟩ := e9
      obtain ⟨bR2, oR2, cR2, aB2, cB2, aK2, cK2, r2, hcR2, hc2, hr2, hx2, hb2, hk2⟩ := hv.at j hy
      have htv : TrW H (tW r2 (.slice (some ⟨bR2, oR2, none⟩) 1 cR2) (.slice aB2 y.b.length cB2) (.slice aK2 y.k.toL.length cK2)) y := ⟨_, _, _, r2, rfl, hr2, hx2, hb2, hk2⟩
      have e8 : IntKind.i64.wrap ((j : Int) + 1) = (j : Int) + 1 := IntWalk.i64_in _ (by omega)
      refine wp_seq ?_
      refine wp_seq ?_
      repeat (first | simp only [List.nil_append] at hs | simp only [List.cons_append] at hs | simp only [List.set_cons_zero] at hs | simp only [List.set_cons_succ] at hs | simp only [List.eraseIdx_zero] at hs | simp only [List.tail_cons] at hs | simp only [List.eraseIdx_cons_zero] at hs | simp only [List.eraseIdx_cons_succ] at hs | simp only [List.setIfInBounds_toArray] at hs)
      refine wp_region_lit ?_
      have c_0_3 := hs.cell 0 rfl 3 rfl
      iterate 5 (refine wpList_plainQ rfl (fun K Q' hK => ?_); go_simp; refine hK _ _ ?_; clear hK K; try clear Q')
      clear c_0_3
      refine wpList_nil ?_
      show Code.wp _ _ _ _ _
      -- stops at: cond
      refine wp_cond_true (rfl) ?_
      refine wp_skip ?_
      show Code.wp _ _ _ _ _
      refine wp_seq ?_
      refine wp_block ?_
      refine wp_region_lit ?_
      have c_0_3 := hs.cell 0 rfl 3 rfl
      iterate 5 (refine wpList_plainQ rfl (fun K Q' hK => ?_); go_simp; refine hK _ _ ?_; clear hK K; try clear Q')
      clear c_0_3
      -- stops at: load (Go.Op.load 82 (Go.Operand.tmp 16)) slot 17
      have ce := hc2.out _ (hs.fits.le hle5)
      obtain ⟨q0, q1, q2, q3⟩ := ce
      iterate 1 (refine wpList_plainQ rfl (fun K Q' hK => ?_); go_simp; refine hK _ _ ?_; clear hK K; try clear Q')
      clear q0 q1 q2 q3
      -- stops at: eff:call (Go.Op.call {'callee': (Go.Callee.value (Go.Operand.func 41)), 'args': [(Go.Operand.tmp 17)], 'argTypes': [82]}) slot 18
      refine wpList_plainQ rfl (fun K Q' hK => ?_); go_simp
      refine (wall_ok H5 _ _ y hs.fits (by omega) (htv.mono hle5)).mono ?_
      rintro e wD ⟨rY, H6, rfl, hpD, hAY⟩
      have hAY' := hAY
      obtain ⟨aY, cY, rfl, _, _⟩ := hAY.form
      obtain ⟨ny, hny⟩ : ∃ q, Hid (y.els.length = q) := ⟨_, show _ = _ from rfl⟩
      have hAY1 := hAY.1
      rw [hny.out] at hAY1 ⊢
      have hnyl : ny < 900000 := by have h5 : y.size = ny := hny.out; omega
      have h2 := hs.call0 hpD
      refine hK _ _ ?_; clear hK K; try clear Q'
      -- stops at: eff:Builtin.append (Go.Op.call {'callee': (Go.Callee.builtin Go.Builtin.append), 'args': [(Go.Operand.tmp 12), (Go.Operand.tmp 18)], 'argTypes': [36, 36]}) slot 19
      refine wpList_plainQ rfl (fun K Q' hK => ?_)
      refine h2.op_append_rep 0 rfl rfl infoHV rfl (vpC y.els) rfl hAY1 (vpC_one hAY.2) (by omega) (by unfold maxLen; omega) (fun v1 wE hE => ?_)
      refine hK _ _ ?_; clear hK K; try clear Q'
      obtain ⟨aE, cE, rfl⟩ := hE.row_form 0 rfl
      iterate 1 (refine wpList_plainQ rfl (fun K Q' hK => ?_); go_simp; refine hK _ _ ?_; clear hK K; try clear Q')
      refine wpList_nil ?_
      show Code.wp _ _ _ _ _
      repeat (first | simp only [List.nil_append] at hE | simp only [List.cons_append] at hE | simp only [List.set_cons_zero] at hE | simp only [List.set_cons_succ] at hE | simp only [List.eraseIdx_zero] at hE | simp only [List.tail_cons] at hE | simp only [List.eraseIdx_cons_zero] at hE | simp only [List.eraseIdx_cons_succ] at hE | simp only [List.setIfInBounds_toArray] at hE)
      refine wp_region_lit ?_
      iterate 3 (refine wpList_plainQ rfl (fun K Q' hK => ?_); go_simp; refine hK _ _ ?_; clear hK K; try clear Q')
      refine wpList_nil ?_
      -- stops at: end ('roundend',)
      show _ ∧ _
      go_roundw
      case rel =>
        have hsn := take_els_snoc l j y hy
        refine ⟨j + 1, m + ny, H6, by omega, by simp, ?_, hle5.trans hpD.le, ?_, ?_⟩
        · show _ = _; rw [hsn, List.length_append, hny.out]; have := hm.out; omega
        · intro z hz
          rw [hsn] at hz
          rcases List.mem_append.1 hz with hz | hz
          · exact hvc z hz
          · exact hAY.2 z hz
        · rw [hsn, vpC_append]
          exact hE.take 1
      case measure => simp [intOf]; omega
    · obtain rfl : j = nk := by omega
      have htk : l.take j = l := List.take_of_length_le (by have := hnk.out; omega)
      rw [htk] at hs hvc hm
      clear htk
      obtain ⟨H7, h7, rA, leA⟩ := hs.settleRow 0 rfl
      refine wp_seq ?_
      refine wp_seq ?_
      repeat (first | simp only [List.nil_append] at h7 | simp only [List.cons_append] at h7 | simp only [List.set_cons_zero] at h7 | simp only [List.set_cons_succ] at h7 | simp only [List.eraseIdx_zero] at h7 | simp only [List.tail_cons] at h7 | simp only [List.eraseIdx_cons_zero] at h7 | simp only [List.eraseIdx_cons_succ] at h7 | simp only [List.setIfInBounds_toArray] at h7)
      refine wp_region_lit ?_
      have c_0_3 := h7.cell 0 rfl 3 rfl
      iterate 5 (refine wpList_plainQ rfl (fun K Q' hK => ?_); go_simp; refine hK _ _ ?_; clear hK K; try clear Q')
      clear c_0_3
      refine wpList_nil ?_
      show Code.wp _ _ _ _ _
      -- stops at: cond
      refine wp_cond_false (rfl) ?_
      refine wp_exit ?_
      show Code.wp _ _ _ _ _
      refine wp_seq ?_
      refine wp_region_lit ?_
      iterate 2 (refine wpList_plainQ rfl (fun K Q' hK => ?_); go_simp; refine hK _ _ ?_; clear hK K; try clear Q')
      refine wpList_nil ?_
      show Code.wp _ _ _ _ _
      -- stops at: ret
      refine wp_ret ?_
      go_ret
      refine ⟨_, H7, rfl, h7.post, ?_, hvc⟩
      rw [← hm.out]
      exact rA

/-! ### How many elements -/
theorem els_sum (l : List BH) (j : Nat) (y : BH) (h : l[j]? = some y) : (BH.elsL (l.take (j + 1))).length = (BH.elsL (l.take j)).length + y.els.length := by
  rw [List.take_add_one, h, BH.elsL_append]
  simp [BH.elsL]
theorem els_take_le (l : List BH) (j : Nat) : (BH.elsL (l.take j)).length ≤ (BH.elsL l).length := by
  have h := BH.elsL_append (l.take j) (l.drop j)
  rw [List.take_append_drop] at h
  rw [h]; simp
set_option maxRecDepth 100000 in
set_option maxHeartbeats 4000000 in
theorem wbsize_ok (t : BH) : ∀ (H : GH) (w : World) (cs : List Value), Fits w H → t.els.length < 900000 → HvR H cs t →
    Calls Tryz.prog 7 #[.agg cs.toArray] w fun e w' => e = .returned (.int .i64 (t.els.length : Nat)) ∧ Keep none w w' := by
  refine BH.ind (P := fun t => ∀ (H : GH) (w : World) (cs : List Value), Fits w H → t.els.length < 900000 → HvR H cs t →
    Calls Tryz.prog 7 #[.agg cs.toArray] w fun e w' => e = .returned (.int .i64 (t.els.length : Nat)) ∧ Keep none w w') (fun x q ih => ?_) t
  intro H w cs hf hn hv
  have hpre : Pre w H none 0 0 := Pre.none hf 0 0
  have hqs := BH.queue_le (.mk x q)
  obtain ⟨a, n0, c, l, rfl, hl, hq, hd⟩ := hv.open
  have hq' : Rw.map Prod.snd l = q := hq.out
  have hsz : Rw.size l < 900000 := by rw [← hq.out, wsnd] at hqs; omega
  obtain ⟨es, hes⟩ : ∃ es, Hid (Rw.els l = es) := ⟨_, show _ = _ from rfl⟩
  obtain ⟨nn, hnn⟩ : ∃ nn, Hid (es.length = nn) := ⟨_, show _ = _ from rfl⟩
  have hnb : nn < 1000000 := by have : Rw.size l = nn := by rw [← hnn.out, ← hes.out]; rfl
                                omega
  have htot : Hid ((BH.mk x q).els.length = 1 + (BH.elsL (es.map Prod.snd)).length) := by
    show _ = _
    rw [BH.els_mk, ← hq', Rw.map_els, hes.out]
    show ((es.map Prod.snd).flatMap BH.els).length + 1 = _
    unfold BH.elsL
    omega
  have hkid : ∀ y ∈ es, ∀ (H' : GH) (w' : World), Fits w' H' → H.le H' → Calls Tryz.prog 7 #[.agg y.1.toArray] w' fun e w2 => e = .returned (.int .i64 (y.2.els.length : Nat)) ∧ Keep none w' w2 := fun y hy H' w' hf' hle' => by
    have hy' : y.2 ∈ Rw.els q := by rw [← hq', Rw.map_els]; exact List.mem_map.2 ⟨y, by rw [hes.out]; exact hy, rfl⟩
    have hm := BH.sum_mem hy'
    have h5 : (BH.mk x q).els.length = (BH.elsL (Rw.els q)).length + 1 := by rw [BH.els_mk]; rfl
    exact ih y.2 hy' H' w' y.1 hf' (by omega) ((hd y (by rw [hes.out]; exact hy)).mono hle')
  clear ih hqs
  have htl := htot.out
  have hbl : (BH.elsL (es.map Prod.snd)).length < 900000 := by omega
  rw [htot.out]
  clear htl
  go_enter Tryz.func7, Tryz.ntmps7
  have h0 := St.start hpre
  refine wp_seq ?_
  repeat (first | simp only [List.nil_append] at h0 | simp only [List.cons_append] at h0 | simp only [List.set_cons_zero] at h0 | simp only [List.set_cons_succ] at h0 | simp only [List.eraseIdx_zero] at h0 | simp only [List.tail_cons] at h0 | simp only [List.eraseIdx_cons_zero] at h0 | simp only [List.eraseIdx_cons_succ] at h0 | simp only [List.setIfInBounds_toArray] at h0)
  refine wp_region_lit ?_
  refine wpList_plainQ rfl (fun K Q' hK => ?_); go_simp
  refine h0.k_alloc (fun w1 h1 => ?_)
  refine hK _ _ ?_; clear hK K; try clear Q'
  iterate 1 (refine wpList_plainQ rfl (fun K Q' hK => ?_); go_simp; refine hK _ _ ?_; clear hK K; try clear Q')
  refine wpList_nil ?_
  show Code.wp _ _ _ _ _
  refine wp_seq ?_
  refine wp_seq ?_
  repeat (first | simp only [List.nil_append] at h1 | simp only [List.cons_append] at h1 | simp only [List.set_cons_zero] at h1 | simp only [List.set_cons_succ] at h1 | simp only [List.eraseIdx_zero] at h1 | simp only [List.tail_cons] at h1 | simp only [List.eraseIdx_cons_zero] at h1 | simp only [List.eraseIdx_cons_succ] at h1 | simp only [List.setIfInBounds_toArray] at h1)
  refine wp_region_lit ?_
  have c_0_0 := h1.cell 0 rfl 0 rfl
  iterate 3 (refine wpList_plainQ rfl (fun K Q' hK => ?_); go_simp; refine hK _ _ ?_; clear hK K; try clear Q')
  clear c_0_0
  refine wpList_nil ?_
  show Code.wp _ _ _ _ _
  -- stops at: cond
  refine wp_cond_false (rfl) ?_
  refine wp_skip ?_
  show Code.wp _ _ _ _ _
  refine wp_seq ?_
  refine wp_region_lit ?_
  iterate 1 (refine wpList_plainQ rfl (fun K Q' hK => ?_); go_simp; refine hK _ _ ?_; clear hK K; try clear Q')
  refine wpList_nil ?_
  show Code.wp _ _ _ _ _
  refine wp_seq ?_
  refine wp_region_lit ?_
  have c_0_0 := h1.cell 0 rfl 0 rfl
  have c_0_1 := h1.cell 0 rfl 1 rfl
  have c_0_2 := h1.cell 0 rfl 2 rfl
  have c_0_3 := h1.cell 0 rfl 3 rfl
  iterate 1 (refine wpList_plainQ rfl (fun K Q' hK => ?_); go_simp; refine hK _ _ ?_; clear hK K; try clear Q')
  clear c_0_0 c_0_1 c_0_2 c_0_3
  -- stops at: eff:call (Go.Op.call {'callee': (Go.Callee.value (Go.Operand.func 22)), 'args': [(Go.Operand.tmp 9)], 'argTypes': [35]}) slot 10
  refine wpList_plainQ rfl (fun K Q' hK => ?_); go_simp
  refine (wqueue_ok H _ _ _ _ _ _ l h1.fits hsz hl).mono ?_
  rintro e wA ⟨r, H1, rfl, hpA, hA⟩
  rw [hes.out] at hA
  have hA' := hA
  obtain ⟨a4, c4, rfl, _, _⟩ := hA.form
  rw [hnn.out] at hA' ⊢
  have hle1 := hpA.le
  have h2 := h1.call0 hpA
  refine hK _ _ ?_; clear hK K; try clear Q'
  iterate 1 (refine wpList_plainQ rfl (fun K Q' hK => ?_); go_simp; refine hK _ _ ?_; clear hK K; try clear Q')
  refine wpList_nil ?_
  show Code.wp _ _ _ _ _
  refine wp_seq ?_
  refine wp_seq ?_
  repeat (first | simp only [List.nil_append] at h2 | simp only [List.cons_append] at h2 | simp only [List.set_cons_zero] at h2 | simp only [List.set_cons_succ] at h2 | simp only [List.eraseIdx_zero] at h2 | simp only [List.tail_cons] at h2 | simp only [List.eraseIdx_cons_zero] at h2 | simp only [List.eraseIdx_cons_succ] at h2 | simp only [List.setIfInBounds_toArray] at h2)
  refine wp_region_lit ?_
  iterate 1 (refine wpList_plainQ rfl (fun K Q' hK => ?_); go_simp; refine hK _ _ ?_; clear hK K; try clear Q')
  refine wpList_nil ?_
  show Code.wp _ _ _ _ _
  refine wp_block ?_
  -- stops at: loop
  go_loopw [3, 5] (fun v3 v5 wr => ∃ (j s : Nat), j ≤ nn ∧ v5 = .int .i64 j ∧ v3 = .int .i64 s ∧ Hid (s = 1 + (BH.elsL ((es.map Prod.snd).take j)).length) ∧ St w H none 0 0 wr H1 [(w.heap.size, .cells #[.bool true, .int .i64 x.1, .int .i64 x.2, .slice a n0 c] 35)] []) (fun _ v5 _ => nn - (intOf v5).toNat)
  case atStart => exact ⟨0, 1, by omega, rfl, rfl, rfl, h2⟩
  case round =>
    obtain ⟨j, s, hj, rfl, rfl, hs1, hs⟩ := hrel
    by_cases hlt : j < nn
    · obtain ⟨b9, o9, cap9, e9⟩ : ∃ b o c', (Value.slice a4 nn c4) = .slice (some ⟨b, o, none⟩) nn c' := by
        have h1 := hA.1
        rw [hnn.out] at h1
        obtain ⟨b, o, c, e, _⟩ := h1.ne_nil (by omega)
        exact ⟨b, o, c, e⟩
      simp only [Value.slice.injEq, true_and] at e9
      obtain ⟨rfl, rfl⟩ := e9
      obtain ⟨⟨ys, yb⟩, hy⟩ : ∃ y, es[j]? = some y := ⟨es[j]'(by have := hnn.out; omega), by simp⟩
      obtain ⟨ay, my, cy, ey, hcy⟩ := hA'.at j hy
      simp only at ey hcy
      subst ey
      have hyb : (es.map Prod.snd)[j]? = some yb := by rw [List.getElem?_map, hy]; rfl
      have hst := els_sum (es.map Prod.snd) j yb hyb
      have hle := els_take_le (es.map Prod.snd) (j + 1)
      obtain ⟨ny, hny⟩ : ∃ m, Hid (yb.els.length = m) := ⟨_, show _ = _ from rfl⟩
      obtain ⟨s2, hs2⟩ : ∃ m, Hid (s + ny = m) := ⟨_, show _ = _ from rfl⟩
      have e7 : IntKind.i64.wrap ((s : Int) + (ny : Int)) = (s2 : Int) := by have := hs1.out; have := hny.out; have := hs2.out; rw [IntWalk.i64_in _ (by omega)]; omega
      have hs2' : Hid (s2 = 1 + (BH.elsL ((es.map Prod.snd).take (j + 1))).length) := by show _ = _; rw [hst]; have := hs1.out; have := hny.out; have := hs2.out; omega
      have e8 : IntKind.i64.wrap ((j : Int) + 1) = (j : Int) + 1 := IntWalk.i64_in _ (by omega)
      have hkj := hkid _ (List.mem_of_getElem? hy)
      simp only at hkj
      rw [hny.out] at hkj
      clear hst hle
      refine wp_seq ?_
      refine wp_seq ?_
      repeat (first | simp only [List.nil_append] at hs | simp only [List.cons_append] at hs | simp only [List.set_cons_zero] at hs | simp only [List.set_cons_succ] at hs | simp only [List.eraseIdx_zero] at hs | simp only [List.tail_cons] at hs | simp only [List.eraseIdx_cons_zero] at hs | simp only [List.eraseIdx_cons_succ] at hs | simp only [List.setIfInBounds_toArray] at hs)
      refine wp_region_lit ?_
      iterate 4 (refine wpList_plainQ rfl (fun K Q' hK => ?_); go_simp; refine hK _ _ ?_; clear hK K; try clear Q')
      refine wpList_nil ?_
      show Code.wp _ _ _ _ _
      -- stops at: cond
      refine wp_cond_true (rfl) ?_
      refine wp_skip ?_
      show Code.wp _ _ _ _ _
      refine wp_seq ?_
      refine wp_block ?_
      refine wp_region_lit ?_
      iterate 4 (refine wpList_plainQ rfl (fun K Q' hK => ?_); go_simp; refine hK _ _ ?_; clear hK K; try clear Q')
      -- stops at: load (Go.Op.load 35 (Go.Operand.tmp 20)) slot 21
      have ce := hcy.out _ hs.fits
      obtain ⟨q0, q1, q2, q3⟩ := ce
      iterate 1 (refine wpList_plainQ rfl (fun K Q' hK => ?_); go_simp; refine hK _ _ ?_; clear hK K; try clear Q')
      clear q0 q1 q2 q3
      -- stops at: eff:call (Go.Op.call {'callee': (Go.Callee.value (Go.Operand.func 7)), 'args': [(Go.Operand.tmp 21)], 'argTypes': [35]}) slot 22
      refine wpList_plainQ rfl (fun K Q' hK => ?_); go_simp
      refine (hkj H1 _ hs.fits hle1).mono ?_
      rintro e wC ⟨rfl, hkC⟩
      have h3 := hs.callk hkC
      refine hK _ _ ?_; clear hK K; try clear Q'
      iterate 2 (refine wpList_plainQ rfl (fun K Q' hK => ?_); go_simp; refine hK _ _ ?_; clear hK K; try clear Q')
      refine wpList_nil ?_
      show Code.wp _ _ _ _ _
      repeat (first | simp only [List.nil_append] at h3 | simp only [List.cons_append] at h3 | simp only [List.set_cons_zero] at h3 | simp only [List.set_cons_succ] at h3 | simp only [List.eraseIdx_zero] at h3 | simp only [List.tail_cons] at h3 | simp only [List.eraseIdx_cons_zero] at h3 | simp only [List.eraseIdx_cons_succ] at h3 | simp only [List.setIfInBounds_toArray] at h3)
      refine wp_region_lit ?_
      iterate 3 (refine wpList_plainQ rfl (fun K Q' hK => ?_); go_simp; refine hK _ _ ?_; clear hK K; try clear Q')
      refine wpList_nil ?_
      -- stops at: end ('roundend',)
      show _ ∧ _
      go_roundw
      case rel => exact ⟨j + 1, s2, by omega, by simp, rfl, hs2', h3⟩
      case measure => simp [intOf]; omega
    · obtain rfl : j = nn := by omega
      refine wp_seq ?_
      refine wp_seq ?_
      repeat (first | simp only [List.nil_append] at hs | simp only [List.cons_append] at hs | simp only [List.set_cons_zero] at hs | simp only [List.set_cons_succ] at hs | simp only [List.eraseIdx_zero] at hs | simp only [List.tail_cons] at hs | simp only [List.eraseIdx_cons_zero] at hs | simp only [List.eraseIdx_cons_succ] at hs | simp only [List.setIfInBounds_toArray] at hs)
      refine wp_region_lit ?_
      iterate 4 (refine wpList_plainQ rfl (fun K Q' hK => ?_); go_simp; refine hK _ _ ?_; clear hK K; try clear Q')
      refine wpList_nil ?_
      show Code.wp _ _ _ _ _
      -- stops at: cond
      refine wp_cond_false (rfl) ?_
      refine wp_exit ?_
      show Code.wp _ _ _ _ _
      refine wp_seq ?_
      refine wp_region_lit ?_
      iterate 2 (refine wpList_plainQ rfl (fun K Q' hK => ?_); go_simp; refine hK _ _ ?_; clear hK K; try clear Q')
      refine wpList_nil ?_
      show Code.wp _ _ _ _ _
      -- stops at: ret
      refine wp_ret ?_
      go_ret
      refine ⟨?_, hs.post.keep⟩
      rw [hs1.out, List.take_of_length_le (by rw [List.length_map]; have := hnn.out; omega)]
      rfl
set_option maxRecDepth 100000 in
theorem wsize_ok {w : World} {H : GH} {cs : List Value} {t : Hp} (hf : Fits w H) (hn : Hp.size t < 800000) (h : WvR H cs t) :
    Calls Tryz.prog 7 #[.agg cs.toArray] w fun e w' => e = .returned (.int .i64 (Hp.size t : Nat)) ∧ Keep none w w' := by
  match t, hn, h with
  | some t, hn, h => exact wbsize_ok t H w cs hf (by have : t.els.length < 800000 := hn; omega) h
  | none, hn, h =>
    have hpre : Pre w H none 0 0 := Pre.none hf 0 0
    obtain rfl := h
    go_enter Tryz.func7, Tryz.ntmps7
    have h0 := St.start hpre
    refine wp_seq ?_
    repeat (first | simp only [List.nil_append] at h0 | simp only [List.cons_append] at h0 | simp only [List.set_cons_zero] at h0 | simp only [List.set_cons_succ] at h0 | simp only [List.eraseIdx_zero] at h0 | simp only [List.tail_cons] at h0 | simp only [List.eraseIdx_cons_zero] at h0 | simp only [List.eraseIdx_cons_succ] at h0 | simp only [List.setIfInBounds_toArray] at h0)
    refine wp_region_lit ?_
    refine wpList_plainQ rfl (fun K Q' hK => ?_); go_simp
    refine h0.k_alloc (fun w1 h1 => ?_)
    refine hK _ _ ?_; clear hK K; try clear Q'
    iterate 1 (refine wpList_plainQ rfl (fun K Q' hK => ?_); go_simp; refine hK _ _ ?_; clear hK K; try clear Q')
    refine wpList_nil ?_
    show Code.wp _ _ _ _ _
    refine wp_seq ?_
    refine wp_seq ?_
    repeat (first | simp only [List.nil_append] at h1 | simp only [List.cons_append] at h1 | simp only [List.set_cons_zero] at h1 | simp only [List.set_cons_succ] at h1 | simp only [List.eraseIdx_zero] at h1 | simp only [List.tail_cons] at h1 | simp only [List.eraseIdx_cons_zero] at h1 | simp only [List.eraseIdx_cons_succ] at h1 | simp only [List.setIfInBounds_toArray] at h1)
    refine wp_region_lit ?_
    have c_0_0 := h1.cell 0 rfl 0 rfl
    iterate 3 (refine wpList_plainQ rfl (fun K Q' hK => ?_); go_simp; refine hK _ _ ?_; clear hK K; try clear Q')
    clear c_0_0
    refine wpList_nil ?_
    show Code.wp _ _ _ _ _
    -- stops at: cond
    refine wp_cond_true (rfl) ?_
    refine wp_seq ?_
    refine wp_region_lit ?_
    iterate 1 (refine wpList_plainQ rfl (fun K Q' hK => ?_); go_simp; refine hK _ _ ?_; clear hK K; try clear Q')
    refine wpList_nil ?_
    show Code.wp _ _ _ _ _
    -- stops at: ret
    refine wp_ret ?_
    go_ret
    exact ⟨rfl, h1.post.keep⟩

/-! ### Texts -/
theorem join_flat (x : List UInt8) (l : List (List UInt8)) : Lib.join (x :: l) [32] = x ++ l.flatMap (fun s => 32 :: s) := by
  rw [Lib.join_cons]
  congr 1
theorem flat_take_le {α β : Type} (f : α → List β) (l : List α) (i : Nat) : ((l.take i).flatMap f).length ≤ (l.flatMap f).length := by
  have h : (l.take i ++ l.drop i).flatMap f = (l.take i).flatMap f ++ (l.drop i).flatMap f := List.flatMap_append
  rw [List.take_append_drop] at h
  rw [h]; simp
set_option maxRecDepth 100000 in
set_option maxHeartbeats 4000000 in
theorem wbshow_ok (t : BH) : ∀ (H : GH) (w : World) (cs : List Value), Fits w H → t.els.length < 900000 → (∀ a ∈ t.els, El.fits a) → HvR H cs t →
    Calls Tryz.prog 19 #[.agg cs.toArray] w fun e w' => e = .returned (.string ⟨(BH.text t).toArray⟩) ∧ Keep none w w' := by
  refine BH.ind (P := fun t => ∀ (H : GH) (w : World) (cs : List Value), Fits w H → t.els.length < 900000 → (∀ a ∈ t.els, El.fits a) → HvR H cs t →
    Calls Tryz.prog 19 #[.agg cs.toArray] w fun e w' => e = .returned (.string ⟨(BH.text t).toArray⟩) ∧ Keep none w w') (fun x q ih => ?_) t
  intro H w cs hf hn hfit hv
  have hpre : Pre w H none 0 0 := Pre.none hf 0 0
  have htl := BH.text_len (.mk x q) hfit
  have hqs := BH.queue_le (.mk x q)
  obtain ⟨a, n0, c, l, rfl, hl, hq, hd⟩ := hv.open
  have hq' : Rw.map Prod.snd l = q := hq.out
  have hsz : Rw.size l < 900000 := by rw [← hq.out, wsnd] at hqs; omega
  have hxf : El.fits x := hfit x (by rw [BH.els_mk]; simp)
  obtain ⟨es, hes⟩ : ∃ es, Hid (Rw.els l = es) := ⟨_, show _ = _ from rfl⟩
  obtain ⟨nn, hnn⟩ : ∃ nn, Hid (es.length = nn) := ⟨_, show _ = _ from rfl⟩
  have hnb : nn < 1000000 := by have : Rw.size l = nn := by rw [← hnn.out, ← hes.out]; rfl
                                omega
  obtain ⟨tx, htx⟩ : ∃ s, Hid (El.text x = s) := ⟨_, show _ = _ from rfl⟩
  obtain ⟨ss, hss⟩ : ∃ ss, Hid ((es.map fun y => BH.text y.2) = ss) := ⟨_, show _ = _ from rfl⟩
  have hssl : Hid (ss.length = nn) := by show _ = _; rw [← hss.out, List.length_map, hnn.out]
  obtain ⟨fk, hfk⟩ : ∃ s, Hid ((ss.flatMap fun y => 32 :: y) = s) := ⟨_, show _ = _ from rfl⟩
  have e0 : Hid (BH.text (.mk x q) = 91 :: (tx ++ fk ++ [93])) := by
    show _ = _
    rw [BH.text_mk, htx.out, ← hq', Rw.map_els, hes.out, List.map_map, join_flat, ← hfk.out, ← hss.out]
    rfl
  have hfl : tx.length + fk.length ≤ 54000000 := by rw [e0.out] at htl; simp only [List.length_cons, List.length_append, List.length_nil] at htl; omega
  have hkid : ∀ y ∈ es, ∀ (H' : GH) (w' : World), Fits w' H' → H.le H' → Calls Tryz.prog 19 #[.agg y.1.toArray] w' fun e w2 => e = .returned (.string ⟨(BH.text y.2).toArray⟩) ∧ Keep none w' w2 := fun y hy H' w' hf' hle' => by
    have hy' : y.2 ∈ Rw.els q := by rw [← hq', Rw.map_els]; exact List.mem_map.2 ⟨y, by rw [hes.out]; exact hy, rfl⟩
    have hm := BH.sum_mem hy'
    have h5 : (BH.mk x q).els.length = (BH.elsL (Rw.els q)).length + 1 := by rw [BH.els_mk]; rfl
    exact ih y.2 hy' H' w' y.1 hf' (by omega) (fun a ha => hfit a (by rw [BH.els_mk]; exact List.mem_cons_of_mem _ (List.mem_flatMap.2 ⟨_, hy', ha⟩))) ((hd y (by rw [hes.out]; exact hy)).mono hle')
  clear ih htl hqs hfit
  have l1 : ¬ 9223372036854775807 < 1 + tx.length := by omega
  rw [e0.out]
  go_enter Tryz.func19, Tryz.ntmps19
  have h0 := St.start hpre
  refine wp_seq ?_
  repeat (first | simp only [List.nil_append] at h0 | simp only [List.cons_append] at h0 | simp only [List.set_cons_zero] at h0 | simp only [List.set_cons_succ] at h0 | simp only [List.eraseIdx_zero] at h0 | simp only [List.tail_cons] at h0 | simp only [List.eraseIdx_cons_zero] at h0 | simp only [List.eraseIdx_cons_succ] at h0 | simp only [List.setIfInBounds_toArray] at h0)
  refine wp_region_lit ?_
  refine wpList_plainQ rfl (fun K Q' hK => ?_); go_simp
  refine h0.k_alloc (fun w1 h1 => ?_)
  refine hK _ _ ?_; clear hK K; try clear Q'
  iterate 1 (refine wpList_plainQ rfl (fun K Q' hK => ?_); go_simp; refine hK _ _ ?_; clear hK K; try clear Q')
  refine wpList_nil ?_
  show Code.wp _ _ _ _ _
  refine wp_seq ?_
  refine wp_seq ?_
  repeat (first | simp only [List.nil_append] at h1 | simp only [List.cons_append] at h1 | simp only [List.set_cons_zero] at h1 | simp only [List.set_cons_succ] at h1 | simp only [List.eraseIdx_zero] at h1 | simp only [List.tail_cons] at h1 | simp only [List.eraseIdx_cons_zero] at h1 | simp only [List.eraseIdx_cons_succ] at h1 | simp only [List.setIfInBounds_toArray] at h1)
  refine wp_region_lit ?_
  have c_0_0 := h1.cell 0 rfl 0 rfl
  iterate 3 (refine wpList_plainQ rfl (fun K Q' hK => ?_); go_simp; refine hK _ _ ?_; clear hK K; try clear Q')
  clear c_0_0
  refine wpList_nil ?_
  show Code.wp _ _ _ _ _
  -- stops at: cond
  refine wp_cond_false (rfl) ?_
  refine wp_skip ?_
  show Code.wp _ _ _ _ _
  refine wp_seq ?_
  refine wp_region_lit ?_
  have c_0_1 := h1.cell 0 rfl 1 rfl
  have c_0_2 := h1.cell 0 rfl 2 rfl
  iterate 2 (refine wpList_plainQ rfl (fun K Q' hK => ?_); go_simp; refine hK _ _ ?_; clear hK K; try clear Q')
  clear c_0_1 c_0_2
  -- stops at: eff:call (Go.Op.call {'callee': (Go.Callee.value (Go.Operand.func 38)), 'args': [(Go.Operand.tmp 10)], 'argTypes': [32]}) slot 11
  refine wpList_plainQ rfl (fun K Q' hK => ?_); go_simp
  refine (rtext_ok H _ x hxf h1.fits).mono ?_
  rintro e wA ⟨rfl, hkA⟩
  rw [htx.out]
  have h2 := h1.callk hkA
  refine hK _ _ ?_; clear hK K; try clear Q'
  iterate 2 (refine wpList_plainQ rfl (fun K Q' hK => ?_); go_simp; refine hK _ _ ?_; clear hK K; try clear Q')
  refine wpList_nil ?_
  show Code.wp _ _ _ _ _
  refine wp_seq ?_
  repeat (first | simp only [List.nil_append] at h2 | simp only [List.cons_append] at h2 | simp only [List.set_cons_zero] at h2 | simp only [List.set_cons_succ] at h2 | simp only [List.eraseIdx_zero] at h2 | simp only [List.tail_cons] at h2 | simp only [List.eraseIdx_cons_zero] at h2 | simp only [List.eraseIdx_cons_succ] at h2 | simp only [List.setIfInBounds_toArray] at h2)
  refine wp_region_lit ?_
  have c_0_0 := h2.cell 0 rfl 0 rfl
  have c_0_1 := h2.cell 0 rfl 1 rfl
  have c_0_2 := h2.cell 0 rfl 2 rfl
  have c_0_3 := h2.cell 0 rfl 3 rfl
  iterate 1 (refine wpList_plainQ rfl (fun K Q' hK => ?_); go_simp; refine hK _ _ ?_; clear hK K; try clear Q')
  clear c_0_0 c_0_1 c_0_2 c_0_3
  -- stops at: eff:call (Go.Op.call {'callee': (Go.Callee.value (Go.Operand.func 22)), 'args': [(Go.Operand.tmp 13)], 'argTypes': [35]}) slot 14
  refine wpList_plainQ rfl (fun K Q' hK => ?_); go_simp
  refine (wqueue_ok H _ _ _ _ _ _ l h2.fits hsz hl).mono ?_
  rintro e wB ⟨r, H1, rfl, hpB, hA⟩
  rw [hes.out] at hA
  have hA' := hA
  obtain ⟨a4, c4, rfl, _, _⟩ := hA.form
  rw [hnn.out] at hA' ⊢
  have hle1 := hpB.le
  have h3 := h2.call0 hpB
  refine hK _ _ ?_; clear hK K; try clear Q'
  iterate 1 (refine wpList_plainQ rfl (fun K Q' hK => ?_); go_simp; refine hK _ _ ?_; clear hK K; try clear Q')
  refine wpList_nil ?_
  show Code.wp _ _ _ _ _
  refine wp_seq ?_
  refine wp_seq ?_
  repeat (first | simp only [List.nil_append] at h3 | simp only [List.cons_append] at h3 | simp only [List.set_cons_zero] at h3 | simp only [List.set_cons_succ] at h3 | simp only [List.eraseIdx_zero] at h3 | simp only [List.tail_cons] at h3 | simp only [List.eraseIdx_cons_zero] at h3 | simp only [List.eraseIdx_cons_succ] at h3 | simp only [List.setIfInBounds_toArray] at h3)
  refine wp_region_lit ?_
  iterate 1 (refine wpList_plainQ rfl (fun K Q' hK => ?_); go_simp; refine hK _ _ ?_; clear hK K; try clear Q')
  refine wpList_nil ?_
  show Code.wp _ _ _ _ _
  refine wp_block ?_
  -- stops at: loop
  go_loopw [3, 5] (fun v3 v5 wr => ∃ (j : Nat) (s : List UInt8), j ≤ nn ∧ v5 = .int .i64 j ∧ v3 = .string ⟨s.toArray⟩ ∧ Hid (s = 91 :: (tx ++ (ss.take j).flatMap fun y => 32 :: y)) ∧ St w H none 0 0 wr H1 [(w.heap.size, .cells #[.bool true, .int .i64 x.1, .int .i64 x.2, .slice a n0 c] 35)] []) (fun _ v5 _ => nn - (intOf v5).toNat)
  case atStart => exact ⟨0, 91 :: tx, by omega, rfl, rfl, by show _ = _; simp, h3⟩
  case round =>
    obtain ⟨j, s, hj, rfl, rfl, hs1, hs⟩ := hrel
    have hsl : s.length ≤ 54000050 := by
      have h5 := flat_take_le (fun y : List UInt8 => (32 : UInt8) :: y) ss j
      rw [hs1.out]
      rw [hfk.out] at h5
      simp only [List.length_cons, List.length_append]
      omega
    by_cases hlt : j < nn
    · obtain ⟨b9, o9, cap9, e9⟩ : ∃ b o c', (Value.slice a4 nn c4) = .slice (some ⟨b, o, none⟩) nn c' := by
        have h1 := hA.1
        rw [hnn.out] at h1
        obtain ⟨b, o, c, e, _⟩ := h1.ne_nil (by omega)
        exact ⟨b, o, c, e⟩
      simp only [Value.slice.injEq, true_and] at e9
      obtain ⟨rfl, rfl⟩ := e9
      obtain ⟨⟨ys, yb⟩, hy⟩ : ∃ y, es[j]? = some y := ⟨es[j]'(by have := hnn.out; omega), by simp⟩
      obtain ⟨ay, my, cy, ey, hcy⟩ := hA'.at j hy
      simp only at ey hcy
      subst ey
      obtain ⟨ty, hty⟩ : ∃ s, Hid (BH.text yb = s) := ⟨_, show _ = _ from rfl⟩
      have hsj : ss[j]? = some ty := by rw [← hss.out, List.getElem?_map, hy, ← hty.out]; rfl
      have htyl : ty.length ≤ 54000000 := by
        have h5 := flat_take_le (fun y : List UInt8 => (32 : UInt8) :: y) ss (j + 1)
        rw [hfk.out, List.take_add_one, hsj] at h5
        simp only [List.flatMap_append, Option.toList, List.flatMap_cons, List.flatMap_nil, List.length_append, List.length_cons, List.append_nil] at h5
        omega
      have l2 : ¬ 9223372036854775807 < 1 + ty.length := by omega
      have l3 : ¬ 9223372036854775807 < s.length + (1 + ty.length) := by omega
      have e8 : IntKind.i64.wrap ((j : Int) + 1) = (j : Int) + 1 := IntWalk.i64_in _ (by omega)
      have hkj := hkid _ (List.mem_of_getElem? hy)
      simp only at hkj
      rw [hty.out] at hkj
      refine wp_seq ?_
      refine wp_seq ?_
      repeat (first | simp only [List.nil_append] at hs | simp only [List.cons_append] at hs | simp only [List.set_cons_zero] at hs | simp only [List.set_cons_succ] at hs | simp only [List.eraseIdx_zero] at hs | simp only [List.tail_cons] at hs | simp only [List.eraseIdx_cons_zero] at hs | simp only [List.eraseIdx_cons_succ] at hs | simp only [List.setIfInBounds_toArray] at hs)
      refine wp_region_lit ?_
      iterate 4 (refine wpList_plainQ rfl (fun K Q' hK => ?_); go_simp; refine hK _ _ ?_; clear hK K; try clear Q')
      refine wpList_nil ?_
      show Code.wp _ _ _ _ _
      -- stops at: cond
      refine wp_cond_true (rfl) ?_
      refine wp_skip ?_
      show Code.wp _ _ _ _ _
      refine wp_seq ?_
      refine wp_block ?_
      refine wp_region_lit ?_
      iterate 4 (refine wpList_plainQ rfl (fun K Q' hK => ?_); go_simp; refine hK _ _ ?_; clear hK K; try clear Q')
      -- stops at: load (Go.Op.load 35 (Go.Operand.tmp 24)) slot 25
      have ce := hcy.out _ hs.fits
      obtain ⟨q0, q1, q2, q3⟩ := ce
      iterate 1 (refine wpList_plainQ rfl (fun K Q' hK => ?_); go_simp; refine hK _ _ ?_; clear hK K; try clear Q')
      clear q0 q1 q2 q3
      -- stops at: eff:call (Go.Op.call {'callee': (Go.Callee.value (Go.Operand.func 19)), 'args': [(Go.Operand.tmp 25)], 'argTypes': [35]}) slot 26
      refine wpList_plainQ rfl (fun K Q' hK => ?_); go_simp
      refine (hkj H1 _ hs.fits hle1).mono ?_
      rintro e wC ⟨rfl, hkC⟩
      have h4 := hs.callk hkC
      refine hK _ _ ?_; clear hK K; try clear Q'
      iterate 3 (refine wpList_plainQ rfl (fun K Q' hK => ?_); go_simp; refine hK _ _ ?_; clear hK K; try clear Q')
      refine wpList_nil ?_
      show Code.wp _ _ _ _ _
      repeat (first | simp only [List.nil_append] at h4 | simp only [List.cons_append] at h4 | simp only [List.set_cons_zero] at h4 | simp only [List.set_cons_succ] at h4 | simp only [List.eraseIdx_zero] at h4 | simp only [List.tail_cons] at h4 | simp only [List.eraseIdx_cons_zero] at h4 | simp only [List.eraseIdx_cons_succ] at h4 | simp only [List.setIfInBounds_toArray] at h4)
      refine wp_region_lit ?_
      iterate 3 (refine wpList_plainQ rfl (fun K Q' hK => ?_); go_simp; refine hK _ _ ?_; clear hK K; try clear Q')
      refine wpList_nil ?_
      -- stops at: end ('roundend',)
      show _ ∧ _
      go_roundw
      case rel =>
        refine ⟨j + 1, s ++ 32 :: ty, by omega, by simp, congrArg Value.string (ByteArray.ext (by simp)), ?_, h4⟩
        show _ = _
        rw [List.take_add_one, hsj, hs1.out]
        simp
      case measure => simp [intOf]; omega
    · obtain rfl : j = nn := by omega
      have l2 : ¬ 9223372036854775807 < s.length + 1 := by omega
      have hq2 : Hid (91 :: (tx ++ fk ++ [93]) = s ++ [93]) := by
        show _ = _
        rw [hs1.out, List.take_of_length_le (by have := hssl.out; omega), hfk.out]
        simp
      refine wp_seq ?_
      refine wp_seq ?_
      repeat (first | simp only [List.nil_append] at hs | simp only [List.cons_append] at hs | simp only [List.set_cons_zero] at hs | simp only [List.set_cons_succ] at hs | simp only [List.eraseIdx_zero] at hs | simp only [List.tail_cons] at hs | simp only [List.eraseIdx_cons_zero] at hs | simp only [List.eraseIdx_cons_succ] at hs | simp only [List.setIfInBounds_toArray] at hs)
      refine wp_region_lit ?_
      iterate 4 (refine wpList_plainQ rfl (fun K Q' hK => ?_); go_simp; refine hK _ _ ?_; clear hK K; try clear Q')
      refine wpList_nil ?_
      show Code.wp _ _ _ _ _
      -- stops at: cond
      refine wp_cond_false (rfl) ?_
      refine wp_exit ?_
      show Code.wp _ _ _ _ _
      refine wp_seq ?_
      refine wp_region_lit ?_
      iterate 3 (refine wpList_plainQ rfl (fun K Q' hK => ?_); go_simp; refine hK _ _ ?_; clear hK K; try clear Q')
      refine wpList_nil ?_
      show Code.wp _ _ _ _ _
      -- stops at: ret
      refine wp_ret ?_
      go_ret
      refine ⟨?_, hs.post.keep⟩
      rw [hq2.out]
      show Ending.returned (.string ((⟨s.toArray⟩ : ByteArray) ++ ⟨#[93]⟩)) = _
      rw [show ((⟨s.toArray⟩ : ByteArray) ++ ⟨#[93]⟩) = ⟨(s ++ [93]).toArray⟩ from ByteArray.ext (by simp)]
set_option maxRecDepth 100000 in
theorem wshow11_ok {w : World} {H : GH} {cs : List Value} {t : Hp} (hf : Fits w H) (hn : Hp.size t < 800000) (hfit : ∀ a ∈ Hp.els t, El.fits a) (h : WvR H cs t) :
    Calls Tryz.prog 19 #[.agg cs.toArray] w fun e w' => e = .returned (.string ⟨(match t with | none => [46] | some t => BH.text t : List UInt8).toArray⟩) ∧ Keep none w w' := by
  match t, hn, hfit, h with
  | some t, hn, hfit, h => exact wbshow_ok t H w cs hf (by have : t.els.length < 800000 := hn; omega) hfit h
  | none, hn, hfit, h =>
    have hpre : Pre w H none 0 0 := Pre.none hf 0 0
    obtain rfl := h
    go_enter Tryz.func19, Tryz.ntmps19
    have h0 := St.start hpre
    refine wp_seq ?_
    repeat (first | simp only [List.nil_append] at h0 | simp only [List.cons_append] at h0 | simp only [List.set_cons_zero] at h0 | simp only [List.set_cons_succ] at h0 | simp only [List.eraseIdx_zero] at h0 | simp only [List.tail_cons] at h0 | simp only [List.eraseIdx_cons_zero] at h0 | simp only [List.eraseIdx_cons_succ] at h0 | simp only [List.setIfInBounds_toArray] at h0)
    refine wp_region_lit ?_
    refine wpList_plainQ rfl (fun K Q' hK => ?_); go_simp
    refine h0.k_alloc (fun w1 h1 => ?_)
    refine hK _ _ ?_; clear hK K; try clear Q'
    iterate 1 (refine wpList_plainQ rfl (fun K Q' hK => ?_); go_simp; refine hK _ _ ?_; clear hK K; try clear Q')
    refine wpList_nil ?_
    show Code.wp _ _ _ _ _
    refine wp_seq ?_
    refine wp_seq ?_
    repeat (first | simp only [List.nil_append] at h1 | simp only [List.cons_append] at h1 | simp only [List.set_cons_zero] at h1 | simp only [List.set_cons_succ] at h1 | simp only [List.eraseIdx_zero] at h1 | simp only [List.tail_cons] at h1 | simp only [List.eraseIdx_cons_zero] at h1 | simp only [List.eraseIdx_cons_succ] at h1 | simp only [List.setIfInBounds_toArray] at h1)
    refine wp_region_lit ?_
    have c_0_0 := h1.cell 0 rfl 0 rfl
    iterate 3 (refine wpList_plainQ rfl (fun K Q' hK => ?_); go_simp; refine hK _ _ ?_; clear hK K; try clear Q')
    clear c_0_0
    refine wpList_nil ?_
    show Code.wp _ _ _ _ _
    -- stops at: cond
    refine wp_cond_true (rfl) ?_
    refine wp_seq ?_
    refine wp_region_lit ?_
    iterate 1 (refine wpList_plainQ rfl (fun K Q' hK => ?_); go_simp; refine hK _ _ ?_; clear hK K; try clear Q')
    refine wpList_nil ?_
    show Code.wp _ _ _ _ _
    -- stops at: ret
    refine wp_ret ?_
    go_ret
    exact ⟨rfl, h1.post.keep⟩
end Go.Proofs.YtkhjcmbppcimnaaGreatDoor
/-
The document's heaps of heaps, as every heap of the document is spoken of.
-/
namespace Go.Proofs.YtkhjcmbppcimnaaGreatDoor
open Go Go.RowKit
set_option linter.unusedVariables false

theorem WvR.nil (H : GH) : WvR H [.bool false, .int .i64 0, .int .i64 0, .slice none 0 0] Hp.nil := rfl
theorem Hp.minC_le (t : Hp) : Hp.minC t ≤ Hp.size t := Nat.zero_le _
theorem infoW : ElemInfo Tryz.prog 36 35 (.agg #[.bool false, .int .i64 0, .int .i64 0, .slice none 0 0]) 4 48 :=
  ⟨Tryz.underlying36, info_parts (by kernel_rfl), rfl, by decide⟩
theorem wshow_ok {w : World} {H : GH} {cs : List Value} {t : Hp} (hf : Fits w H) (hn : Hp.size t < 800000) (hfit : ∀ a ∈ Hp.els t, El.fits a) (h : WvR H cs t) :
    Calls Tryz.prog 19 #[.agg cs.toArray] w fun e w' => e = .returned (.string ⟨(Hp.text t).toArray⟩) ∧ Keep none w w' := by
  have h1 := wshow11_ok hf hn hfit h
  cases t with
  | none => exact h1
  | some t => exact h1
end Go.Proofs.YtkhjcmbppcimnaaGreatDoor
