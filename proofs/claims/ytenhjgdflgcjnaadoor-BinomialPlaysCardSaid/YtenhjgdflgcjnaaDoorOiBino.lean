/-
Binomial heaps: taking out, how many, as a text.
-/
import Derived.Test.YtenhjgdflgcjnaaDoorOhBino
namespace Go.Proofs.YtenhjgdflgcjnaaDoor
open Go Go.RowKit
set_option linter.unusedVariables false

/-- A heap without its least element. -/
def Rw.pop (l : List (Tr El)) : List (Tr El) := match Rw.minT kf l with
  | none => []
  | some t => Rw.meld kf t.k.toL.reverse (l.eraseIdx (Rw.least kf l))
def Rw.popN (l : List (Tr El)) : Nat := match Rw.minT kf l with
  | none => 0
  | some t => Rw.meldN kf t.k.toL.reverse (l.eraseIdx (Rw.least kf l))

set_option maxRecDepth 100000 in
set_option maxHeartbeats 4000000 in
theorem pop_ok (H : GH) (w : World) (m : Option Nat) (c d : Int) (p : Option Addr) (l : List (Tr El)) (hpre : Pre w H m c d) (hn : Rw.size l < 1000000) (hl : LsR H p l) :
    Calls Tryd.prog 7 #[hV p, mV m] w fun e w' => ∃ r H', e = .returned (.tuple #[hV r, .bool (Rw.min? kf l).isSome]) ∧ Post w H m w' H' (c + (l.length - 1 : Nat) + Rw.popN l) (d + Rw.popN l) ∧ LsR H' r (Rw.pop l) := by
  obtain ⟨ps, hcons, hrow⟩ := hl
  have hlb : ps.length < 1000000 := by have := hrow.1; have := Rw.length_le l; omega
  cases l with
  | nil =>
    obtain rfl := hrow.nil_of
    go_enter Tryd.func7, Tryd.ntmps7
    have h0 := St.start hpre
    refine wp_seq ?_
    refine wp_region_lit ?_
    refine wpList_plainQ rfl (fun K Q' hK => ?_); go_simp
    refine h0.k_alloc (fun w1 h1 => ?_)
    refine hK _ _ ?_; clear hK K; try clear Q'
    refine wpList_plainQ rfl (fun K Q' hK => ?_); go_simp
    refine h1.k_alloc (fun w2 h2 => ?_)
    refine hK _ _ ?_; clear hK K; try clear Q'
    iterate 1 (refine wpList_plainQ rfl (fun K Q' hK => ?_); go_simp; refine hK _ _ ?_; clear hK K; try clear Q')
    refine wpList_nil ?_
    show Code.wp _ _ _ _ _
    refine wp_seq ?_
    refine wp_region_lit ?_
    have c_0_0 := h2.cell 0 rfl 0 rfl
    iterate 2 (refine wpList_plainQ rfl (fun K Q' hK => ?_); go_simp; refine hK _ _ ?_; clear hK K; try clear Q')
    clear c_0_0
    -- stops at: eff:call (Go.Op.call {'callee': (Go.Callee.value (Go.Operand.func 23)), 'args': [(Go.Operand.tmp 10)], 'argTypes': [26]}) slot 11
    refine wpList_plainQ rfl (fun K Q' hK => ?_); go_simp
    refine (CTr.all_ok H _ p [] hlb h2.fits hcons).mono ?_
    rintro e wB ⟨v, rfl, hpB⟩
    obtain ⟨H5, h55, rA, leA⟩ := (h2.callrow hpB).settleRow 0 rfl
    skip
    obtain ⟨aA, cA, rfl, _, _⟩ := rA.nil_or
    refine hK _ _ ?_; clear hK K; try clear Q'
    iterate 1 (refine wpList_plainQ rfl (fun K Q' hK => ?_); go_simp; refine hK _ _ ?_; clear hK K; try clear Q')
    refine wpList_nil ?_
    show Code.wp _ _ _ _ _
    refine wp_seq ?_
    refine wp_seq ?_
    refine wp_region_lit ?_
    iterate 3 (refine wpList_plainQ rfl (fun K Q' hK => ?_); go_simp; refine hK _ _ ?_; clear hK K; try clear Q')
    refine wpList_nil ?_
    show Code.wp _ _ _ _ _
    -- stops at: cond
    refine wp_cond_true (rfl) ?_
    refine wp_seq ?_
    refine wp_region_lit ?_
    iterate 1 (refine wpList_plainQ rfl (fun K Q' hK => ?_); go_simp; refine hK _ _ ?_; clear hK K; try clear Q')
    have c_0 := h55.cell 1 rfl 0 rfl
    have f_0 := h55.free 1 rfl 0
    refine wpList_plainQ rfl (fun K Q' hK => ?_); go_simp
    clear c_0 f_0
    refine h55.k_set 1 rfl (fun w4 h4 => ?_)
    refine hK _ _ ?_; clear hK K; try clear Q'
    iterate 1 (refine wpList_plainQ rfl (fun K Q' hK => ?_); go_simp; refine hK _ _ ?_; clear hK K; try clear Q')
    refine wpList_nil ?_
    show Code.wp _ _ _ _ _
    -- stops at: ret
    refine wp_ret ?_
    have r_1_0 := h4.cell 1 rfl 0 rfl
    first | show bodyPost _ _ _ _ _ _ | (simp only [Exit.then]; show bodyPost _ _ _ _ _ _) | (simp only [Exit.inBlock]; show bodyPost _ _ _ _ _ _) | (simp only [Exit.inBlock, Exit.then]; show bodyPost _ _ _ _ _ _) | (simp only [Exit.noGoto, Exit.inBlock, Exit.then]; show bodyPost _ _ _ _ _ _)
    refine bodyPost_ret (v := ?_) ?_ rfl ?_
    rotate_left
    · simp only [results, Tryd.results7]; go_simp; with_reducible rfl
    clear r_1_0
    refine ⟨none, H5, rfl, ?_, LsR.nil _⟩
    simpa [Rw.popN, Rw.minT] using h4.post
  | cons t0 l0 =>
    obtain ⟨bst, hbst⟩ : ∃ b, Hid (Rw.least kf (t0 :: l0) = b) := ⟨_, show _ = _ from rfl⟩
    obtain ⟨tb, htb⟩ := Rw.minT_some (l := t0 :: l0) (by simp)
    have hminT : Rw.minT kf (t0 :: l0) = some tb := htb
    have hmin : Rw.min? kf (t0 :: l0) = some tb.x := by unfold Rw.min?; rw [hminT]; rfl
    have hpop : Rw.pop (t0 :: l0) = Rw.meld kf tb.k.toL.reverse ((t0 :: l0).eraseIdx bst) := by unfold Rw.pop; rw [hminT, hbst.out]
    have hpopN : Rw.popN (t0 :: l0) = Rw.meldN kf tb.k.toL.reverse ((t0 :: l0).eraseIdx bst) := by unfold Rw.popN; rw [hminT, hbst.out]
    have hbl : bst < ps.length := by have := hbst.out; have := Rw.least_lt kf (l := t0 :: l0) (by simp); have := hrow.1; omega
    obtain ⟨pb, hpb⟩ : ∃ pb, ps[bst]? = some pb := ⟨ps[bst], by simp⟩
    rw [hbst.out] at htb
    have trb := hrow.2 _ _ _ hpb htb
    have hsz : Hid (Rw.size tb.k.toL.reverse + Rw.size ((t0 :: l0).eraseIdx bst) < 1000000) := by
      have h1 := (Rw.els_perm (Rw.minT_perm kf hminT)).length_eq
      rw [hbst.out, Rw.els_cons, List.length_append] at h1
      have h2 := (Rw.els_perm (List.reverse_perm tb.k.toL)).length_eq
      rw [Rw.toL_els] at h2
      have h3 : tb.els.length = 1 + (tb.b.length + tb.k.els.length) := by simp [Tr.els]; omega
      show _ < _
      unfold Rw.size at *
      omega
    have htbs : tb.size < 1000000 := by have := size_mem htb; omega
    have gb : (ps.map Value.pointer)[bst]? = some (.pointer pb) := by simp [hpb]
    obtain ⟨nn, hnn⟩ : ∃ nn, Hid (ps.length = nn) := ⟨_, show _ = _ from rfl⟩
    have d1 : ((nn : Int) == 0) = false := beq_eq_false_iff_ne.2 (by have := hnn.out; omega)
    have hbn : bst < nn := by have := hnn.out; omega
    obtain ⟨b1, hb1⟩ : ∃ b1, Hid (b1 = bst + 1) := ⟨_, rfl⟩
    have e8 : IntKind.i64.wrap ((bst : Int) + 1) = (b1 : Int) := by have := hb1.out; rw [IntWalk.i64_in _ (by omega)]; omega
    go_enter Tryd.func7, Tryd.ntmps7
    have h0 := St.start hpre
    refine wp_seq ?_
    refine wp_region_lit ?_
    refine wpList_plainQ rfl (fun K Q' hK => ?_); go_simp
    refine h0.k_alloc (fun w1 h1 => ?_)
    refine hK _ _ ?_; clear hK K; try clear Q'
    refine wpList_plainQ rfl (fun K Q' hK => ?_); go_simp
    refine h1.k_alloc (fun w2 h2 => ?_)
    refine hK _ _ ?_; clear hK K; try clear Q'
    iterate 1 (refine wpList_plainQ rfl (fun K Q' hK => ?_); go_simp; refine hK _ _ ?_; clear hK K; try clear Q')
    refine wpList_nil ?_
    show Code.wp _ _ _ _ _
    refine wp_seq ?_
    refine wp_region_lit ?_
    have c_0_0 := h2.cell 0 rfl 0 rfl
    iterate 2 (refine wpList_plainQ rfl (fun K Q' hK => ?_); go_simp; refine hK _ _ ?_; clear hK K; try clear Q')
    clear c_0_0
    -- stops at: eff:call (Go.Op.call {'callee': (Go.Callee.value (Go.Operand.func 23)), 'args': [(Go.Operand.tmp 10)], 'argTypes': [26]}) slot 11
    refine wpList_plainQ rfl (fun K Q' hK => ?_); go_simp
    refine (CTr.all_ok H _ p ps hlb h2.fits hcons).mono ?_
    rintro e wB ⟨v, rfl, hpB⟩
    have hBr := h2.callrow hpB
    obtain ⟨g, cA, rfl⟩ := hBr.row_some 0 rfl (by omega)
    rw [hnn.out] at hBr ⊢
    refine hK _ _ ?_; clear hK K; try clear Q'
    iterate 1 (refine wpList_plainQ rfl (fun K Q' hK => ?_); go_simp; refine hK _ _ ?_; clear hK K; try clear Q')
    refine wpList_nil ?_
    show Code.wp _ _ _ _ _
    refine wp_seq ?_
    refine wp_seq ?_
    refine wp_region_lit ?_
    iterate 3 (refine wpList_plainQ rfl (fun K Q' hK => ?_); go_simp; refine hK _ _ ?_; clear hK K; try clear Q')
    refine wpList_nil ?_
    show Code.wp _ _ _ _ _
    -- stops at: cond
    refine wp_cond_false (rfl) ?_
    refine wp_skip ?_
    show Code.wp _ _ _ _ _
    refine wp_seq ?_
    refine wp_region_lit ?_
    iterate 2 (refine wpList_plainQ rfl (fun K Q' hK => ?_); go_simp; refine hK _ _ ?_; clear hK K; try clear Q')
    -- stops at: eff:call (Go.Op.call {'callee': (Go.Callee.value (Go.Operand.func 24)), 'args': [(Go.Operand.tmp 16), (Go.Operand.tmp 17)], 'argTypes': [32, 61]}) slot 18
    obtain ⟨Hp1, hs1, rA, leA⟩ := hBr.settleRow 0 rfl
    refine wpList_plainQ rfl (fun K Q' hK => ?_); go_simp
    refine (least_ok Hp1 _ m _ _ ps _ t0 l0 hs1.pre hn (by rw [hnn.out]; exact rA) (hrow.mono leA)).mono ?_
    rintro e wC ⟨H6, rfl, hpC'⟩
    have hpC := hpC'.peek (c := c) (d := d) leA hBr.pre.apart
    rw [hbst.out]
    have h3 := hBr.call hpC
    refine hK _ _ ?_; clear hK K; try clear Q'
    iterate 1 (refine wpList_plainQ rfl (fun K Q' hK => ?_); go_simp; refine hK _ _ ?_; clear hK K; try clear Q')
    refine wpList_nil ?_
    show Code.wp _ _ _ _ _
    refine wp_seq ?_
    refine wp_region_lit ?_
    iterate 3 (refine wpList_plainQ rfl (fun K Q' hK => ?_); go_simp; refine hK _ _ ?_; clear hK K; try clear Q')
    -- stops at: load (Go.Op.load 63 (Go.Operand.tmp 21)) slot 22
    have ce := h3.rowcell 0 rfl _ gb
    iterate 1 (refine wpList_plainQ rfl (fun K Q' hK => ?_); go_simp; refine hK _ _ ?_; clear hK K; try clear Q')
    clear ce
    -- stops at: eff:call (Go.Op.call {'callee': (Go.Callee.value (Go.Operand.func 25)), 'args': [(Go.Operand.tmp 22)], 'argTypes': [63]}) slot 23
    refine wpList_plainQ rfl (fun K Q' hK => ?_); go_simp
    refine (kids_ok H _ pb tb htbs h3.fits trb).mono ?_
    rintro e wD ⟨v2, ks, rfl, hpD, hks⟩
    have hD := h3.callrow hpD
    have hksl : ks.length < 1000000 := by have := hks.1; have := RT.toL_length tb.k; have := Tr.rank_lt tb; unfold Tr.rank at this; omega
    refine hK _ _ ?_; clear hK K; try clear Q'
    iterate 1 (refine wpList_plainQ rfl (fun K Q' hK => ?_); go_simp; refine hK _ _ ?_; clear hK K; try clear Q')
    refine wpList_nil ?_
    show Code.wp _ _ _ _ _
    refine wp_seq ?_
    refine wp_region_lit ?_
    iterate 1 (refine wpList_plainQ rfl (fun K Q' hK => ?_); go_simp; refine hK _ _ ?_; clear hK K; try clear Q')
    -- stops at: eff:call (Go.Op.call {'callee': (Go.Callee.value (Go.Operand.func 26)), 'args': [(Go.Operand.tmp 24)], 'argTypes': [61]}) slot 25
    refine wpList_plainQ rfl (fun K Q' hK => ?_); go_simp
    refine (reverse_ok hD 1 hksl rfl).mono ?_
    rintro e wE ⟨⟨u, rfl⟩, hE⟩
    refine hK _ _ ?_; clear hK K; try clear Q'
    refine wpList_nil ?_
    show Code.wp _ _ _ _ _
    refine wp_seq ?_
    refine wp_region_lit ?_
    iterate 2 (refine wpList_plainQ rfl (fun K Q' hK => ?_); go_simp; refine hK _ _ ?_; clear hK K; try clear Q')
    -- stops at: eff:call (Go.Op.call {'callee': (Go.Callee.value (Go.Operand.func 28)), 'args': [(Go.Operand.tmp 27)], 'argTypes': [61]}) slot 28
    obtain ⟨H7, h77, rK, leK⟩ := hE.settleRow 1 rfl
    have rK' : SliceRep H7 1 v2 ks.reverse.length (ks.reverse.map .pointer) := by rw [List.length_reverse]; exact rK
    refine wpList_plainQ rfl (fun K Q' hK => ?_); go_simp
    refine (CTr.of_ok H7 _ v2 ks.reverse (by simpa using hksl) h77.fits rK').mono ?_
    rintro e wF ⟨q1, H8, rfl, hpF, hq1⟩
    have hLa : LsR H8 q1 tb.k.toL.reverse := ⟨ks.reverse, hq1, ((hks.mono leK).mono hpF.le).reverse⟩
    have h5 := h77.call0 hpF
    refine hK _ _ ?_; clear hK K; try clear Q'
    iterate 4 (refine wpList_plainQ rfl (fun K Q' hK => ?_); go_simp; refine hK _ _ ?_; clear hK K; try clear Q')
    -- stops at: eff:call (Go.Op.call {'callee': (Go.Callee.value (Go.Operand.func 29)), 'args': [(Go.Operand.tmp 29), (Go.Operand.tmp 30), (Go.Operand.tmp 32)], 'argTypes': [61, 3, 3]}) slot 33
    refine wpList_plainQ rfl (fun K Q' hK => ?_); go_simp
    refine (delete_ok h5 0 bst b1 hb1 (by rw [← hnn.out] at *; exact hlb) hbl (by rw [hnn.out]; rfl)).mono ?_
    rintro e wG ⟨u2, rfl, hG⟩
    refine hK _ _ ?_; clear hK K; try clear Q'
    -- stops at: eff:call (Go.Op.call {'callee': (Go.Callee.value (Go.Operand.func 28)), 'args': [(Go.Operand.tmp 33)], 'argTypes': [61]}) slot 34
    obtain ⟨H9, h99, rM, leM⟩ := hG.settleRow 0 rfl
    have hLa_6 := hLa.mono leM
    refine wpList_plainQ rfl (fun K Q' hK => ?_); go_simp
    refine (CTr.of_ok H9 _ u2 (ps.eraseIdx bst) (by rw [List.length_eraseIdx]; split <;> omega) h99.fits rM).mono ?_
    rintro e wI ⟨q2, H10, rfl, hpI, hq2⟩
    have hLb : LsR H10 q2 ((t0 :: l0).eraseIdx bst) := ⟨ps.eraseIdx bst, hq2, (hrow.mono ((GH.le.trans h99.le hpI.le))).erase bst⟩
    have h7 := h99.call0 hpI
    have hLa_7 := hLa_6.mono hpI.le
    refine hK _ _ ?_; clear hK K; try clear Q'
    -- stops at: eff:call (Go.Op.call {'callee': (Go.Callee.value (Go.Operand.func 27)), 'args': [(Go.Operand.tmp 26), (Go.Operand.tmp 28), (Go.Operand.tmp 34)], 'argTypes': [32, 26, 26] slot 35
    refine wpList_plainQ rfl (fun K Q' hK => ?_); go_simp
    refine (meld_ok _ _ H10 _ m _ _ q1 q2 h7.pre hsz.out hLa_7 hLb).mono ?_
    rintro e wJ ⟨r, H11, rfl, hpJ, hr⟩
    have h8 := h7.call hpJ
    have hLa_8 := hLa_7.mono hpJ.le
    refine hK _ _ ?_; clear hK K; try clear Q'
    iterate 1 (refine wpList_plainQ rfl (fun K Q' hK => ?_); go_simp; refine hK _ _ ?_; clear hK K; try clear Q')
    have c_0 := h8.cell 1 rfl 0 rfl
    have f_0 := h8.free 1 rfl 0
    refine wpList_plainQ rfl (fun K Q' hK => ?_); go_simp
    clear c_0 f_0
    refine h8.k_set 1 rfl (fun w9 h9 => ?_)
    refine hK _ _ ?_; clear hK K; try clear Q'
    iterate 1 (refine wpList_plainQ rfl (fun K Q' hK => ?_); go_simp; refine hK _ _ ?_; clear hK K; try clear Q')
    refine wpList_nil ?_
    show Code.wp _ _ _ _ _
    -- stops at: ret
    refine wp_ret ?_
    have r_1_0 := h9.cell 1 rfl 0 rfl
    first | show bodyPost _ _ _ _ _ _ | (simp only [Exit.then]; show bodyPost _ _ _ _ _ _) | (simp only [Exit.inBlock]; show bodyPost _ _ _ _ _ _) | (simp only [Exit.inBlock, Exit.then]; show bodyPost _ _ _ _ _ _) | (simp only [Exit.noGoto, Exit.inBlock, Exit.then]; show bodyPost _ _ _ _ _ _)
    refine bodyPost_ret (v := ?_) ?_ rfl ?_
    rotate_left
    · simp only [results, Tryd.results7]; go_simp; with_reducible rfl
    clear r_1_0
    refine ⟨r, H11, by rw [hmin]; rfl, ?_, by rw [hpop]; exact hr⟩
    rw [hpopN]
    simpa using h9.post
end Go.Proofs.YtenhjgdflgcjnaaDoor
