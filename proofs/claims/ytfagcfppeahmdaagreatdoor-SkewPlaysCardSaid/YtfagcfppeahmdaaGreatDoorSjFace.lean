/-
The document's skew heaps, as every heap of the document is spoken of.
-/
import Derived.Test.YtfagcfppeahmdaaGreatDoorSiPop
import Derived.Test.YtfagcfppeahmdaaGreatDoorQbPlain
namespace Go.Proofs.YtfagcfppeahmdaaGreatDoor
open Go Go.RowKit
set_option linter.unusedVariables false

/-- A heap of the document, as cells. -/
def WvR (H : GH) (cs : List Value) (t : Hp) : Prop := ∃ q, cs = [q] ∧ RsV H q t
theorem WvR.mono {H H' : GH} {cs : List Value} {t : Hp} (h : WvR H cs t) (hl : H.le H') : WvR H' cs t := by
  obtain ⟨q, h1, h2⟩ := h
  exact ⟨q, h1, h2.mono hl⟩
theorem WvR.form {H : GH} {cs : List Value} {t : Hp} (h : WvR H cs t) : ∃ (a : Option Addr) (n c : Nat), cs = [.slice a n c] := by
  obtain ⟨q, rfl, h2⟩ := h
  obtain ⟨a, c, rfl, _, _⟩ := h2.form
  exact ⟨a, _, c, rfl⟩
theorem WvR.nil (H : GH) : WvR H [.slice none 0 0] Hp.nil := ⟨_, rfl, RsV.nil H⟩
theorem Hp.minC_le (t : Hp) : Hp.minC t ≤ Hp.size t := by have := Rw.length_le t; show List.length t - 1 ≤ Rw.size t; omega
theorem infoW : ElemInfo Tryz.prog 36 35 (.agg #[.slice none 0 0]) 1 24 :=
  ⟨Tryz.underlying36, info_parts (by kernel_rfl), rfl, by decide⟩
section
variable {w : World} {H : GH} {cs ds : List Value} {s t : Hp}
theorem winsert_ok (x : El) (hf : Fits w H) (hn : Hp.size t < 800000) (h : WvR H cs t) :
    Calls Tryz.prog 9 #[elV x, .agg cs.toArray] w fun e w' => ∃ ds H', e = .returned (.tuple #[.agg ds.toArray, .int .i64 (Hp.insC x t + Hp.insD x t : Nat)]) ∧ Post w H none w' H' 0 0 ∧ WvR H' ds (Hp.insert x t) := by
  obtain ⟨q, rfl, h2⟩ := h
  exact (r9insert_ok H w x q t hf (by have : Rw.size t < 800000 := hn; omega) h2).mono fun e w' ⟨r, H', h3, h4, h5⟩ => ⟨[r], H', h3, h4, r, rfl, h5⟩
theorem wpop_ok (hf : Fits w H) (hn : Hp.size t < 800000) (h : WvR H cs t) :
    Calls Tryz.prog 13 #[.agg cs.toArray] w fun e w' => ∃ ds H', e = .returned (.tuple #[.agg ds.toArray, .int .i64 (Hp.popC t + Hp.popD t : Nat)]) ∧ Post w H none w' H' 0 0 ∧ WvR H' ds (Hp.pop t) := by
  obtain ⟨q, rfl, h2⟩ := h
  exact (r9pop_ok H w q t hf (by have : Rw.size t < 800000 := hn; omega) h2).mono fun e w' ⟨r, H', h3, h4, h5⟩ => ⟨[r], H', h3, h4, r, rfl, h5⟩
end
set_option maxRecDepth 100000 in
set_option maxHeartbeats 2000000 in
theorem r9meld_ok (H : GH) (w : World) (u v : Value) (a b : List (Tr El)) (hf : Fits w H) (hn : Rw.size a + Rw.size b < 900000) (ha : RsV H u a) (hb : RsV H v b) :
    Calls Tryz.prog 11 #[.agg #[u], .agg #[v]] w fun e w' => ∃ r H', e = .returned (.tuple #[.agg #[r], .int .i64 (Sk.meldN kf a b + Sk.meldN kf a b : Nat)]) ∧ Post w H none w' H' 0 0 ∧ RsV H' r (Sk.meld kf a b) := by
  have hpre : Pre w H none 0 0 := Pre.none hf 0 0
  have ha' := ha
  have hb' := hb
  obtain ⟨a0, c0, rfl, _, _⟩ := ha.form
  obtain ⟨a1, c1, rfl, _, _⟩ := hb.form
  obtain ⟨n1, hn1⟩ : ∃ m, Hid (2 * Sk.levelN kf a = m) := ⟨_, show _ = _ from rfl⟩
  obtain ⟨n2, hn2⟩ : ∃ m, Hid (2 * Sk.levelN kf b = m) := ⟨_, show _ = _ from rfl⟩
  obtain ⟨n3, hn3⟩ : ∃ m, Hid (2 * Rw.meldN kf (Sk.level kf a) (Sk.level kf b) = m) := ⟨_, show _ = _ from rfl⟩
  obtain ⟨s1, hs1⟩ : ∃ m, Hid (n1 + n2 = m) := ⟨_, show _ = _ from rfl⟩
  obtain ⟨s2, hs2⟩ : ∃ m, Hid (s1 + n3 = m) := ⟨_, show _ = _ from rfl⟩
  have z1 := Sk.level_size kf a
  have z2 := Sk.level_size kf b
  have hbnd : n1 + n2 + n3 ≤ 12000000 := by
    have h1 := Sk.level_len kf a
    have h2 := Sk.level_len kf b
    have h3 := Rw.meld_length kf (Sk.level kf a) (Sk.level kf b)
    have h4 := Rw.length_le a
    have h5 := Rw.length_le b
    have := hn1.out
    have := hn2.out
    have := hn3.out
    omega
  have e1 : IntKind.i64.wrap ((n1 : Int) + (n2 : Int)) = (s1 : Int) := by have := hs1.out; rw [IntWalk.i64_in _ (by omega)]; omega
  have e2 : IntKind.i64.wrap ((s1 : Int) + (n3 : Int)) = (s2 : Int) := by have := hs1.out; have := hs2.out; rw [IntWalk.i64_in _ (by omega)]; omega
  go_enter Tryz.func11, Tryz.ntmps11
  have h0 := St.start hpre
  refine wp_seq ?_
  refine wp_region_lit ?_
  refine wpList_plainQ rfl (fun K Q' hK => ?_); go_simp
  refine h0.k_alloc (fun w1 h1 => ?_)
  refine hK _ _ ?_; clear hK K; try clear Q'
  refine wpList_plainQ rfl (fun K Q' hK => ?_); go_simp
  refine h1.k_alloc (fun w2 h2 => ?_)
  refine hK _ _ ?_; clear hK K; try clear Q'
  refine wpList_plainQ rfl (fun K Q' hK => ?_); go_simp
  refine h2.k_alloc (fun w3 h3 => ?_)
  refine hK _ _ ?_; clear hK K; try clear Q'
  iterate 1 (refine wpList_plainQ rfl (fun K Q' hK => ?_); go_simp; refine hK _ _ ?_; clear hK K; try clear Q')
  refine wpList_nil ?_
  show Code.wp _ _ _ _ _
  refine wp_seq ?_
  refine wp_region_lit ?_
  have c_0_0 := h3.cell 0 rfl 0 rfl
  iterate 2 (refine wpList_plainQ rfl (fun K Q' hK => ?_); go_simp; refine hK _ _ ?_; clear hK K; try clear Q')
  clear c_0_0
  -- stops at: eff:call (Go.Op.call {'callee': (Go.Callee.value (Go.Operand.func 36)), 'args': [(Go.Operand.tmp 14)], 'argTypes': [33]}) slot 15
  refine wpList_plainQ rfl (fun K Q' hK => ?_); go_simp
  refine (rlevel_ok H _ _ a h3.fits (by omega) ha').mono ?_
  rintro e wA ⟨rA, H1, rfl, hpA, hA⟩
  rw [hn1.out]
  obtain ⟨aA, cA, rfl, _, _⟩ := hA.form
  have h4 := h3.call0 hpA
  refine hK _ _ ?_; clear hK K; try clear Q'
  iterate 5 (refine wpList_plainQ rfl (fun K Q' hK => ?_); go_simp; refine hK _ _ ?_; clear hK K; try clear Q')
  refine wpList_nil ?_
  show Code.wp _ _ _ _ _
  refine wp_seq ?_
  refine wp_region_lit ?_
  have c_1_0 := h4.cell 1 rfl 0 rfl
  iterate 2 (refine wpList_plainQ rfl (fun K Q' hK => ?_); go_simp; refine hK _ _ ?_; clear hK K; try clear Q')
  clear c_1_0
  -- stops at: eff:call (Go.Op.call {'callee': (Go.Callee.value (Go.Operand.func 36)), 'args': [(Go.Operand.tmp 20)], 'argTypes': [33]}) slot 21
  refine wpList_plainQ rfl (fun K Q' hK => ?_); go_simp
  refine (rlevel_ok H1 _ _ b h4.fits (by omega) (hb'.mono hpA.le)).mono ?_
  rintro e wB ⟨rB, H2, rfl, hpB, hB⟩
  rw [hn2.out]
  obtain ⟨aB, cB, rfl, _, _⟩ := hB.form
  have h5 := h4.call0 hpB
  refine hK _ _ ?_; clear hK K; try clear Q'
  iterate 5 (refine wpList_plainQ rfl (fun K Q' hK => ?_); go_simp; refine hK _ _ ?_; clear hK K; try clear Q')
  refine wpList_nil ?_
  show Code.wp _ _ _ _ _
  refine wp_seq ?_
  refine wp_region_lit ?_
  iterate 2 (refine wpList_plainQ rfl (fun K Q' hK => ?_); go_simp; refine hK _ _ ?_; clear hK K; try clear Q')
  -- stops at: eff:call (Go.Op.call {'callee': (Go.Callee.value (Go.Operand.func 37)), 'args': [(Go.Operand.tmp 25), (Go.Operand.tmp 26)], 'argTypes': [33, 33]}) slot 27
  refine wpList_plainQ rfl (fun K Q' hK => ?_); go_simp
  refine (rtrees_ok _ _ H2 _ _ _ h5.fits (by omega) (hA.mono hpB.le) hB).mono ?_
  rintro e wC ⟨rC, H3, rfl, hpC, hC⟩
  rw [hn3.out]
  obtain ⟨aC, cC, rfl, _, _⟩ := hC.form
  have h6 := h5.call0 hpC
  refine hK _ _ ?_; clear hK K; try clear Q'
  iterate 5 (refine wpList_plainQ rfl (fun K Q' hK => ?_); go_simp; refine hK _ _ ?_; clear hK K; try clear Q')
  refine wpList_nil ?_
  show Code.wp _ _ _ _ _
  refine wp_seq ?_
  refine wp_region_lit ?_
  iterate 7 (refine wpList_plainQ rfl (fun K Q' hK => ?_); go_simp; refine hK _ _ ?_; clear hK K; try clear Q')
  have c_0 := h6.cell 2 rfl 0 rfl
  have f_0 := h6.free 2 rfl 0
  refine wpList_plainQ rfl (fun K Q' hK => ?_); go_simp
  clear c_0 f_0
  refine h6.k_set 2 rfl (fun w7 h7 => ?_)
  refine hK _ _ ?_; clear hK K; try clear Q'
  iterate 1 (refine wpList_plainQ rfl (fun K Q' hK => ?_); go_simp; refine hK _ _ ?_; clear hK K; try clear Q')
  refine wpList_nil ?_
  show Code.wp _ _ _ _ _
  -- stops at: ret
  refine wp_ret ?_
  have r_2_0 := h7.cell 2 rfl 0 rfl
  first | show bodyPost _ _ _ _ _ _ | (simp only [Exit.then]; show bodyPost _ _ _ _ _ _) | (simp only [Exit.inBlock]; show bodyPost _ _ _ _ _ _) | (simp only [Exit.inBlock, Exit.then]; show bodyPost _ _ _ _ _ _) | (simp only [Exit.noGoto, Exit.inBlock, Exit.then]; show bodyPost _ _ _ _ _ _)
  refine bodyPost_ret (v := ?_) ?_ rfl ?_
  rotate_left
  · simp only [results, Tryz.results11]; go_simp; with_reducible rfl
  clear r_2_0
  have hst : Sk.meldN kf a b + Sk.meldN kf a b = s2 := by unfold Sk.meldN; have := hn1.out; have := hn2.out; have := hn3.out; have := hs1.out; have := hs2.out; omega
  exact ⟨_, H3, by rw [hst], h7.post, hC⟩
set_option maxRecDepth 100000 in
set_option maxHeartbeats 1000000 in
theorem r9min_ok (H : GH) (w : World) (v : Value) (l : List (Tr El)) (hf : Fits w H) (hn : Rw.size l < 1000000) (hv : RsV H v l) :
    Calls Tryz.prog 17 #[.agg #[v]] w fun e w' => e = .returned (.tuple #[elV ((Rw.min? kf l).getD (0, 0)), .int .i64 (l.length - 1 : Nat)]) ∧ Keep none w w' := by
  have hpre : Pre w H none 0 0 := Pre.none hf 0 0
  have hv' := hv
  obtain ⟨a0, c0, rfl, _, _⟩ := hv.form
  obtain ⟨x, hx⟩ : ∃ x, Hid ((Rw.min? kf l).getD (0, 0) = x) := ⟨_, show _ = _ from rfl⟩
  obtain ⟨n, hn'⟩ : ∃ n, Hid (l.length - 1 = n) := ⟨_, show _ = _ from rfl⟩
  rw [hx.out, hn'.out]
  go_enter Tryz.func17, Tryz.ntmps17
  have h0 := St.start hpre
  refine wp_seq ?_
  refine wp_region_lit ?_
  refine wpList_plainQ rfl (fun K Q' hK => ?_); go_simp
  refine h0.k_alloc (fun w1 h1 => ?_)
  refine hK _ _ ?_; clear hK K; try clear Q'
  refine wpList_plainQ rfl (fun K Q' hK => ?_); go_simp
  refine h1.k_alloc (fun w2 h2 => ?_)
  refine hK _ _ ?_; clear hK K; try clear Q'
  iterate 1 (refine wpList_plainQ rfl (fun K Q' hK => ?_); go_simp; refine hK _ _ ?_; clear hK K; try clear Q')
  refine wpList_nil ?_
  show Code.wp _ _ _ _ _
  refine wp_seq ?_
  refine wp_region_lit ?_
  have c_0_0 := h2.cell 0 rfl 0 rfl
  iterate 3 (refine wpList_plainQ rfl (fun K Q' hK => ?_); go_simp; refine hK _ _ ?_; clear hK K; try clear Q')
  clear c_0_0
  -- stops at: eff:call (Go.Op.call {'callee': (Go.Callee.value (Go.Operand.func 46)), 'args': [(Go.Operand.tmp 6)], 'argTypes': [68]}) slot 7
  refine wpList_plainQ rfl (fun K Q' hK => ?_); go_simp
  refine (r7min_ok H _ _ l h2.fits hn hv').mono ?_
  rintro e wA ⟨rfl, hkA⟩
  rw [hx.out, hn'.out]
  have h3 := h2.callk hkA
  refine hK _ _ ?_; clear hK K; try clear Q'
  iterate 2 (refine wpList_plainQ rfl (fun K Q' hK => ?_); go_simp; refine hK _ _ ?_; clear hK K; try clear Q')
  have c_0 := h3.cell 1 rfl 0 rfl
  have f_0 := h3.free 1 rfl 0
  have c_1 := h3.cell 1 rfl 1 rfl
  have f_1 := h3.free 1 rfl 1
  refine wpList_plainQ rfl (fun K Q' hK => ?_); go_simp
  clear c_0 f_0 c_1 f_1
  refine (h3.set (i := 1) rfl 0 _).k_set 1 rfl (fun w4 h4 => ?_)
  refine hK _ _ ?_; clear hK K; try clear Q'
  iterate 1 (refine wpList_plainQ rfl (fun K Q' hK => ?_); go_simp; refine hK _ _ ?_; clear hK K; try clear Q')
  refine wpList_nil ?_
  show Code.wp _ _ _ _ _
  -- stops at: ret
  refine wp_ret ?_
  have r_1_0 := h4.cell 1 rfl 0 rfl
  have r_1_1 := h4.cell 1 rfl 1 rfl
  first | show bodyPost _ _ _ _ _ _ | (simp only [Exit.then]; show bodyPost _ _ _ _ _ _) | (simp only [Exit.inBlock]; show bodyPost _ _ _ _ _ _) | (simp only [Exit.inBlock, Exit.then]; show bodyPost _ _ _ _ _ _) | (simp only [Exit.noGoto, Exit.inBlock, Exit.then]; show bodyPost _ _ _ _ _ _)
  refine bodyPost_ret (v := ?_) ?_ rfl ?_
  rotate_left
  · simp only [results, Tryz.results17]; go_simp; with_reducible rfl
  clear r_1_0 r_1_1
  exact ⟨rfl, h4.post.keep⟩
set_option maxRecDepth 100000 in
set_option maxHeartbeats 1000000 in
theorem r9size_ok (H : GH) (w : World) (v : Value) (l : List (Tr El)) (hf : Fits w H) (hn : Rw.size l < 1000000) (hv : RsV H v l) :
    Calls Tryz.prog 7 #[.agg #[v]] w fun e w' => e = .returned (.int .i64 (Rw.size l : Nat)) ∧ Keep none w w' := by
  have hpre : Pre w H none 0 0 := Pre.none hf 0 0
  have hv' := hv
  obtain ⟨a0, c0, rfl, _, _⟩ := hv.form
  obtain ⟨n, hn'⟩ : ∃ n, Hid (Rw.size l = n) := ⟨_, show _ = _ from rfl⟩
  rw [hn'.out]
  go_enter Tryz.func7, Tryz.ntmps7
  have h0 := St.start hpre
  refine wp_seq ?_
  refine wp_region_lit ?_
  refine wpList_plainQ rfl (fun K Q' hK => ?_); go_simp
  refine h0.k_alloc (fun w1 h1 => ?_)
  refine hK _ _ ?_; clear hK K; try clear Q'
  iterate 1 (refine wpList_plainQ rfl (fun K Q' hK => ?_); go_simp; refine hK _ _ ?_; clear hK K; try clear Q')
  refine wpList_nil ?_
  show Code.wp _ _ _ _ _
  refine wp_seq ?_
  refine wp_region_lit ?_
  have c_0_0 := h1.cell 0 rfl 0 rfl
  iterate 3 (refine wpList_plainQ rfl (fun K Q' hK => ?_); go_simp; refine hK _ _ ?_; clear hK K; try clear Q')
  clear c_0_0
  -- stops at: eff:call (Go.Op.call {'callee': (Go.Callee.value (Go.Operand.func 22)), 'args': [(Go.Operand.tmp 5)], 'argTypes': [68]}) slot 6
  refine wpList_plainQ rfl (fun K Q' hK => ?_); go_simp
  refine (r7size_ok H _ _ l h1.fits hn hv').mono ?_
  rintro e wA ⟨rfl, hkA⟩
  rw [hn'.out]
  have h2 := h1.callk hkA
  refine hK _ _ ?_; clear hK K; try clear Q'
  iterate 1 (refine wpList_plainQ rfl (fun K Q' hK => ?_); go_simp; refine hK _ _ ?_; clear hK K; try clear Q')
  refine wpList_nil ?_
  show Code.wp _ _ _ _ _
  -- stops at: ret
  refine wp_ret ?_
  go_ret
  exact ⟨rfl, h2.post.keep⟩
set_option maxRecDepth 100000 in
set_option maxHeartbeats 1000000 in
theorem r9show_ok (H : GH) (w : World) (v : Value) (l : List (Tr El)) (hf : Fits w H) (hn : Rw.size l < 900000) (hfit : ∀ a ∈ Rw.els l, El.fits a) (hv : RsV H v l) :
    Calls Tryz.prog 19 #[.agg #[v]] w fun e w' => e = .returned (.string ⟨(Rw.text l).toArray⟩) ∧ Keep none w w' := by
  have hpre : Pre w H none 0 0 := Pre.none hf 0 0
  have hv' := hv
  obtain ⟨a0, c0, rfl, _, _⟩ := hv.form
  obtain ⟨s, hs⟩ : ∃ s, Hid (Rw.text l = s) := ⟨_, show _ = _ from rfl⟩
  rw [hs.out]
  go_enter Tryz.func19, Tryz.ntmps19
  have h0 := St.start hpre
  refine wp_seq ?_
  refine wp_region_lit ?_
  refine wpList_plainQ rfl (fun K Q' hK => ?_); go_simp
  refine h0.k_alloc (fun w1 h1 => ?_)
  refine hK _ _ ?_; clear hK K; try clear Q'
  iterate 1 (refine wpList_plainQ rfl (fun K Q' hK => ?_); go_simp; refine hK _ _ ?_; clear hK K; try clear Q')
  refine wpList_nil ?_
  show Code.wp _ _ _ _ _
  refine wp_seq ?_
  refine wp_region_lit ?_
  have c_0_0 := h1.cell 0 rfl 0 rfl
  iterate 3 (refine wpList_plainQ rfl (fun K Q' hK => ?_); go_simp; refine hK _ _ ?_; clear hK K; try clear Q')
  clear c_0_0
  -- stops at: eff:call (Go.Op.call {'callee': (Go.Callee.value (Go.Operand.func 49)), 'args': [(Go.Operand.tmp 5)], 'argTypes': [68]}) slot 6
  refine wpList_plainQ rfl (fun K Q' hK => ?_); go_simp
  refine (r7show_ok H _ _ l h1.fits hn hfit hv').mono ?_
  rintro e wA ⟨rfl, hkA⟩
  rw [hs.out]
  have h2 := h1.callk hkA
  refine hK _ _ ?_; clear hK K; try clear Q'
  iterate 1 (refine wpList_plainQ rfl (fun K Q' hK => ?_); go_simp; refine hK _ _ ?_; clear hK K; try clear Q')
  refine wpList_nil ?_
  show Code.wp _ _ _ _ _
  -- stops at: ret
  refine wp_ret ?_
  go_ret
  exact ⟨rfl, h2.post.keep⟩
section
variable {w : World} {H : GH} {cs ds : List Value} {s t : Hp}
theorem wmeld_ok (hf : Fits w H) (hn : Hp.size s + Hp.size t < 800000) (h : WvR H cs s) (k : WvR H ds t) :
    Calls Tryz.prog 11 #[.agg cs.toArray, .agg ds.toArray] w fun e w' => ∃ es H', e = .returned (.tuple #[.agg es.toArray, .int .i64 (Hp.meldC s t + Hp.meldD s t : Nat)]) ∧ Post w H none w' H' 0 0 ∧ WvR H' es (Hp.meld s t) := by
  obtain ⟨q, rfl, h2⟩ := h
  obtain ⟨p, rfl, k2⟩ := k
  exact (r9meld_ok H w q p s t hf (by have : Rw.size s + Rw.size t < 800000 := hn; omega) h2 k2).mono fun e w' ⟨r, H', h3, h4, h5⟩ => ⟨[r], H', h3, h4, r, rfl, h5⟩
theorem wmin_ok (hf : Fits w H) (hn : Hp.size t < 800000) (h : WvR H cs t) :
    Calls Tryz.prog 17 #[.agg cs.toArray] w fun e w' => e = .returned (.tuple #[elV ((Hp.min? t).getD (0, 0)), .int .i64 (Hp.minC t : Nat)]) ∧ Keep none w w' := by
  obtain ⟨q, rfl, h2⟩ := h
  exact r9min_ok H w q t hf (by have : Rw.size t < 800000 := hn; omega) h2
theorem wsize_ok (hf : Fits w H) (hn : Hp.size t < 800000) (h : WvR H cs t) :
    Calls Tryz.prog 7 #[.agg cs.toArray] w fun e w' => e = .returned (.int .i64 (Hp.size t : Nat)) ∧ Keep none w w' := by
  obtain ⟨q, rfl, h2⟩ := h
  exact r9size_ok H w q t hf (by have : Rw.size t < 800000 := hn; omega) h2
theorem wshow_ok (hf : Fits w H) (hn : Hp.size t < 800000) (hfit : ∀ a ∈ Hp.els t, El.fits a) (h : WvR H cs t) :
    Calls Tryz.prog 19 #[.agg cs.toArray] w fun e w' => e = .returned (.string ⟨(Hp.text t).toArray⟩) ∧ Keep none w w' := by
  obtain ⟨q, rfl, h2⟩ := h
  exact r9show_ok H w q t hf (by have : Rw.size t < 800000 := hn; omega) hfit h2
end
end Go.Proofs.YtfagcfppeahmdaaGreatDoor
