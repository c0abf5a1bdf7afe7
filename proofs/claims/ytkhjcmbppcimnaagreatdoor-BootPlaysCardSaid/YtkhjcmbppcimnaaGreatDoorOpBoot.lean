/-
Heaps whose others are heaps, as texts.
-/
import Derived.Test.YtkhjcmbppcimnaaGreatDoorOoBoot
import Derived.Test.YtkhjcmbppcimnaaGreatDoorOlSkew
namespace Go.Proofs.YtkhjcmbppcimnaaGreatDoor
open Go Go.RowKit
set_option linter.unusedVariables false

namespace BH
/-- A heap's text. -/
def text : BH → List UInt8
  | mk x q => 91 :: (Lib.join (El.text x :: (Rw.els q).attach.map fun ⟨y, hy⟩ => text y) [32] ++ [93])
termination_by t => SizeOf.sizeOf t
decreasing_by exact mk_size y hy
theorem text_mk (x : El) (q : List (Tr BH)) : text (mk x q) = 91 :: (Lib.join (El.text x :: (Rw.els q).map text) [32] ++ [93]) := by
  rw [text]
  have e : ((Rw.els q).attach.map fun y => text y.1) = (Rw.els q).map text := by
    rw [List.map_subtype (g := text) (hf := fun _ _ => rfl)]
    simp
  exact congrArg (fun l => 91 :: (Lib.join (El.text x :: l) [32] ++ [93])) e
theorem text_len (t : BH) : (∀ a ∈ t.els, El.fits a) → (text t).length + 1 ≤ 60 * t.els.length := by
  refine ind (P := fun t => (∀ a ∈ t.els, El.fits a) → (text t).length + 1 ≤ 60 * t.els.length) (fun x q ih => ?_) t
  intro h
  rw [text_mk, els_mk] at *
  have hx := El.text_len (h x (by simp))
  have hsum : ∀ (l : List BH), (∀ y ∈ l, y ∈ Rw.els q) → Lib.lens (l.map text) + l.length ≤ 60 * (elsL l).length := by
    intro l
    induction l with
    | nil => intro _; simp [Lib.lens, elsL]
    | cons y l ihl =>
      intro hl
      have h1 := ihl fun z hz => hl z (by simp [hz])
      have h2 := ih y (hl y (by simp)) fun a ha => h a (List.mem_cons_of_mem _ (List.mem_flatMap.2 ⟨y, hl y (by simp), ha⟩))
      rw [elsL_cons]
      simp [Lib.lens] at *
      omega
  have h3 := hsum (Rw.els q) fun _ h => h
  have h4 := Lib.join_length (El.text x) ((Rw.els q).map text) [32]
  simp only [List.length_cons, List.length_append, List.length_nil]
  rw [h4]
  unfold elsL at h3
  simp [Lib.lens] at h3 ⊢
  omega
end BH

set_option maxRecDepth 100000 in
set_option maxHeartbeats 4000000 in
theorem btshow_ok (t : BH) : ∀ (H : GH) (w : World) (p : Option Addr), Fits w H → TabH H → t.els.length < 900000 → (∀ a ∈ t.els, El.fits a) → BtR H p t →
    Calls Tryz.prog 18 #[hV p] w fun e w' => ∃ H', e = .returned (.string ⟨(BH.text t).toArray⟩) ∧ Post w H none w' H' 0 0 := by
  refine BH.ind (P := fun t => ∀ (H : GH) (w : World) (p : Option Addr), Fits w H → TabH H → t.els.length < 900000 → (∀ a ∈ t.els, El.fits a) → BtR H p t →
    Calls Tryz.prog 18 #[hV p] w fun e w' => ∃ H', e = .returned (.string ⟨(BH.text t).toArray⟩) ∧ Post w H none w' H' 0 0) (fun x q ih => ?_) t
  intro H w p hf htab hn hfit ht
  have hpre : Pre w H none 0 0 := Pre.none hf 0 0
  have htl := BH.text_len (.mk x q) hfit
  have hqs := BH.queue_le (.mk x q)
  obtain ⟨b, qa, ts, rfl, hb, hl, hq, hd⟩ := BtR.open ht
  have hq' : Rw.map Prod.snd ts = q := hq.out
  have hsz : Rw.size ts < 900000 := by rw [← hq.out, sndSize] at hqs; omega
  have hxf : El.fits x := hfit x (by rw [BH.els_mk]; simp)
  obtain ⟨es, hes⟩ : ∃ es, Hid (Rw.els ts = es) := ⟨_, show _ = _ from rfl⟩
  obtain ⟨nn, hnn⟩ : ∃ nn, Hid (es.length = nn) := ⟨_, show _ = _ from rfl⟩
  have hnb : nn < 1000000 := by have : Rw.size ts = nn := by rw [← hnn.out, ← hes.out]; rfl
                                omega
  obtain ⟨tx, htx⟩ : ∃ s, Hid (El.text x = s) := ⟨_, show _ = _ from rfl⟩
  obtain ⟨ss, hss⟩ : ∃ ss, Hid ((es.map fun y => BH.text y.2) = ss) := ⟨_, show _ = _ from rfl⟩
  have hssl : Hid (ss.length = nn) := by show _ = _; rw [← hss.out, List.length_map, hnn.out]
  obtain ⟨jt, hjt⟩ : ∃ s, Hid (Lib.join (tx :: ss) [32] = s) := ⟨_, show _ = _ from rfl⟩
  have e0 : Hid (BH.text (.mk x q) = 91 :: (jt ++ [93])) := by
    show _ = _
    rw [BH.text_mk, htx.out, ← hq', Rw.map_els, hes.out, List.map_map, ← hjt.out, ← hss.out]
    rfl
  have hjl : jt.length ≤ 100000000 := by rw [e0.out] at htl; simp only [List.length_cons, List.length_append, List.length_nil] at htl; omega
  have hkid : ∀ y ∈ es, ∀ (H' : GH) (w' : World), Fits w' H' → TabH H' → H.le H' → Calls Tryz.prog 18 #[hV y.1] w' fun e w2 => ∃ H2, e = .returned (.string ⟨(BH.text y.2).toArray⟩) ∧ Post w' H' none w2 H2 0 0 := fun y hy H' w' hf' ht' hle' => by
    have hy' : y.2 ∈ Rw.els q := by rw [← hq', Rw.map_els]; exact List.mem_map.2 ⟨y, by rw [hes.out]; exact hy, rfl⟩
    have hm := BH.sum_mem hy'
    have h5 : (BH.mk x q).els.length = (BH.elsL (Rw.els q)).length + 1 := by rw [BH.els_mk]; rfl
    exact ih y.2 hy' H' w' y.1 hf' ht' (by omega) (fun a ha => hfit a (by rw [BH.els_mk]; exact List.mem_cons_of_mem _ (List.mem_flatMap.2 ⟨_, hy', ha⟩))) ((hd y (by rw [hes.out]; exact hy)).mono hle')
  clear ih htl hqs hfit
  go_enter Tryz.func18, Tryz.ntmps18
  have h0 := St.start hpre
  refine wp_seq ?_
  repeat (first | simp only [List.nil_append] at h0 | simp only [List.cons_append] at h0 | simp only [List.set_cons_zero] at h0 | simp only [List.set_cons_succ] at h0 | simp only [List.eraseIdx_zero] at h0 | simp only [List.tail_cons] at h0 | simp only [List.eraseIdx_cons_zero] at h0 | simp only [List.eraseIdx_cons_succ] at h0 | simp only [List.setIfInBounds_toArray] at h0)
  refine wp_region_lit ?_
  refine wpList_plainQ rfl (fun K Q' hK => ?_); go_simp
  refine h0.k_alloc (fun w1 h1 => ?_)
  refine hK _ _ ?_; clear hK K; try clear Q'
  iterate 1 (refine wpList_plainQ rfl (fun K Q' hK => ?_); go_simp; refine hK _ _ ?_; clear hK K; try clear Q')
  refine wpList_nil ?_
  show Code.wp _ _ _ _ _
  refine wp_seq ?_
  refine wp_seq ?_
  repeat (first | simp only [List.nil_append] at h1 | simp only [List.cons_append] at h1 | simp only [List.set_cons_zero] at h1 | simp only [List.set_cons_succ] at h1 | simp only [List.eraseIdx_zero] at h1 | simp only [List.tail_cons] at h1 | simp only [List.eraseIdx_cons_zero] at h1 | simp only [List.eraseIdx_cons_succ] at h1 | simp only [List.setIfInBounds_toArray] at h1)
  refine wp_region_lit ?_
  have c_0_0 := h1.cell 0 rfl 0 rfl
  iterate 3 (refine wpList_plainQ rfl (fun K Q' hK => ?_); go_simp; refine hK _ _ ?_; clear hK K; try clear Q')
  clear c_0_0
  refine wpList_nil ?_
  show Code.wp _ _ _ _ _
  -- stops at: cond
  refine wp_cond_false (rfl) ?_
  refine wp_skip ?_
  show Code.wp _ _ _ _ _
  refine wp_seq ?_
  refine wp_region_lit ?_
  have c_0_0 := h1.cell 0 rfl 0 rfl
  have c_hb_0 := h1.gh hb 0 rfl
  have c_hb_1 := h1.gh hb 1 rfl
  iterate 5 (refine wpList_plainQ rfl (fun K Q' hK => ?_); go_simp; refine hK _ _ ?_; clear hK K; try clear Q')
  clear c_0_0 c_hb_0 c_hb_1
  -- stops at: eff:call (Go.Op.call {'callee': (Go.Callee.value (Go.Operand.func 35)), 'args': [(Go.Operand.tmp 13)], 'argTypes': [32]}) slot 14
  refine wpList_plainQ rfl (fun K Q' hK => ?_); go_simp
  refine (etext_ok H _ x hxf h1.fits htab).mono ?_
  rintro e wA ⟨rfl, hkA⟩
  rw [htx.out]
  have h2 := h1.callk hkA
  refine hK _ _ ?_; clear hK K; try clear Q'
  refine wpList_plainQ rfl (fun K Q' hK => ?_); go_simp
  refine h2.k_alloc (fun w3 h3 => ?_)
  refine hK _ _ ?_; clear hK K; try clear Q'
  iterate 1 (refine wpList_plainQ rfl (fun K Q' hK => ?_); go_simp; refine hK _ _ ?_; clear hK K; try clear Q')
  refine wpList_nil ?_
  show Code.wp _ _ _ _ _
  refine wp_seq ?_
  refine wp_seq ?_
  repeat (first | simp only [List.nil_append] at h3 | simp only [List.cons_append] at h3 | simp only [List.set_cons_zero] at h3 | simp only [List.set_cons_succ] at h3 | simp only [List.eraseIdx_zero] at h3 | simp only [List.tail_cons] at h3 | simp only [List.eraseIdx_cons_zero] at h3 | simp only [List.eraseIdx_cons_succ] at h3 | simp only [List.setIfInBounds_toArray] at h3)
  refine wp_region_lit ?_
  have c_0_0 := h3.cell 0 rfl 0 rfl
  have c_hb_2 := h3.gh hb 2 rfl
  iterate 5 (refine wpList_plainQ rfl (fun K Q' hK => ?_); go_simp; refine hK _ _ ?_; clear hK K; try clear Q')
  clear c_0_0 c_hb_2
  -- stops at: eff:call (Go.Op.call {'callee': (Go.Callee.value (Go.Operand.func 36)), 'args': [(Go.Operand.tmp 20)], 'argTypes': [71]}) slot 21
  have hR := h3.rowOf 1 rfl 1 1 rfl (by unfold maxLen; omega)
  refine wpList_plainQ rfl (fun K Q' hK => ?_); go_simp
  refine (skall_ok H _ qa ts hR.fits hsz hl).mono ?_
  rintro e wB ⟨v, rfl, hpB⟩
  obtain ⟨H5, h55, rA, leA⟩ := (hR.callrow hpB).settleRow 1 rfl
  rw [bpFlat, hes.out, hnn.out] at rA
  obtain ⟨aA, cA, rfl, _, _⟩ := rA.nil_or
  have hb_4 := leA _ _ hb
  refine hK _ _ ?_; clear hK K; try clear Q'
  iterate 2 (refine wpList_plainQ rfl (fun K Q' hK => ?_); go_simp; refine hK _ _ ?_; clear hK K; try clear Q')
  refine wpList_nil ?_
  show Code.wp _ _ _ _ _
  refine wp_block ?_
  -- stops at: loop
  have h90 := h55
  go_loopw [3, 23] (fun v3 v23 wr => ∃ (j : Nat) (Hj : GH), j ≤ nn ∧ H5.le Hj ∧ v23 = .int .i64 j ∧ St w H none 0 0 wr Hj [(w.heap.size, .cells #[.pointer (some ⟨b, 0, none⟩)] 29)] [⟨v3, 9, 1, j + 1, (tx :: ss.take j).map strV⟩]) (fun _ v23 _ => nn - (intOf v23).toNat)
  case atStart => exact ⟨0, H5, by omega, GH.le_refl _, rfl, by simpa [strV] using h90⟩
  case round =>
    obtain ⟨j, Hj, hj, hleJ, rfl, hs⟩ := hrel
    obtain ⟨a3, c3, rfl⟩ := hs.row_form 0 rfl
    by_cases hlt : j < nn
    · have rJ := rA.mono hleJ
      obtain ⟨b9, o9, cap9, e9, _⟩ := rJ.ne_nil (by omega)
      simp only [Value.slice.injEq, true_and] at e9
      obtain ⟨rfl, rfl⟩ := e9
      obtain ⟨y, hy⟩ : ∃ y, es[j]? = some y := ⟨es[j]'(by have := hnn.out; omega), by simp⟩
      have gj : (es.map fun y => Value.pointer y.1)[j]? = some (.pointer y.1) := by simp [hy]
      have e8 : IntKind.i64.wrap ((j : Int) + 1) = (j : Int) + 1 := IntWalk.i64_in _ (by omega)
      have hkj := hkid y (List.mem_of_getElem? hy)
      obtain ⟨s, hs1⟩ : ∃ s, Hid (BH.text y.2 = s) := ⟨_, show _ = _ from rfl⟩
      rw [hs1.out] at hkj
      have hsj : Hid (ss.take (j + 1) = ss.take j ++ [s]) := by
        show _ = _
        rw [List.take_add_one, ← hss.out, List.getElem?_map, hy]
        simp [hs1.out]
      refine wp_seq ?_
      repeat (first | simp only [List.nil_append] at hs | simp only [List.cons_append] at hs | simp only [List.set_cons_zero] at hs | simp only [List.set_cons_succ] at hs | simp only [List.eraseIdx_zero] at hs | simp only [List.tail_cons] at hs | simp only [List.eraseIdx_cons_zero] at hs | simp only [List.eraseIdx_cons_succ] at hs | simp only [List.setIfInBounds_toArray] at hs)
      refine wp_region_lit ?_
      iterate 1 (refine wpList_plainQ rfl (fun K Q' hK => ?_); go_simp; refine hK _ _ ?_; clear hK K; try clear Q')
      refine wpList_nil ?_
      show Code.wp _ _ _ _ _
      refine wp_seq ?_
      -- stops at: cond
      refine wp_cond_true (rfl) ?_
      refine wp_skip ?_
      show Code.wp _ _ _ _ _
      refine wp_seq ?_
      refine wp_block ?_
      refine wp_seq ?_
      refine wp_region_lit ?_
      iterate 1 (refine wpList_plainQ rfl (fun K Q' hK => ?_); go_simp; refine hK _ _ ?_; clear hK K; try clear Q')
      -- stops at: load (Go.Op.load 29 (Go.Operand.tmp 25)) slot 26
      have ce := rJ.cell hs.fits _ gj
      iterate 1 (refine wpList_plainQ rfl (fun K Q' hK => ?_); go_simp; refine hK _ _ ?_; clear hK K; try clear Q')
      clear ce
      refine wpList_plainQ rfl (fun K Q' hK => ?_); go_simp
      refine hs.k_alloc (fun w5 h5 => ?_)
      refine hK _ _ ?_; clear hK K; try clear Q'
      have c_0 := h5.cell 1 rfl 0 rfl
      have f_0 := h5.free 1 rfl 0
      refine wpList_plainQ rfl (fun K Q' hK => ?_); go_simp
      clear c_0 f_0
      refine h5.k_set 1 rfl (fun w6 h6 => ?_)
      refine hK _ _ ?_; clear hK K; try clear Q'
      refine wpList_nil ?_
      show Code.wp _ _ _ _ _
      repeat (first | simp only [List.nil_append] at h6 | simp only [List.cons_append] at h6 | simp only [List.set_cons_zero] at h6 | simp only [List.set_cons_succ] at h6 | simp only [List.eraseIdx_zero] at h6 | simp only [List.tail_cons] at h6 | simp only [List.eraseIdx_cons_zero] at h6 | simp only [List.eraseIdx_cons_succ] at h6 | simp only [List.setIfInBounds_toArray] at h6)
      refine wp_region_lit ?_
      have c_1_0 := h6.cell 1 rfl 0 rfl
      iterate 2 (refine wpList_plainQ rfl (fun K Q' hK => ?_); go_simp; refine hK _ _ ?_; clear hK K; try clear Q')
      clear c_1_0
      -- stops at: eff:call (Go.Op.call {'callee': (Go.Callee.value (Go.Operand.func 18)), 'args': [(Go.Operand.tmp 28)], 'argTypes': [29]}) slot 29
      refine wpList_plainQ rfl (fun K Q' hK => ?_); go_simp
      refine (hkj Hj _ h6.fits ((htab.mono leA).mono hleJ) (leA.trans hleJ)).mono ?_
      rintro e wC ⟨H6, rfl, hpC⟩
      have h7 := h6.call hpC
      refine hK _ _ ?_; clear hK K; try clear Q'
      refine wpList_plainQ rfl (fun K Q' hK => ?_); go_simp
      refine h7.k_alloc (fun w8 h8 => ?_)
      refine hK _ _ ?_; clear hK K; try clear Q'
      -- stops at: eff:Builtin.append (Go.Op.call {'callee': (Go.Callee.builtin Go.Builtin.append), 'args': [(Go.Operand.tmp 27), (Go.Operand.tmp 30)], 'argTypes': [89, 89]}) slot 31
      refine wpList_plainQ rfl (fun K Q' hK => ?_)
      refine h8.op_append 0 rfl rfl einfoS rfl [.string ⟨s.toArray⟩] rfl rfl (fun q u hj => ?_) (by simp [Value.oneCell']) (by omega) (by unfold maxLen; omega) (fun v' wF hF oF hnF => ?_)
      · match q, hj with
        | 0, hj => exact h8.cell 2 rfl 0 hj
      obtain ⟨g', cap', rfl⟩ := hF.row_some 0 rfl (by omega)
      refine hK _ _ ?_; clear hK K; try clear Q'
      iterate 1 (refine wpList_plainQ rfl (fun K Q' hK => ?_); go_simp; refine hK _ _ ?_; clear hK K; try clear Q')
      refine wpList_nil ?_
      show Code.wp _ _ _ _ _
      repeat (first | simp only [List.nil_append] at hF | simp only [List.cons_append] at hF | simp only [List.set_cons_zero] at hF | simp only [List.set_cons_succ] at hF | simp only [List.eraseIdx_zero] at hF | simp only [List.tail_cons] at hF | simp only [List.eraseIdx_cons_zero] at hF | simp only [List.eraseIdx_cons_succ] at hF | simp only [List.setIfInBounds_toArray] at hF)
      refine wp_region_lit ?_
      iterate 2 (refine wpList_plainQ rfl (fun K Q' hK => ?_); go_simp; refine hK _ _ ?_; clear hK K; try clear Q')
      refine wpList_nil ?_
      -- stops at: end ('roundend',)
      show _ ∧ _
      go_roundw
      case rel =>
        refine ⟨j + 1, H6, by omega, hleJ.trans hpC.le, by simp, ?_⟩
        rw [hsj.out, show (tx :: (ss.take j ++ [s])).map strV = (tx :: ss.take j).map strV ++ [.string ⟨s.toArray⟩] by simp [strV]]
        exact hF.take 1
      case measure => simp [intOf]; omega
    · obtain rfl : j = nn := by omega
      have htake : ss.take j = ss := List.take_of_length_le (by have := hssl.out; omega)
      rw [htake] at hs
      clear htake
      obtain ⟨g3, cc3, ee⟩ := hs.row_some 0 rfl (by omega)
      simp only [Value.slice.injEq, true_and] at ee
      obtain ⟨rfl, rfl⟩ := ee
      have l1 : ¬ 9223372036854775807 < 1 + jt.length := by omega
      have l2 : ¬ 9223372036854775807 < 1 + jt.length + 1 := by omega
      refine wp_seq ?_
      repeat (first | simp only [List.nil_append] at hs | simp only [List.cons_append] at hs | simp only [List.set_cons_zero] at hs | simp only [List.set_cons_succ] at hs | simp only [List.eraseIdx_zero] at hs | simp only [List.tail_cons] at hs | simp only [List.eraseIdx_cons_zero] at hs | simp only [List.eraseIdx_cons_succ] at hs | simp only [List.setIfInBounds_toArray] at hs)
      refine wp_region_lit ?_
      iterate 1 (refine wpList_plainQ rfl (fun K Q' hK => ?_); go_simp; refine hK _ _ ?_; clear hK K; try clear Q')
      refine wpList_nil ?_
      show Code.wp _ _ _ _ _
      refine wp_seq ?_
      -- stops at: cond
      refine wp_cond_false (rfl) ?_
      refine wp_exit ?_
      show Code.wp _ _ _ _ _
      refine wp_seq ?_
      refine wp_region_lit ?_
      iterate 1 (refine wpList_plainQ rfl (fun K Q' hK => ?_); go_simp; refine hK _ _ ?_; clear hK K; try clear Q')
      -- stops at: eff:call (Go.Op.call {'callee': (Go.Callee.value (Go.Operand.func 37)), 'args': [(Go.Operand.tmp 33), (Go.Operand.const (Go.Value.string {'data': [32]}))], 'argTypes': [ slot 34
      obtain ⟨H9, h99, rS, leS⟩ := hs.settleRow 0 rfl
      refine wpList_plainQ rfl (fun K Q' hK => ?_); go_simp
      refine (join_ok H9 _ _ _ _ _ (tx :: ss) [32] h99.fits rS (by rw [List.length_cons, hssl.out]) (by omega) (by omega) (by rw [hjt.out]; omega)).mono ?_
      rintro e wJ ⟨rfl, hkJ⟩
      rw [hjt.out]
      have h10 := h99.callk hkJ
      refine hK _ _ ?_; clear hK K; try clear Q'
      iterate 3 (refine wpList_plainQ rfl (fun K Q' hK => ?_); go_simp; refine hK _ _ ?_; clear hK K; try clear Q')
      refine wpList_nil ?_
      show Code.wp _ _ _ _ _
      -- stops at: ret
      refine wp_ret ?_
      go_ret
      exact ⟨H9, by rw [e0.out]; rfl, h10.post⟩

theorem bshow_ok (H : GH) (w : World) (p : Option Addr) (t : Hp) (hf : Fits w H) (htab : TabH H) (hn : Hp.size t < 900000) (hfit : ∀ a ∈ Hp.els t, El.fits a) (ht : HbR H p t) :
    Calls Tryz.prog 18 #[hV p] w fun e w' => ∃ H', e = .returned (.string ⟨(match t with | none => [46] | some t => BH.text t : List UInt8).toArray⟩) ∧ Post w H none w' H' 0 0 := by
  match t, hn, hfit, ht with
  | some t, hn, hfit, ht => exact btshow_ok t H w p hf htab hn hfit ht
  | none, hn, hfit, ht =>
    have hpre : Pre w H none 0 0 := Pre.none hf 0 0
    obtain rfl : p = none := ht
    go_enter Tryz.func18, Tryz.ntmps18
    have h0 := St.start hpre
    refine wp_seq ?_
    repeat (first | simp only [List.nil_append] at h0 | simp only [List.cons_append] at h0 | simp only [List.set_cons_zero] at h0 | simp only [List.set_cons_succ] at h0 | simp only [List.eraseIdx_zero] at h0 | simp only [List.tail_cons] at h0 | simp only [List.eraseIdx_cons_zero] at h0 | simp only [List.eraseIdx_cons_succ] at h0 | simp only [List.setIfInBounds_toArray] at h0)
    refine wp_region_lit ?_
    refine wpList_plainQ rfl (fun K Q' hK => ?_); go_simp
    refine h0.k_alloc (fun w1 h1 => ?_)
    refine hK _ _ ?_; clear hK K; try clear Q'
    iterate 1 (refine wpList_plainQ rfl (fun K Q' hK => ?_); go_simp; refine hK _ _ ?_; clear hK K; try clear Q')
    refine wpList_nil ?_
    show Code.wp _ _ _ _ _
    refine wp_seq ?_
    refine wp_seq ?_
    repeat (first | simp only [List.nil_append] at h1 | simp only [List.cons_append] at h1 | simp only [List.set_cons_zero] at h1 | simp only [List.set_cons_succ] at h1 | simp only [List.eraseIdx_zero] at h1 | simp only [List.tail_cons] at h1 | simp only [List.eraseIdx_cons_zero] at h1 | simp only [List.eraseIdx_cons_succ] at h1 | simp only [List.setIfInBounds_toArray] at h1)
    refine wp_region_lit ?_
    have c_0_0 := h1.cell 0 rfl 0 rfl
    iterate 3 (refine wpList_plainQ rfl (fun K Q' hK => ?_); go_simp; refine hK _ _ ?_; clear hK K; try clear Q')
    clear c_0_0
    refine wpList_nil ?_
    show Code.wp _ _ _ _ _
    -- stops at: cond
    refine wp_cond_true (rfl) ?_
    refine wp_seq ?_
    refine wp_region_lit ?_
    iterate 1 (refine wpList_plainQ rfl (fun K Q' hK => ?_); go_simp; refine hK _ _ ?_; clear hK K; try clear Q')
    refine wpList_nil ?_
    show Code.wp _ _ _ _ _
    -- stops at: ret
    refine wp_ret ?_
    go_ret
    exact ⟨H, rfl, h1.post⟩
end Go.Proofs.YtkhjcmbppcimnaaGreatDoor
