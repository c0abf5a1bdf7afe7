/-
Counts: its walk.
-/
import Derived.Test.YtceamdacacacjaaDoorQkActs
namespace Go.Proofs.YtceamdacacacjaaDoor
open Go Go.RowKit
set_option linter.unusedVariables false

theorem infoHp : ElemInfo Tryd.prog 38 26 (.agg #[.pointer none]) 1 8 :=
  ⟨Tryd.underlying38, info_parts (by kernel_rfl), rfl, by decide⟩
theorem infoSets : ElemInfo Tryd.prog 39 22 (.slice none 0 0) 1 24 :=
  ⟨Tryd.underlying39, info_parts (by kernel_rfl), rfl, by decide⟩

/-- A heap, made with a meter and without; a row of its elements. -/
structure Trio where
  p : Option Addr
  q : Option Addr
  v : Value
  t : Hp
/-- What the three rows hold. -/
def Held (H : GH) (ps : List Trio) : Prop := ∀ a ∈ ps, HpR H a.p a.t ∧ HpR H a.q a.t ∧ ElRep H a.v (sortE (Hp.els a.t)) ∧ Hp.size a.t ≤ 150
theorem Held.mono {H H' : GH} {ps : List Trio} (h : Held H ps) (hl : H.le H') : Held H' ps := fun a ha => ⟨(h a ha).1.mono hl, (h a ha).2.1.mono hl, (h a ha).2.2.1.mono hl, (h a ha).2.2.2⟩
theorem Held.snoc {H : GH} {ps : List Trio} (h : Held H ps) {a : Trio} (h1 : HpR H a.p a.t) (h2 : HpR H a.q a.t) (h3 : ElRep H a.v (sortE (Hp.els a.t))) (h4 : Hp.size a.t ≤ 150) : Held H (ps ++ [a]) := by
  intro b hb
  rcases List.mem_append.1 hb with hb | hb
  · exact h b hb
  · obtain rfl := List.mem_singleton.1 hb
    exact ⟨h1, h2, h3, h4⟩
/-- What holds ahead of each round of the first loop. -/
def CountInv (w : World) (H H2 : GH) (bM : Nat) (ls : List Play) (v6 v7 v8 v9 : Value) (wr : World) : Prop :=
  ∃ (k : Nat) (ps : List Trio) (H' : GH) (c d : Int), k ≤ ls.length ∧ Hid (ps.length = k + 1) ∧ v9 = .int .i64 k ∧ H2.le H' ∧ Held H' ps ∧
    St w H none 0 0 wr H' [(bM, meterObj c d)] [⟨v6, 26, 1, ps.length, ps.map (fun a => .pointer a.p)⟩, ⟨v7, 26, 1, ps.length, ps.map (fun a => .pointer a.q)⟩, ⟨v8, 22, 1, ps.length, ps.map Trio.v⟩]
/-- .. of the second. -/
def CountInv2 (w : World) (H H7 : GH) (bM : Nat) (ps : List Trio) (v6 v7 v8 v15 : Value) (wr : World) : Prop :=
  ∃ (j : Nat) (H8 : GH) (c d : Int), j ≤ ps.length ∧ v15 = .int .i64 j ∧ H7.le H8 ∧
    St w H none 0 0 wr H8 [(bM, meterObj c d)] [⟨v6, 26, 1, ps.length, ps.map (fun a => .pointer a.p)⟩, ⟨v7, 26, 1, ps.length, ps.map (fun a => .pointer a.q)⟩, ⟨v8, 22, 1, ps.length, ps.map Trio.v⟩]


set_option maxRecDepth 100000 in
set_option maxHeartbeats 16000000 in
theorem counts_walk (H : GH) (w : World) (u : Value) (ls : List Play) (hf : Fits w H) (htab : TabH H) (hr : PlayRep H u ls) :
    Calls Tryd.prog 4 #[u] w fun e w' => e = .returned (.bool true) ∧ Keep none w w' := by
  have hpre : Pre w H none 0 0 := Pre.none hf 0 0
  obtain ⟨hs, hok⟩ := hr
  obtain ⟨b, cap2, rfl, hd1, hd2⟩ := hs.nil_or
  have hd3 : ls.length ≤ 9223372036854775807 := by unfold maxLen at hd2; omega
  clear hd2
  cases hfew : fewB ls with
  | false =>
    as_aux_lemma =>
    go_enter Tryd.func4, Tryd.ntmps4
    have h0 := St.start hpre
    refine wp_seq ?_
    repeat (first | simp only [List.nil_append] at h0 | simp only [List.cons_append] at h0 | simp only [List.set_cons_zero] at h0 | simp only [List.set_cons_succ] at h0 | simp only [List.eraseIdx_zero] at h0 | simp only [List.tail_cons] at h0 | simp only [List.eraseIdx_cons_zero] at h0 | simp only [List.eraseIdx_cons_succ] at h0 | simp only [List.setIfInBounds_toArray] at h0)
    refine wp_region_lit ?_
    iterate 1 (refine wpList_plainQ rfl (fun K Q' hK => ?_); go_simp; refine hK _ _ ?_; clear hK K; try clear Q')
    refine wpList_nil ?_
    show Code.wp _ _ _ _ _
    refine wp_seq ?_
    refine wp_region_lit ?_
    -- stops at: eff:call (Go.Op.call {'callee': (Go.Callee.value (Go.Operand.func 13)), 'args': [], 'argTypes': []}) slot 17
    refine wpList_plainQ rfl (fun K Q' hK => ?_); go_simp
    refine (awake_ok H _ h0.fits htab).mono ?_
    rintro e wAw ⟨HAw, rfl, hpAw⟩
    have h1 := h0.call0 hpAw
    have htab_1 := htab.mono hpAw.le
    refine hK _ _ ?_; clear hK K; try clear Q'
    iterate 1 (refine wpList_plainQ rfl (fun K Q' hK => ?_); go_simp; refine hK _ _ ?_; clear hK K; try clear Q')
    refine wpList_nil ?_
    show Code.wp _ _ _ _ _
    refine wp_seq ?_
    refine wp_seq ?_
    repeat (first | simp only [List.nil_append] at h1 | simp only [List.cons_append] at h1 | simp only [List.set_cons_zero] at h1 | simp only [List.set_cons_succ] at h1 | simp only [List.eraseIdx_zero] at h1 | simp only [List.tail_cons] at h1 | simp only [List.eraseIdx_cons_zero] at h1 | simp only [List.eraseIdx_cons_succ] at h1 | simp only [List.setIfInBounds_toArray] at h1)
    refine wp_region_lit ?_
    iterate 2 (refine wpList_plainQ rfl (fun K Q' hK => ?_); go_simp; refine hK _ _ ?_; clear hK K; try clear Q')
    refine wpList_nil ?_
    show Code.wp _ _ _ _ _
    -- stops at: cond
    refine wp_cond_false (rfl) ?_
    refine wp_skip ?_
    show Code.wp _ _ _ _ _
    refine wp_seq ?_
    refine wp_region_lit ?_
    iterate 1 (refine wpList_plainQ rfl (fun K Q' hK => ?_); go_simp; refine hK _ _ ?_; clear hK K; try clear Q')
    -- stops at: eff:call (Go.Op.call {'callee': (Go.Callee.value (Go.Operand.func 21)), 'args': [(Go.Operand.tmp 20)], 'argTypes': [34]}) slot 21
    refine wpList_plainQ rfl (fun K Q' hK => ?_); go_simp
    refine (few_ok _ _ _ ls h1.fits ⟨hs.mono h1.le, fun a ha => (hok a ha).mono h1.le⟩).mono ?_
    rintro e wF ⟨rfl, hkF⟩
    rw [hfew]
    have h2 := h1.callk hkF
    refine hK _ _ ?_; clear hK K; try clear Q'
    iterate 1 (refine wpList_plainQ rfl (fun K Q' hK => ?_); go_simp; refine hK _ _ ?_; clear hK K; try clear Q')
    refine wpList_nil ?_
    show Code.wp _ _ _ _ _
    refine wp_seq ?_
    refine wp_seq ?_
    repeat (first | simp only [List.nil_append] at h2 | simp only [List.cons_append] at h2 | simp only [List.set_cons_zero] at h2 | simp only [List.set_cons_succ] at h2 | simp only [List.eraseIdx_zero] at h2 | simp only [List.tail_cons] at h2 | simp only [List.eraseIdx_cons_zero] at h2 | simp only [List.eraseIdx_cons_succ] at h2 | simp only [List.setIfInBounds_toArray] at h2)
    refine wp_region_lit ?_
    iterate 2 (refine wpList_plainQ rfl (fun K Q' hK => ?_); go_simp; refine hK _ _ ?_; clear hK K; try clear Q')
    refine wpList_nil ?_
    show Code.wp _ _ _ _ _
    -- stops at: cond
    refine wp_cond_true (rfl) ?_
    refine wp_seq ?_
    refine wp_region_lit ?_
    iterate 1 (refine wpList_plainQ rfl (fun K Q' hK => ?_); go_simp; refine hK _ _ ?_; clear hK K; try clear Q')
    refine wpList_nil ?_
    show Code.wp _ _ _ _ _
    -- stops at: ret
    refine wp_ret ?_
    go_ret
    exact ⟨rfl, h2.post.keep⟩
  | true =>
    obtain ⟨hlen, hl40⟩ := fewB_of hfew
    as_aux_lemma =>
    go_enter Tryd.func4, Tryd.ntmps4
    have h0 := St.start hpre
    refine wp_seq ?_
    repeat (first | simp only [List.nil_append] at h0 | simp only [List.cons_append] at h0 | simp only [List.set_cons_zero] at h0 | simp only [List.set_cons_succ] at h0 | simp only [List.eraseIdx_zero] at h0 | simp only [List.tail_cons] at h0 | simp only [List.eraseIdx_cons_zero] at h0 | simp only [List.eraseIdx_cons_succ] at h0 | simp only [List.setIfInBounds_toArray] at h0)
    refine wp_region_lit ?_
    iterate 1 (refine wpList_plainQ rfl (fun K Q' hK => ?_); go_simp; refine hK _ _ ?_; clear hK K; try clear Q')
    refine wpList_nil ?_
    show Code.wp _ _ _ _ _
    refine wp_seq ?_
    refine wp_region_lit ?_
    -- stops at: eff:call (Go.Op.call {'callee': (Go.Callee.value (Go.Operand.func 13)), 'args': [], 'argTypes': []}) slot 17
    refine wpList_plainQ rfl (fun K Q' hK => ?_); go_simp
    refine (awake_ok H _ h0.fits htab).mono ?_
    rintro e wAw ⟨HAw, rfl, hpAw⟩
    have h1 := h0.call0 hpAw
    have htab_1 := htab.mono hpAw.le
    refine hK _ _ ?_; clear hK K; try clear Q'
    iterate 1 (refine wpList_plainQ rfl (fun K Q' hK => ?_); go_simp; refine hK _ _ ?_; clear hK K; try clear Q')
    refine wpList_nil ?_
    show Code.wp _ _ _ _ _
    refine wp_seq ?_
    refine wp_seq ?_
    repeat (first | simp only [List.nil_append] at h1 | simp only [List.cons_append] at h1 | simp only [List.set_cons_zero] at h1 | simp only [List.set_cons_succ] at h1 | simp only [List.eraseIdx_zero] at h1 | simp only [List.tail_cons] at h1 | simp only [List.eraseIdx_cons_zero] at h1 | simp only [List.eraseIdx_cons_succ] at h1 | simp only [List.setIfInBounds_toArray] at h1)
    refine wp_region_lit ?_
    iterate 2 (refine wpList_plainQ rfl (fun K Q' hK => ?_); go_simp; refine hK _ _ ?_; clear hK K; try clear Q')
    refine wpList_nil ?_
    show Code.wp _ _ _ _ _
    -- stops at: cond
    refine wp_cond_false (rfl) ?_
    refine wp_skip ?_
    show Code.wp _ _ _ _ _
    refine wp_seq ?_
    refine wp_region_lit ?_
    iterate 1 (refine wpList_plainQ rfl (fun K Q' hK => ?_); go_simp; refine hK _ _ ?_; clear hK K; try clear Q')
    -- stops at: eff:call (Go.Op.call {'callee': (Go.Callee.value (Go.Operand.func 21)), 'args': [(Go.Operand.tmp 20)], 'argTypes': [34]}) slot 21
    refine wpList_plainQ rfl (fun K Q' hK => ?_); go_simp
    refine (few_ok _ _ _ ls h1.fits ⟨hs.mono h1.le, fun a ha => (hok a ha).mono h1.le⟩).mono ?_
    rintro e wF ⟨rfl, hkF⟩
    rw [hfew]
    have h2 := h1.callk hkF
    refine hK _ _ ?_; clear hK K; try clear Q'
    iterate 1 (refine wpList_plainQ rfl (fun K Q' hK => ?_); go_simp; refine hK _ _ ?_; clear hK K; try clear Q')
    refine wpList_nil ?_
    show Code.wp _ _ _ _ _
    refine wp_seq ?_
    refine wp_seq ?_
    repeat (first | simp only [List.nil_append] at h2 | simp only [List.cons_append] at h2 | simp only [List.set_cons_zero] at h2 | simp only [List.set_cons_succ] at h2 | simp only [List.eraseIdx_zero] at h2 | simp only [List.tail_cons] at h2 | simp only [List.eraseIdx_cons_zero] at h2 | simp only [List.eraseIdx_cons_succ] at h2 | simp only [List.setIfInBounds_toArray] at h2)
    refine wp_region_lit ?_
    iterate 2 (refine wpList_plainQ rfl (fun K Q' hK => ?_); go_simp; refine hK _ _ ?_; clear hK K; try clear Q')
    refine wpList_nil ?_
    show Code.wp _ _ _ _ _
    -- stops at: cond
    refine wp_cond_false (rfl) ?_
    refine wp_skip ?_
    show Code.wp _ _ _ _ _
    refine wp_seq ?_
    refine wp_region_lit ?_
    -- stops at: eff:call (Go.Op.call {'callee': (Go.Callee.value (Go.Operand.func 22)), 'args': [], 'argTypes': []}) slot 24
    refine wpList_plainQ rfl (fun K Q' hK => ?_); go_simp
    refine (new_ok _ _ h2.fits).mono ?_
    rintro e wM ⟨bM, rfl, hkM, hbM, hoM⟩
    have hM := h2.callnew hkM hbM hoM rfl
    refine hK _ _ ?_; clear hK K; try clear Q'
    iterate 1 (refine wpList_plainQ rfl (fun K Q' hK => ?_); go_simp; refine hK _ _ ?_; clear hK K; try clear Q')
    refine wpList_nil ?_
    show Code.wp _ _ _ _ _
    refine wp_seq ?_
    repeat (first | simp only [List.nil_append] at hM | simp only [List.cons_append] at hM | simp only [List.set_cons_zero] at hM | simp only [List.set_cons_succ] at hM | simp only [List.eraseIdx_zero] at hM | simp only [List.tail_cons] at hM | simp only [List.eraseIdx_cons_zero] at hM | simp only [List.eraseIdx_cons_succ] at hM | simp only [List.setIfInBounds_toArray] at hM)
    refine wp_region_lit ?_
    iterate 1 (refine wpList_plainQ rfl (fun K Q' hK => ?_); go_simp; refine hK _ _ ?_; clear hK K; try clear Q')
    refine wpList_plainQ rfl (fun K Q' hK => ?_); go_simp
    refine hM.k_alloc (fun w3 h3 => ?_)
    refine hK _ _ ?_; clear hK K; try clear Q'
    iterate 1 (refine wpList_plainQ rfl (fun K Q' hK => ?_); go_simp; refine hK _ _ ?_; clear hK K; try clear Q')
    refine wpList_nil ?_
    show Code.wp _ _ _ _ _
    refine wp_seq ?_
    repeat (first | simp only [List.nil_append] at h3 | simp only [List.cons_append] at h3 | simp only [List.set_cons_zero] at h3 | simp only [List.set_cons_succ] at h3 | simp only [List.eraseIdx_zero] at h3 | simp only [List.tail_cons] at h3 | simp only [List.eraseIdx_cons_zero] at h3 | simp only [List.eraseIdx_cons_succ] at h3 | simp only [List.setIfInBounds_toArray] at h3)
    refine wp_region_lit ?_
    iterate 1 (refine wpList_plainQ rfl (fun K Q' hK => ?_); go_simp; refine hK _ _ ?_; clear hK K; try clear Q')
    refine wpList_plainQ rfl (fun K Q' hK => ?_); go_simp
    refine h3.k_alloc (fun w4 h4 => ?_)
    refine hK _ _ ?_; clear hK K; try clear Q'
    iterate 1 (refine wpList_plainQ rfl (fun K Q' hK => ?_); go_simp; refine hK _ _ ?_; clear hK K; try clear Q')
    refine wpList_nil ?_
    show Code.wp _ _ _ _ _
    refine wp_seq ?_
    repeat (first | simp only [List.nil_append] at h4 | simp only [List.cons_append] at h4 | simp only [List.set_cons_zero] at h4 | simp only [List.set_cons_succ] at h4 | simp only [List.eraseIdx_zero] at h4 | simp only [List.tail_cons] at h4 | simp only [List.eraseIdx_cons_zero] at h4 | simp only [List.eraseIdx_cons_succ] at h4 | simp only [List.setIfInBounds_toArray] at h4)
    refine wp_region_lit ?_
    refine wpList_plainQ rfl (fun K Q' hK => ?_); go_simp
    refine h4.k_alloc (fun w5 h5 => ?_)
    refine hK _ _ ?_; clear hK K; try clear Q'
    iterate 1 (refine wpList_plainQ rfl (fun K Q' hK => ?_); go_simp; refine hK _ _ ?_; clear hK K; try clear Q')
    refine wpList_nil ?_
    show Code.wp _ _ _ _ _
    refine wp_seq ?_
    refine wp_seq ?_
    repeat (first | simp only [List.nil_append] at h5 | simp only [List.cons_append] at h5 | simp only [List.set_cons_zero] at h5 | simp only [List.set_cons_succ] at h5 | simp only [List.eraseIdx_zero] at h5 | simp only [List.tail_cons] at h5 | simp only [List.eraseIdx_cons_zero] at h5 | simp only [List.eraseIdx_cons_succ] at h5 | simp only [List.setIfInBounds_toArray] at h5)
    refine wp_region_lit ?_
    iterate 1 (refine wpList_plainQ rfl (fun K Q' hK => ?_); go_simp; refine hK _ _ ?_; clear hK K; try clear Q')
    refine wpList_nil ?_
    show Code.wp _ _ _ _ _
    refine wp_block ?_
    -- stops at: loop
    repeat (first | simp only [List.nil_append] at h5 | simp only [List.cons_append] at h5 | simp only [List.set_cons_zero] at h5 | simp only [List.set_cons_succ] at h5 | simp only [List.eraseIdx_zero] at h5 | simp only [List.tail_cons] at h5 | simp only [List.eraseIdx_cons_zero] at h5 | simp only [List.eraseIdx_cons_succ] at h5 | simp only [List.setIfInBounds_toArray] at h5)
    have hR1 := h5.rowOf 1 rfl 1 1 rfl (by unfold maxLen; omega)
    have hR2 := hR1.rowOf 1 rfl 1 1 rfl (by unfold maxLen; omega)
    have hR3 := hR2.rowOf 1 rfl 1 1 rfl (by unfold maxLen; omega)
    obtain ⟨H2, hH2⟩ : ∃ H2, HAw = H2 := ⟨_, rfl⟩
    rw [hH2] at hR3
    clear hH2
    go_loopw [6, 7, 8, 9] (fun v6 v7 v8 v9 wr => CountInv w H H2 bM ls v6 v7 v8 v9 wr) (fun _ _ _ v9 _ => ls.length - (intOf v9).toNat)
    case atStart =>
      show CountInv _ _ _ _ _ _ _ _ _ _
      unfold CountInv
      refine ⟨0, [⟨none, none, .slice none 0 0, Hp.nil⟩], H2, 0, 0, by omega, rfl, rfl, GH.le_refl _, ?_, hR3⟩
      intro a ha
      obtain rfl := List.mem_singleton.1 ha
      exact ⟨HpR.nil _, HpR.nil _, SliceRep.nil _ _, by show Hp.size Hp.nil ≤ 150; rw [Hp.size_eq, Hp.els_nil]; simp⟩
    case round =>
      obtain ⟨k, ps, H3, c3, d3, hk, hpl, rfl, hle, hheld, hs1⟩ := hrel
      obtain ⟨g6, c6, rfl⟩ := hs1.row_some 0 rfl (by have := hpl.out; omega)
      obtain ⟨g7, c7, rfl⟩ := hs1.row_some 1 rfl (by have := hpl.out; omega)
      obtain ⟨g8, c8, rfl⟩ := hs1.row_some 2 rfl (by have := hpl.out; omega)
      by_cases hlt : k < ls.length
      · obtain ⟨bl, ol, _, e1, _⟩ := hs.ne_nil (by omega)
        simp only [Value.slice.injEq, true_and] at e1
        obtain ⟨rfl, rfl⟩ := e1
        have hg : ls[k]? = some ls[k] := by simp [hlt]
        obtain ⟨⟨kd, ta, tt, x, vl, ll⟩, hpl2⟩ : ∃ pl, Hid (ls[k] = pl) := ⟨ls[k], show _ = _ from rfl⟩
        rw [hpl2.out] at hg
        have hll := hl40 _ (List.mem_of_getElem? hg)
        have hpk := hok _ (List.mem_of_getElem? hg)
        obtain ⟨hkd, hta, htt, hxf, hel, hef⟩ := hpk
        simp only at hkd hta htt hxf hel hef hll
        have cl6 : Hid (∀ i z, i < 6 → (Play.cells ⟨kd, ta, tt, x, vl, ll⟩)[i]? = some z → ∀ W', Fits W' H → W'.cell? ⟨bl, ol + k * 6 + i, none⟩ = some z) := fun i z hi hu W' hF => by
          rw [Nat.add_assoc]; exact hs.cell hF (k * 6 + i) (by rw [play_get ls k _ hg i hi]; exact hu)
        have eta : IntKind.i64.wrap (ta : Int) = (ta : Int) := IntWalk.i64_in _ (by omega)
        have ett : IntKind.i64.wrap (tt : Int) = (tt : Int) := IntWalk.i64_in _ (by omega)
        have hp0 : 0 < ps.length := by have := hpl.out; omega
        have hp31 : ps.length ≤ 31 := by have := hpl.out; omega
        have hne : ¬ ps = [] := by rintro rfl; simp at hp0
        obtain ⟨ia, hia, hil⟩ : ∃ ia : Nat, (ta : Int).tmod (ps.length : Int) = (ia : Int) ∧ ia < ps.length := ⟨ta % ps.length, rfl, Nat.mod_lt _ hp0⟩
        obtain ⟨it, hit, hitl⟩ : ∃ it : Nat, (tt : Int).tmod (ps.length : Int) = (it : Int) ∧ it < ps.length := ⟨tt % ps.length, rfl, Nat.mod_lt _ hp0⟩
        obtain ⟨⟨qa, ra, va, tA⟩, hpa⟩ : ∃ p, ps[ia]? = some p := ⟨ps[ia], by simp [hil]⟩
        obtain ⟨⟨qb, rb, vb, tB⟩, hpb⟩ : ∃ p, ps[it]? = some p := ⟨ps[it], by simp [hitl]⟩
        obtain ⟨hqa, hra, hva, hza⟩ := hheld _ (List.mem_of_getElem? hpa)
        obtain ⟨hqb, hrb, hvb, hzb⟩ := hheld _ (List.mem_of_getElem? hpb)
        simp only at hqa hra hva hza hqb hrb hvb hzb
        have ga : (ps.map (fun a => Value.pointer a.p))[ia]? = some (.pointer qa) := by simp [hpa]
        have gb : (ps.map (fun a => Value.pointer a.p))[it]? = some (.pointer qb) := by simp [hpb]
        have ga1 : (ps.map (fun a => Value.pointer a.q))[ia]? = some (.pointer ra) := by simp [hpa]
        have gb1 : (ps.map (fun a => Value.pointer a.q))[it]? = some (.pointer rb) := by simp [hpb]
        have ga2 : (ps.map Trio.v)[ia]? = some va := by simp [hpa]
        have gb2 : (ps.map Trio.v)[it]? = some vb := by simp [hpb]
        obtain ⟨na, hna⟩ : ∃ n, Hid ((sortE (Hp.els tA)).length = n) := ⟨_, show _ = _ from rfl⟩
        obtain ⟨nb, hnb⟩ : ∃ n, Hid ((sortE (Hp.els tB)).length = n) := ⟨_, show _ = _ from rfl⟩
        have hsza : Hid (Hp.size tA = na) := by rw [← hna.out, sortE_length]; rfl
        have hszb : Hid (Hp.size tB = nb) := by rw [← hnb.out, sortE_length]; rfl
        have hnal : na ≤ 150 := by have := hsza.out; omega
        have hnbl : nb ≤ 150 := by have := hszb.out; omega
        obtain ⟨aa, capa, hvaE, _, _⟩ := hva.nil_or
        rw [hna.out] at hvaE
        subst hvaE
        obtain ⟨ab, capb, hvbE, _, _⟩ := hvb.nil_or
        rw [hnb.out] at hvbE
        subst hvbE
        obtain ⟨al, cpl, hvlE, _, _⟩ := hel.nil_or
        obtain ⟨nl, hnl⟩ : ∃ n, Hid (ll.length = n) := ⟨_, show _ = _ from rfl⟩
        rw [hnl.out] at hvlE hll
        subst hvlE
        obtain ⟨nab, hnab⟩ : ∃ n, Hid (na + nb = n) := ⟨_, show _ = _ from rfl⟩
        have e6 : IntKind.i64.wrap ((na : Int) + (nb : Int)) = (nab : Int) := by have := hnab.out; rw [IntWalk.i64_in _ (by omega)]; omega
        have e5 : IntKind.i64.wrap ((k : Int) + 1) = (k : Int) + 1 := IntWalk.i64_in _ (by omega)
        refine wp_seq ?_
        refine wp_seq ?_
        repeat (first | simp only [List.nil_append] at hs1 | simp only [List.cons_append] at hs1 | simp only [List.set_cons_zero] at hs1 | simp only [List.set_cons_succ] at hs1 | simp only [List.eraseIdx_zero] at hs1 | simp only [List.tail_cons] at hs1 | simp only [List.eraseIdx_cons_zero] at hs1 | simp only [List.eraseIdx_cons_succ] at hs1 | simp only [List.setIfInBounds_toArray] at hs1)
        refine wp_region_lit ?_
        iterate 4 (refine wpList_plainQ rfl (fun K Q' hK => ?_); go_simp; refine hK _ _ ?_; clear hK K; try clear Q')
        refine wpList_nil ?_
        show Code.wp _ _ _ _ _
        -- stops at: cond
        refine wp_cond_true (rfl) ?_
        refine wp_skip ?_
        show Code.wp _ _ _ _ _
        refine wp_seq ?_
        refine wp_block ?_
        refine wp_seq ?_
        refine wp_region_lit ?_
        iterate 4 (refine wpList_plainQ rfl (fun K Q' hK => ?_); go_simp; refine hK _ _ ?_; clear hK K; try clear Q')
        -- stops at: load (Go.Op.load 5 (Go.Operand.tmp 39)) slot 40
        have ce := cl6.out 1 _ (by omega) rfl _ (hs1.fits.le hs1.le)
        iterate 1 (refine wpList_plainQ rfl (fun K Q' hK => ?_); go_simp; refine hK _ _ ?_; clear hK K; try clear Q')
        iterate 5 (refine wpList_plainQ rfl (fun K Q' hK => ?_); go_simp; refine hK _ _ ?_; clear hK K; try clear Q')
        refine wpList_nil ?_
        show Code.wp _ _ _ _ _
        refine wp_seq ?_
        refine wp_region_lit ?_
        iterate 4 (refine wpList_plainQ rfl (fun K Q' hK => ?_); go_simp; refine hK _ _ ?_; clear hK K; try clear Q')
        -- stops at: load (Go.Op.load 5 (Go.Operand.tmp 48)) slot 49
        have ce := cl6.out 2 _ (by omega) rfl _ (hs1.fits.le hs1.le)
        iterate 1 (refine wpList_plainQ rfl (fun K Q' hK => ?_); go_simp; refine hK _ _ ?_; clear hK K; try clear Q')
        clear ce
        iterate 5 (refine wpList_plainQ rfl (fun K Q' hK => ?_); go_simp; refine hK _ _ ?_; clear hK K; try clear Q')
        refine wpList_nil ?_
        show Code.wp _ _ _ _ _
        refine wp_seq ?_
        refine wp_seq ?_
        refine hs1.regionR [] [2] [(0, true), (1, true), (2, true), (3, true), (4, true), (5, true), (6, true), (7, true), (8, true), (9, true), (10, true), (11, true)] (by kernel_rfl) (by kernel_rfl) (fun w6 h6 => ?_)
        refine wpOrd_hide (fun _ _ d _ _ h => by cases d <;> exact h) (fun QR hQn hQp => ?_)
        simp only [ordOps, List.map_cons, List.map_nil, List.getD_cons_zero, List.getD_cons_succ]
        iterate 3 (refine wpOrd_quiet (v := ?_) rfl (fun _ _ _ => hQp _ _ _ _ _) ?_ ?_; rotate_left; (intro w' hS; (first | (go_simp; done) | (go_simp; with_reducible rfl))); simp only [Act.put, List.setIfInBounds_toArray, List.set_cons_zero, List.set_cons_succ])
        -- stops at: load (Go.Op.load 22 (Go.Operand.tmp 56)) slot 57
        iterate 1 (refine wpOrd_quiet (v := ?_) rfl (fun _ _ _ => hQp _ _ _ _ _) ?_ ?_; rotate_left; (intro w' hS; have ce := hS.rowcell 0 rfl ia ga2; (first | (go_simp; done) | (go_simp; with_reducible rfl))); simp only [Act.put, List.setIfInBounds_toArray, List.set_cons_zero, List.set_cons_succ])
        iterate 4 (refine wpOrd_quiet (v := ?_) rfl (fun _ _ _ => hQp _ _ _ _ _) ?_ ?_; rotate_left; (intro w' hS; (first | (go_simp; done) | (go_simp; with_reducible rfl))); simp only [Act.put, List.setIfInBounds_toArray, List.set_cons_zero, List.set_cons_succ])
        -- stops at: load (Go.Op.load 22 (Go.Operand.tmp 61)) slot 62
        iterate 1 (refine wpOrd_quiet (v := ?_) rfl (fun _ _ _ => hQp _ _ _ _ _) ?_ ?_; rotate_left; (intro w' hS; have ce := hS.rowcell 0 rfl it gb2; (first | (go_simp; done) | (go_simp; with_reducible rfl))); simp only [Act.put, List.setIfInBounds_toArray, List.set_cons_zero, List.set_cons_succ])
        iterate 3 (refine wpOrd_quiet (v := ?_) rfl (fun _ _ _ => hQp _ _ _ _ _) ?_ ?_; rotate_left; (intro w' hS; (first | (go_simp; done) | (go_simp; with_reducible rfl))); simp only [Act.put, List.setIfInBounds_toArray, List.set_cons_zero, List.set_cons_succ])
        refine wpOrd_nil (hQn _ _ ?_); clear hQn hQp QR
        show Code.wp _ _ _ _ _
        -- stops at: cond
        by_cases hsum : nab ≤ 120
        · have d1 : decide ((120 : Int) < (nab : Int)) = false := decide_eq_false (by omega)
          have hs120 : Hp.size tA + Hp.size tB ≤ 120 := by have := hsza.out; have := hszb.out; have := hnab.out; omega
          refine wp_cond_false (congrArg Value.bool d1) ?_
          refine wp_skip ?_
          show Code.wp _ _ _ _ _
          refine wp_seq ?_
          repeat (first | simp only [List.nil_append] at h6 | simp only [List.cons_append] at h6 | simp only [List.set_cons_zero] at h6 | simp only [List.set_cons_succ] at h6 | simp only [List.eraseIdx_zero] at h6 | simp only [List.tail_cons] at h6 | simp only [List.eraseIdx_cons_zero] at h6 | simp only [List.eraseIdx_cons_succ] at h6 | simp only [List.setIfInBounds_toArray] at h6)
          refine wp_region_lit ?_
          iterate 3 (refine wpList_plainQ rfl (fun K Q' hK => ?_); go_simp; refine hK _ _ ?_; clear hK K; try clear Q')
          -- stops at: load (Go.Op.load 26 (Go.Operand.tmp 68)) slot 69
          have ce := h6.rowcell 0 rfl ia ga
          iterate 1 (refine wpList_plainQ rfl (fun K Q' hK => ?_); go_simp; refine hK _ _ ?_; clear hK K; try clear Q')
          refine wpList_plainQ rfl (fun K Q' hK => ?_); go_simp
          refine h6.k_alloc (fun w7 h7 => ?_)
          refine hK _ _ ?_; clear hK K; try clear Q'
          have c_0 := h7.cell 1 rfl 0 rfl
          have f_0 := h7.free 1 rfl 0
          refine wpList_plainQ rfl (fun K Q' hK => ?_); go_simp
          clear c_0 f_0
          refine h7.k_set 1 rfl (fun w8 h8 => ?_)
          refine hK _ _ ?_; clear hK K; try clear Q'
          refine wpList_nil ?_
          show Code.wp _ _ _ _ _
          refine wp_seq ?_
          repeat (first | simp only [List.nil_append] at h8 | simp only [List.cons_append] at h8 | simp only [List.set_cons_zero] at h8 | simp only [List.set_cons_succ] at h8 | simp only [List.eraseIdx_zero] at h8 | simp only [List.tail_cons] at h8 | simp only [List.eraseIdx_cons_zero] at h8 | simp only [List.eraseIdx_cons_succ] at h8 | simp only [List.setIfInBounds_toArray] at h8)
          refine wp_region_lit ?_
          iterate 3 (refine wpList_plainQ rfl (fun K Q' hK => ?_); go_simp; refine hK _ _ ?_; clear hK K; try clear Q')
          -- stops at: load (Go.Op.load 26 (Go.Operand.tmp 72)) slot 73
          have ce := h8.rowcell 1 rfl ia ga1
          iterate 1 (refine wpList_plainQ rfl (fun K Q' hK => ?_); go_simp; refine hK _ _ ?_; clear hK K; try clear Q')
          refine wpList_plainQ rfl (fun K Q' hK => ?_); go_simp
          refine h8.k_alloc (fun w9 h9 => ?_)
          refine hK _ _ ?_; clear hK K; try clear Q'
          have c_0 := h9.cell 2 rfl 0 rfl
          have f_0 := h9.free 2 rfl 0
          refine wpList_plainQ rfl (fun K Q' hK => ?_); go_simp
          clear c_0 f_0
          refine h9.k_set 2 rfl (fun w10 h10 => ?_)
          refine hK _ _ ?_; clear hK K; try clear Q'
          refine wpList_nil ?_
          show Code.wp _ _ _ _ _
          refine wp_seq ?_
          repeat (first | simp only [List.nil_append] at h10 | simp only [List.cons_append] at h10 | simp only [List.set_cons_zero] at h10 | simp only [List.set_cons_succ] at h10 | simp only [List.eraseIdx_zero] at h10 | simp only [List.tail_cons] at h10 | simp only [List.eraseIdx_cons_zero] at h10 | simp only [List.eraseIdx_cons_succ] at h10 | simp only [List.setIfInBounds_toArray] at h10)
          refine wp_region_lit ?_
          iterate 3 (refine wpList_plainQ rfl (fun K Q' hK => ?_); go_simp; refine hK _ _ ?_; clear hK K; try clear Q')
          -- stops at: load (Go.Op.load 22 (Go.Operand.tmp 76)) slot 77
          have ce := h10.rowcell 2 rfl ia ga2
          iterate 1 (refine wpList_plainQ rfl (fun K Q' hK => ?_); go_simp; refine hK _ _ ?_; clear hK K; try clear Q')
          iterate 1 (refine wpList_plainQ rfl (fun K Q' hK => ?_); go_simp; refine hK _ _ ?_; clear hK K; try clear Q')
          refine wpList_nil ?_
          show Code.wp _ _ _ _ _
          refine wp_seq ?_
          refine wp_seq ?_
          refine wp_region_lit ?_
          iterate 4 (refine wpList_plainQ rfl (fun K Q' hK => ?_); go_simp; refine hK _ _ ?_; clear hK K; try clear Q')
          -- stops at: load (Go.Op.load 5 (Go.Operand.tmp 81)) slot 82
          have ce := cl6.out 0 _ (by omega) rfl _ (h10.fits.le h10.le)
          simp only [Nat.add_zero] at ce
          iterate 1 (refine wpList_plainQ rfl (fun K Q' hK => ?_); go_simp; refine hK _ _ ?_; clear hK K; try clear Q')
          refine wpList_nil ?_
          show Code.wp _ _ _ _ _
          refine wp_block ?_
          refine wp_seq ?_
          refine wp_region_lit ?_
          clear ce
          by_cases hk0 : kd = 0
          · subst hk0
            as_aux_lemma =>
            have sN : sortE (Hp.els (Hp.insert x tA)) = putE (sortE (Hp.els tA)) x := (sortE_congr (Hp.els_insert x hqa.ok)).trans (putE_sort _ _).symm
            have szN : Hp.size (Hp.insert x tA) ≤ 150 := by have := Hp.size_insert x hqa.ok; omega
            iterate 2 (refine wpList_plainQ rfl (fun K Q' hK => ?_); go_simp; refine hK _ _ ?_; clear hK K; try clear Q')
            refine wpList_nil ?_
            show Code.wp _ _ _ _ _
            -- stops at: cond
            refine wp_cond_true (rfl) ?_
            refine wp_seq ?_
            refine h10.region [] [(1, true), (2, true), (3, true), (4, true), (5, true), (6, true), (0, false), (7, false), (8, false)] (by kernel_rfl) (by kernel_rfl) (fun w11 h11 => ?_)
            refine wpOrd_hide (fun _ _ d _ _ h => by cases d <;> exact h) (fun QR hQn hQp => ?_)
            simp only [ordOps, List.map_cons, List.map_nil, List.getD_cons_zero, List.getD_cons_succ]
            iterate 5 (refine wpOrd_quiet (v := ?_) rfl (fun _ _ _ => hQp _ _ _ _ _) ?_ ?_; rotate_left; (intro w' hS; (first | (go_simp; done) | (go_simp; with_reducible rfl))); simp only [Act.put, List.setIfInBounds_toArray, List.set_cons_zero, List.set_cons_succ])
            -- stops at: load (Go.Op.load 41 (Go.Operand.tmp 109)) slot 110
            iterate 1 (refine wpOrd_quiet (v := ?_) rfl (fun _ _ _ => hQp _ _ _ _ _) ?_ ?_; rotate_left; (intro w' hS; have ce := cl6.out 3 _ (by omega) rfl _ (hS.1.le h11.le); have ce4 := cl6.out 4 _ (by omega) rfl _ (hS.1.le h11.le); (first | (go_simp; done) | (go_simp; with_reducible rfl))); simp only [Act.put, List.setIfInBounds_toArray, List.set_cons_zero, List.set_cons_succ])
            have c_1_0 := h11.cell 1 rfl 0 rfl
            refine wpOrd_effQ rfl (fun K Q' hK => ?_); go_simp
            refine hK _ _ (h11.sat' (GH.le_refl _) [] (sel_nil2 _ _)) ?_; clear hK K; try clear Q'
            clear c_1_0
            -- stops at: eff:call (Go.Op.call {'callee': (Go.Callee.value (Go.Operand.func 23)), 'args': [(Go.Operand.tmp 104), (Go.Operand.tmp 105), (Go.Operand.tmp 110)], 'argTypes': [26, 36,  slot 111
            refine wpOrd_effQ rfl (fun K Q' hK => ?_); go_simp
            refine (hinsert_ok (m := some bM) x hxf (h11.pre_at (i := 0) rfl) (by omega) hqa).mono ?_
            rintro e wP ⟨r1, H4, rfl, hpP, hN1⟩
            have h12 := h11.call_at (i := 0) rfl hpP
            refine hK _ _ (h12.sat' hpP.le [] (sel_nil2 _ _)) ?_; clear hK K; try clear Q'
            have c_0 := h12.cell 1 rfl 0 rfl
            have f_0 := h12.free 1 rfl 0
            refine wpOrd_effQ rfl (fun K Q' hK => ?_); go_simp
            clear c_0 f_0
            refine h12.k_set 1 rfl (fun w13 h13 => ?_)
            refine hK _ _ (h13.sat' hpP.le [] (sel_nil2 _ _)) ?_; clear hK K; try clear Q'
            refine wpOrd_nil (hQn _ _ ?_); clear hQn hQp QR
            show Code.wp _ _ _ _ _
            refine wp_seq ?_
            repeat (first | simp only [List.nil_append] at h13 | simp only [List.cons_append] at h13 | simp only [List.set_cons_zero] at h13 | simp only [List.set_cons_succ] at h13 | simp only [List.eraseIdx_zero] at h13 | simp only [List.tail_cons] at h13 | simp only [List.eraseIdx_cons_zero] at h13 | simp only [List.eraseIdx_cons_succ] at h13 | simp only [List.setIfInBounds_toArray] at h13)
            refine h13.region [] [(1, true), (2, true), (3, true), (4, true), (5, true), (0, false), (6, false), (7, false)] (by kernel_rfl) (by kernel_rfl) (fun w14 h14 => ?_)
            refine wpOrd_hide (fun _ _ d _ _ h => by cases d <;> exact h) (fun QR hQn hQp => ?_)
            simp only [ordOps, List.map_cons, List.map_nil, List.getD_cons_zero, List.getD_cons_succ]
            iterate 4 (refine wpOrd_quiet (v := ?_) rfl (fun _ _ _ => hQp _ _ _ _ _) ?_ ?_; rotate_left; (intro w' hS; (first | (go_simp; done) | (go_simp; with_reducible rfl))); simp only [Act.put, List.setIfInBounds_toArray, List.set_cons_zero, List.set_cons_succ])
            -- stops at: load (Go.Op.load 41 (Go.Operand.tmp 116)) slot 117
            iterate 1 (refine wpOrd_quiet (v := ?_) rfl (fun _ _ _ => hQp _ _ _ _ _) ?_ ?_; rotate_left; (intro w' hS; have ce := cl6.out 3 _ (by omega) rfl _ (hS.1.le h14.le); have ce4 := cl6.out 4 _ (by omega) rfl _ (hS.1.le h14.le); (first | (go_simp; done) | (go_simp; with_reducible rfl))); simp only [Act.put, List.setIfInBounds_toArray, List.set_cons_zero, List.set_cons_succ])
            have c_2_0 := h14.cell 2 rfl 0 rfl
            refine wpOrd_effQ rfl (fun K Q' hK => ?_); go_simp
            refine hK _ _ (h14.sat' (GH.le_refl _) [] (sel_nil2 _ _)) ?_; clear hK K; try clear Q'
            clear c_2_0
            -- stops at: eff:call (Go.Op.call {'callee': (Go.Callee.value (Go.Operand.func 23)), 'args': [(Go.Operand.tmp 112), (Go.Operand.const (Go.Value.pointer none)), (Go.Operand.tmp 117)], slot 118
            refine wpOrd_effQ rfl (fun K Q' hK => ?_); go_simp
            refine (hinsert_ok (m := none) x hxf h14.pre (by omega) (hra.mono hpP.le)).mono ?_
            rintro e wQ ⟨r2, H5, rfl, hpQ, hN2⟩
            have h15 := h14.call0 hpQ
            refine hK _ _ (h15.sat' hpQ.le [] (sel_nil2 _ _)) ?_; clear hK K; try clear Q'
            have c_0 := h15.cell 2 rfl 0 rfl
            have f_0 := h15.free 2 rfl 0
            refine wpOrd_effQ rfl (fun K Q' hK => ?_); go_simp
            clear c_0 f_0
            refine h15.k_set 2 rfl (fun w16 h16 => ?_)
            refine hK _ _ (h16.sat' hpQ.le [] (sel_nil2 _ _)) ?_; clear hK K; try clear Q'
            refine wpOrd_nil (hQn _ _ ?_); clear hQn hQp QR
            show Code.wp _ _ _ _ _
            repeat (first | simp only [List.nil_append] at h16 | simp only [List.cons_append] at h16 | simp only [List.set_cons_zero] at h16 | simp only [List.set_cons_succ] at h16 | simp only [List.eraseIdx_zero] at h16 | simp only [List.tail_cons] at h16 | simp only [List.eraseIdx_cons_zero] at h16 | simp only [List.eraseIdx_cons_succ] at h16 | simp only [List.setIfInBounds_toArray] at h16)
            refine wp_region_lit ?_
            iterate 5 (refine wpList_plainQ rfl (fun K Q' hK => ?_); go_simp; refine hK _ _ ?_; clear hK K; try clear Q')
            -- stops at: load (Go.Op.load 41 (Go.Operand.tmp 123)) slot 124
            have ce := cl6.out 3 _ (by omega) rfl _ (h16.fits.le h16.le)
            have ce4 := cl6.out 4 _ (by omega) rfl _ (h16.fits.le h16.le)
            iterate 1 (refine wpList_plainQ rfl (fun K Q' hK => ?_); go_simp; refine hK _ _ ?_; clear hK K; try clear Q')
            clear ce ce4
            -- stops at: eff:call (Go.Op.call {'callee': (Go.Callee.value (Go.Operand.func 24)), 'args': [(Go.Operand.tmp 119), (Go.Operand.tmp 124)], 'argTypes': [22, 41]}) slot 125
            refine wpList_plainQ rfl (fun K Q' hK => ?_); go_simp
            refine (rput_ok _ _ _ (sortE (Hp.els tA)) x (by rw [hna.out]; omega) h16.fits (hva.mono (hpP.le.trans hpQ.le))).mono ?_
            rintro e wR ⟨v5, H6, rfl, hpR, hN3⟩
            obtain ⟨n5, hn5⟩ : ∃ n, Hid ((putE (sortE (Hp.els tA)) x).length = n) := ⟨_, show _ = _ from rfl⟩
            obtain ⟨a5, c5, hv5, _, _⟩ := hN3.nil_or
            rw [hn5.out] at hv5
            subst hv5
            have h17 := h16.call0 hpR
            refine hK _ _ ?_; clear hK K; try clear Q'
            iterate 1 (refine wpList_plainQ rfl (fun K Q' hK => ?_); go_simp; refine hK _ _ ?_; clear hK K; try clear Q')
            refine wpList_nil ?_
            show Code.wp _ _ _ _ _
            refine wp_seq ?_
            repeat (first | simp only [List.nil_append] at h17 | simp only [List.cons_append] at h17 | simp only [List.set_cons_zero] at h17 | simp only [List.set_cons_succ] at h17 | simp only [List.eraseIdx_zero] at h17 | simp only [List.tail_cons] at h17 | simp only [List.eraseIdx_cons_zero] at h17 | simp only [List.eraseIdx_cons_succ] at h17 | simp only [List.setIfInBounds_toArray] at h17)
            refine wp_region_lit ?_
            have c_1_0 := h17.cell 1 rfl 0 rfl
            iterate 2 (refine wpList_plainQ rfl (fun K Q' hK => ?_); go_simp; refine hK _ _ ?_; clear hK K; try clear Q')
            clear c_1_0
            refine wpList_plainQ rfl (fun K Q' hK => ?_); go_simp
            refine h17.k_alloc (fun w18 h18 => ?_)
            refine hK _ _ ?_; clear hK K; try clear Q'
            -- stops at: eff:Builtin.append (Go.Op.call {'callee': (Go.Callee.builtin Go.Builtin.append), 'args': [(Go.Operand.tmp 165), (Go.Operand.tmp 167)], 'argTypes': [38, 38]}) slot 168
            refine wpList_plainQ rfl (fun K Q' hK => ?_)
            refine h18.op_append 0 rfl rfl infoHp rfl [Value.pointer r1] rfl rfl (fun j u hj => ?_) (by simp [Value.oneCell']) (by omega) (by unfold maxLen; omega) (fun v0 wY0 hY0 oY0 hnY0 => ?_)
            · match j, hj with
              | 0, hj => exact h18.cell 3 rfl 0 hj
            refine hK _ _ ?_; clear hK K; try clear Q'
            iterate 1 (refine wpList_plainQ rfl (fun K Q' hK => ?_); go_simp; refine hK _ _ ?_; clear hK K; try clear Q')
            refine wpList_nil ?_
            show Code.wp _ _ _ _ _
            refine wp_seq ?_
            repeat (first | simp only [List.nil_append] at hY0 | simp only [List.cons_append] at hY0 | simp only [List.set_cons_zero] at hY0 | simp only [List.set_cons_succ] at hY0 | simp only [List.eraseIdx_zero] at hY0 | simp only [List.tail_cons] at hY0 | simp only [List.eraseIdx_cons_zero] at hY0 | simp only [List.eraseIdx_cons_succ] at hY0 | simp only [List.setIfInBounds_toArray] at hY0)
            refine wp_region_lit ?_
            have c_2_0 := hY0.cell 2 rfl 0 rfl
            iterate 2 (refine wpList_plainQ rfl (fun K Q' hK => ?_); go_simp; refine hK _ _ ?_; clear hK K; try clear Q')
            clear c_2_0
            refine wpList_plainQ rfl (fun K Q' hK => ?_); go_simp
            refine hY0.k_alloc (fun w19 h19 => ?_)
            refine hK _ _ ?_; clear hK K; try clear Q'
            -- stops at: eff:Builtin.append (Go.Op.call {'callee': (Go.Callee.builtin Go.Builtin.append), 'args': [(Go.Operand.tmp 169), (Go.Operand.tmp 171)], 'argTypes': [38, 38]}) slot 172
            refine wpList_plainQ rfl (fun K Q' hK => ?_)
            refine h19.op_append 1 rfl rfl infoHp rfl [Value.pointer r2] rfl rfl (fun j u hj => ?_) (by simp [Value.oneCell']) (by omega) (by unfold maxLen; omega) (fun v1 wY1 hY1 oY1 hnY1 => ?_)
            · match j, hj with
              | 0, hj => exact h19.cell 4 rfl 0 hj
            refine hK _ _ ?_; clear hK K; try clear Q'
            iterate 1 (refine wpList_plainQ rfl (fun K Q' hK => ?_); go_simp; refine hK _ _ ?_; clear hK K; try clear Q')
            refine wpList_nil ?_
            show Code.wp _ _ _ _ _
            repeat (first | simp only [List.nil_append] at hY1 | simp only [List.cons_append] at hY1 | simp only [List.set_cons_zero] at hY1 | simp only [List.set_cons_succ] at hY1 | simp only [List.eraseIdx_zero] at hY1 | simp only [List.tail_cons] at hY1 | simp only [List.eraseIdx_cons_zero] at hY1 | simp only [List.eraseIdx_cons_succ] at hY1 | simp only [List.setIfInBounds_toArray] at hY1)
            refine wp_region_lit ?_
            iterate 2 (refine wpList_plainQ rfl (fun K Q' hK => ?_); go_simp; refine hK _ _ ?_; clear hK K; try clear Q')
            refine wpList_plainQ rfl (fun K Q' hK => ?_); go_simp
            refine hY1.k_alloc (fun w20 h20 => ?_)
            refine hK _ _ ?_; clear hK K; try clear Q'
            -- stops at: eff:Builtin.append (Go.Op.call {'callee': (Go.Callee.builtin Go.Builtin.append), 'args': [(Go.Operand.tmp 173), (Go.Operand.tmp 175)], 'argTypes': [39, 39]}) slot 176
            refine wpList_plainQ rfl (fun K Q' hK => ?_)
            refine h20.op_append 2 rfl rfl infoSets rfl [(Value.slice a5 n5 c5)] rfl rfl (fun j u hj => ?_) (by simp [Value.oneCell']) (by omega) (by unfold maxLen; omega) (fun v2 wY2 hY2 oY2 hnY2 => ?_)
            · match j, hj with
              | 0, hj => exact h20.cell 5 rfl 0 hj
            refine hK _ _ ?_; clear hK K; try clear Q'
            iterate 1 (refine wpList_plainQ rfl (fun K Q' hK => ?_); go_simp; refine hK _ _ ?_; clear hK K; try clear Q')
            refine wpList_nil ?_
            show Code.wp _ _ _ _ _
            repeat (first | simp only [List.nil_append] at hY2 | simp only [List.cons_append] at hY2 | simp only [List.set_cons_zero] at hY2 | simp only [List.set_cons_succ] at hY2 | simp only [List.eraseIdx_zero] at hY2 | simp only [List.tail_cons] at hY2 | simp only [List.eraseIdx_cons_zero] at hY2 | simp only [List.eraseIdx_cons_succ] at hY2 | simp only [List.setIfInBounds_toArray] at hY2)
            refine wp_region_lit ?_
            iterate 3 (refine wpList_plainQ rfl (fun K Q' hK => ?_); go_simp; refine hK _ _ ?_; clear hK K; try clear Q')
            refine wpList_nil ?_
            -- stops at: end ('roundend',)
            show _ ∧ _
            go_roundw
            case rel =>
              show CountInv _ _ _ _ _ _ _ _ _ _
              unfold CountInv
              refine ⟨k + 1, ps ++ [⟨r1, r2, (Value.slice a5 n5 c5), (Hp.insert x tA)⟩], H6, (c3 + (Hp.insC x tA : Nat)), (d3 + (Hp.insD x tA : Nat)), by omega, ?_, by simp, hle.trans (hpP.le.trans (hpQ.le.trans hpR.le)), (hheld.mono (hpP.le.trans (hpQ.le.trans hpR.le))).snoc (hN1.mono (hpQ.le.trans hpR.le)) (hN2.mono hpR.le) (by rw [sN]; exact hN3) szN, ?_⟩
              · show (ps ++ _).length = _
                have := hpl.out
                simp; omega
              · rw [List.length_append, List.map_append, List.map_append, List.map_append]
                exact hY2.take 1
            case measure => simp [intOf]; omega
          by_cases hk1 : kd = 1
          · subst hk1
            as_aux_lemma =>
            have sN : sortE (Hp.els (Hp.meld tA tB)) = sumE (sortE (Hp.els tA)) (sortE (Hp.els tB)) := (sortE_congr (Hp.els_meld hqa.ok hqb.ok)).trans (sumE_sort2 _ _).symm
            have szN : Hp.size (Hp.meld tA tB) ≤ 150 := by have := Hp.size_meld hqa.ok hqb.ok; omega
            iterate 2 (refine wpList_plainQ rfl (fun K Q' hK => ?_); go_simp; refine hK _ _ ?_; clear hK K; try clear Q')
            refine wpList_nil ?_
            show Code.wp _ _ _ _ _
            -- stops at: cond
            refine wp_cond_false (rfl) ?_
            refine wp_seq ?_
            refine wp_region_lit ?_
            iterate 2 (refine wpList_plainQ rfl (fun K Q' hK => ?_); go_simp; refine hK _ _ ?_; clear hK K; try clear Q')
            refine wpList_nil ?_
            show Code.wp _ _ _ _ _
            -- stops at: cond
            refine wp_cond_true (rfl) ?_
            refine wp_seq ?_
            refine h10.regionR [] [0] [(1, true), (2, true), (3, true), (4, true), (5, true), (0, false), (6, false), (7, false)] (by kernel_rfl) (by kernel_rfl) (fun w21 h21 => ?_)
            refine wpOrd_hide (fun _ _ d _ _ h => by cases d <;> exact h) (fun QR hQn hQp => ?_)
            simp only [ordOps, List.map_cons, List.map_nil, List.getD_cons_zero, List.getD_cons_succ]
            iterate 4 (refine wpOrd_quiet (v := ?_) rfl (fun _ _ _ => hQp _ _ _ _ _) ?_ ?_; rotate_left; (intro w' hS; (first | (go_simp; done) | (go_simp; with_reducible rfl))); simp only [Act.put, List.setIfInBounds_toArray, List.set_cons_zero, List.set_cons_succ])
            -- stops at: load (Go.Op.load 26 (Go.Operand.tmp 132)) slot 133
            iterate 1 (refine wpOrd_quiet (v := ?_) rfl (fun _ _ _ => hQp _ _ _ _ _) ?_ ?_; rotate_left; (intro w' hS; have ce := hS.rowcell 0 rfl it gb; (first | (go_simp; done) | (go_simp; with_reducible rfl))); simp only [Act.put, List.setIfInBounds_toArray, List.set_cons_zero, List.set_cons_succ])
            have c_1_0 := h21.cell 1 rfl 0 rfl
            refine wpOrd_effQ rfl (fun K Q' hK => ?_); go_simp
            refine hK _ _ (h21.satR' (GH.le_refl _) [] [0] (sel_nil2 _ _) (by kernel_rfl)) ?_; clear hK K; try clear Q'
            clear c_1_0
            -- stops at: eff:call (Go.Op.call {'callee': (Go.Callee.value (Go.Operand.func 15)), 'args': [(Go.Operand.tmp 128), (Go.Operand.tmp 129), (Go.Operand.tmp 133)], 'argTypes': [26, 36,  slot 134
            refine wpOrd_effQ rfl (fun K Q' hK => ?_); go_simp
            refine (hmeld_ok (m := some bM) (h21.pre_at (i := 0) rfl) (by omega) hqa hqb).mono ?_
            rintro e wP ⟨r1, H4, rfl, hpP, hN1⟩
            have h22 := h21.call_at (i := 0) rfl hpP
            refine hK _ _ (h22.satR' hpP.le [] [0] (sel_nil2 _ _) (by kernel_rfl)) ?_; clear hK K; try clear Q'
            have c_0 := h22.cell 1 rfl 0 rfl
            have f_0 := h22.free 1 rfl 0
            refine wpOrd_effQ rfl (fun K Q' hK => ?_); go_simp
            clear c_0 f_0
            refine h22.k_set 1 rfl (fun w23 h23 => ?_)
            refine hK _ _ (h23.satR' hpP.le [] [0] (sel_nil2 _ _) (by kernel_rfl)) ?_; clear hK K; try clear Q'
            refine wpOrd_nil (hQn _ _ ?_); clear hQn hQp QR
            show Code.wp _ _ _ _ _
            refine wp_seq ?_
            repeat (first | simp only [List.nil_append] at h23 | simp only [List.cons_append] at h23 | simp only [List.set_cons_zero] at h23 | simp only [List.set_cons_succ] at h23 | simp only [List.eraseIdx_zero] at h23 | simp only [List.tail_cons] at h23 | simp only [List.eraseIdx_cons_zero] at h23 | simp only [List.eraseIdx_cons_succ] at h23 | simp only [List.setIfInBounds_toArray] at h23)
            refine h23.regionR [] [1] [(1, true), (2, true), (3, true), (4, true), (0, false), (5, false), (6, false)] (by kernel_rfl) (by kernel_rfl) (fun w24 h24 => ?_)
            refine wpOrd_hide (fun _ _ d _ _ h => by cases d <;> exact h) (fun QR hQn hQp => ?_)
            simp only [ordOps, List.map_cons, List.map_nil, List.getD_cons_zero, List.getD_cons_succ]
            iterate 3 (refine wpOrd_quiet (v := ?_) rfl (fun _ _ _ => hQp _ _ _ _ _) ?_ ?_; rotate_left; (intro w' hS; (first | (go_simp; done) | (go_simp; with_reducible rfl))); simp only [Act.put, List.setIfInBounds_toArray, List.set_cons_zero, List.set_cons_succ])
            -- stops at: load (Go.Op.load 26 (Go.Operand.tmp 138)) slot 139
            iterate 1 (refine wpOrd_quiet (v := ?_) rfl (fun _ _ _ => hQp _ _ _ _ _) ?_ ?_; rotate_left; (intro w' hS; have ce := hS.rowcell 0 rfl it gb1; (first | (go_simp; done) | (go_simp; with_reducible rfl))); simp only [Act.put, List.setIfInBounds_toArray, List.set_cons_zero, List.set_cons_succ])
            have c_2_0 := h24.cell 2 rfl 0 rfl
            refine wpOrd_effQ rfl (fun K Q' hK => ?_); go_simp
            refine hK _ _ (h24.satR' (GH.le_refl _) [] [1] (sel_nil2 _ _) (by kernel_rfl)) ?_; clear hK K; try clear Q'
            clear c_2_0
            -- stops at: eff:call (Go.Op.call {'callee': (Go.Callee.value (Go.Operand.func 15)), 'args': [(Go.Operand.tmp 135), (Go.Operand.const (Go.Value.pointer none)), (Go.Operand.tmp 139)], slot 140
            refine wpOrd_effQ rfl (fun K Q' hK => ?_); go_simp
            refine (hmeld_ok (m := none) h24.pre (by omega) (hra.mono hpP.le) (hrb.mono hpP.le)).mono ?_
            rintro e wQ ⟨r2, H5, rfl, hpQ, hN2⟩
            have h25 := h24.call0 hpQ
            refine hK _ _ (h25.satR' hpQ.le [] [1] (sel_nil2 _ _) (by kernel_rfl)) ?_; clear hK K; try clear Q'
            have c_0 := h25.cell 2 rfl 0 rfl
            have f_0 := h25.free 2 rfl 0
            refine wpOrd_effQ rfl (fun K Q' hK => ?_); go_simp
            clear c_0 f_0
            refine h25.k_set 2 rfl (fun w26 h26 => ?_)
            refine hK _ _ (h26.satR' hpQ.le [] [1] (sel_nil2 _ _) (by kernel_rfl)) ?_; clear hK K; try clear Q'
            refine wpOrd_nil (hQn _ _ ?_); clear hQn hQp QR
            show Code.wp _ _ _ _ _
            repeat (first | simp only [List.nil_append] at h26 | simp only [List.cons_append] at h26 | simp only [List.set_cons_zero] at h26 | simp only [List.set_cons_succ] at h26 | simp only [List.eraseIdx_zero] at h26 | simp only [List.tail_cons] at h26 | simp only [List.eraseIdx_cons_zero] at h26 | simp only [List.eraseIdx_cons_succ] at h26 | simp only [List.setIfInBounds_toArray] at h26)
            refine wp_region_lit ?_
            iterate 4 (refine wpList_plainQ rfl (fun K Q' hK => ?_); go_simp; refine hK _ _ ?_; clear hK K; try clear Q')
            -- stops at: load (Go.Op.load 22 (Go.Operand.tmp 144)) slot 145
            have ce := h26.rowcell 2 rfl it gb2
            iterate 1 (refine wpList_plainQ rfl (fun K Q' hK => ?_); go_simp; refine hK _ _ ?_; clear hK K; try clear Q')
            clear ce
            -- stops at: eff:call (Go.Op.call {'callee': (Go.Callee.value (Go.Operand.func 19)), 'args': [(Go.Operand.tmp 141), (Go.Operand.tmp 145)], 'argTypes': [22, 22]}) slot 146
            refine wpList_plainQ rfl (fun K Q' hK => ?_); go_simp
            refine (rsum_ok _ _ _ _ (sortE (Hp.els tA)) (sortE (Hp.els tB)) (by rw [hna.out, hnb.out]; omega) h26.fits (hva.mono (hpP.le.trans hpQ.le)) (hvb.mono (hpP.le.trans hpQ.le))).mono ?_
            rintro e wR ⟨v5, H6, rfl, hpR, hN3⟩
            obtain ⟨n5, hn5⟩ : ∃ n, Hid ((sumE (sortE (Hp.els tA)) (sortE (Hp.els tB))).length = n) := ⟨_, show _ = _ from rfl⟩
            obtain ⟨a5, c5, hv5, _, _⟩ := hN3.nil_or
            rw [hn5.out] at hv5
            subst hv5
            have h27 := h26.call0 hpR
            refine hK _ _ ?_; clear hK K; try clear Q'
            iterate 1 (refine wpList_plainQ rfl (fun K Q' hK => ?_); go_simp; refine hK _ _ ?_; clear hK K; try clear Q')
            refine wpList_nil ?_
            show Code.wp _ _ _ _ _
            refine wp_seq ?_
            repeat (first | simp only [List.nil_append] at h27 | simp only [List.cons_append] at h27 | simp only [List.set_cons_zero] at h27 | simp only [List.set_cons_succ] at h27 | simp only [List.eraseIdx_zero] at h27 | simp only [List.tail_cons] at h27 | simp only [List.eraseIdx_cons_zero] at h27 | simp only [List.eraseIdx_cons_succ] at h27 | simp only [List.setIfInBounds_toArray] at h27)
            refine wp_region_lit ?_
            have c_1_0 := h27.cell 1 rfl 0 rfl
            iterate 2 (refine wpList_plainQ rfl (fun K Q' hK => ?_); go_simp; refine hK _ _ ?_; clear hK K; try clear Q')
            clear c_1_0
            refine wpList_plainQ rfl (fun K Q' hK => ?_); go_simp
            refine h27.k_alloc (fun w28 h28 => ?_)
            refine hK _ _ ?_; clear hK K; try clear Q'
            -- stops at: eff:Builtin.append (Go.Op.call {'callee': (Go.Callee.builtin Go.Builtin.append), 'args': [(Go.Operand.tmp 165), (Go.Operand.tmp 167)], 'argTypes': [38, 38]}) slot 168
            refine wpList_plainQ rfl (fun K Q' hK => ?_)
            refine h28.op_append 0 rfl rfl infoHp rfl [Value.pointer r1] rfl rfl (fun j u hj => ?_) (by simp [Value.oneCell']) (by omega) (by unfold maxLen; omega) (fun v0 wY0 hY0 oY0 hnY0 => ?_)
            · match j, hj with
              | 0, hj => exact h28.cell 3 rfl 0 hj
            refine hK _ _ ?_; clear hK K; try clear Q'
            iterate 1 (refine wpList_plainQ rfl (fun K Q' hK => ?_); go_simp; refine hK _ _ ?_; clear hK K; try clear Q')
            refine wpList_nil ?_
            show Code.wp _ _ _ _ _
            refine wp_seq ?_
            repeat (first | simp only [List.nil_append] at hY0 | simp only [List.cons_append] at hY0 | simp only [List.set_cons_zero] at hY0 | simp only [List.set_cons_succ] at hY0 | simp only [List.eraseIdx_zero] at hY0 | simp only [List.tail_cons] at hY0 | simp only [List.eraseIdx_cons_zero] at hY0 | simp only [List.eraseIdx_cons_succ] at hY0 | simp only [List.setIfInBounds_toArray] at hY0)
            refine wp_region_lit ?_
            have c_2_0 := hY0.cell 2 rfl 0 rfl
            iterate 2 (refine wpList_plainQ rfl (fun K Q' hK => ?_); go_simp; refine hK _ _ ?_; clear hK K; try clear Q')
            clear c_2_0
            refine wpList_plainQ rfl (fun K Q' hK => ?_); go_simp
            refine hY0.k_alloc (fun w29 h29 => ?_)
            refine hK _ _ ?_; clear hK K; try clear Q'
            -- stops at: eff:Builtin.append (Go.Op.call {'callee': (Go.Callee.builtin Go.Builtin.append), 'args': [(Go.Operand.tmp 169), (Go.Operand.tmp 171)], 'argTypes': [38, 38]}) slot 172
            refine wpList_plainQ rfl (fun K Q' hK => ?_)
            refine h29.op_append 1 rfl rfl infoHp rfl [Value.pointer r2] rfl rfl (fun j u hj => ?_) (by simp [Value.oneCell']) (by omega) (by unfold maxLen; omega) (fun v1 wY1 hY1 oY1 hnY1 => ?_)
            · match j, hj with
              | 0, hj => exact h29.cell 4 rfl 0 hj
            refine hK _ _ ?_; clear hK K; try clear Q'
            iterate 1 (refine wpList_plainQ rfl (fun K Q' hK => ?_); go_simp; refine hK _ _ ?_; clear hK K; try clear Q')
            refine wpList_nil ?_
            show Code.wp _ _ _ _ _
            repeat (first | simp only [List.nil_append] at hY1 | simp only [List.cons_append] at hY1 | simp only [List.set_cons_zero] at hY1 | simp only [List.set_cons_succ] at hY1 | simp only [List.eraseIdx_zero] at hY1 | simp only [List.tail_cons] at hY1 | simp only [List.eraseIdx_cons_zero] at hY1 | simp only [List.eraseIdx_cons_succ] at hY1 | simp only [List.setIfInBounds_toArray] at hY1)
            refine wp_region_lit ?_
            iterate 2 (refine wpList_plainQ rfl (fun K Q' hK => ?_); go_simp; refine hK _ _ ?_; clear hK K; try clear Q')
            refine wpList_plainQ rfl (fun K Q' hK => ?_); go_simp
            refine hY1.k_alloc (fun w30 h30 => ?_)
            refine hK _ _ ?_; clear hK K; try clear Q'
            -- stops at: eff:Builtin.append (Go.Op.call {'callee': (Go.Callee.builtin Go.Builtin.append), 'args': [(Go.Operand.tmp 173), (Go.Operand.tmp 175)], 'argTypes': [39, 39]}) slot 176
            refine wpList_plainQ rfl (fun K Q' hK => ?_)
            refine h30.op_append 2 rfl rfl infoSets rfl [(Value.slice a5 n5 c5)] rfl rfl (fun j u hj => ?_) (by simp [Value.oneCell']) (by omega) (by unfold maxLen; omega) (fun v2 wY2 hY2 oY2 hnY2 => ?_)
            · match j, hj with
              | 0, hj => exact h30.cell 5 rfl 0 hj
            refine hK _ _ ?_; clear hK K; try clear Q'
            iterate 1 (refine wpList_plainQ rfl (fun K Q' hK => ?_); go_simp; refine hK _ _ ?_; clear hK K; try clear Q')
            refine wpList_nil ?_
            show Code.wp _ _ _ _ _
            repeat (first | simp only [List.nil_append] at hY2 | simp only [List.cons_append] at hY2 | simp only [List.set_cons_zero] at hY2 | simp only [List.set_cons_succ] at hY2 | simp only [List.eraseIdx_zero] at hY2 | simp only [List.tail_cons] at hY2 | simp only [List.eraseIdx_cons_zero] at hY2 | simp only [List.eraseIdx_cons_succ] at hY2 | simp only [List.setIfInBounds_toArray] at hY2)
            refine wp_region_lit ?_
            iterate 3 (refine wpList_plainQ rfl (fun K Q' hK => ?_); go_simp; refine hK _ _ ?_; clear hK K; try clear Q')
            refine wpList_nil ?_
            -- stops at: end ('roundend',)
            show _ ∧ _
            go_roundw
            case rel =>
              show CountInv _ _ _ _ _ _ _ _ _ _
              unfold CountInv
              refine ⟨k + 1, ps ++ [⟨r1, r2, (Value.slice a5 n5 c5), (Hp.meld tA tB)⟩], H6, (c3 + (Hp.meldC tA tB : Nat)), (d3 + (Hp.meldD tA tB : Nat)), by omega, ?_, by simp, hle.trans (hpP.le.trans (hpQ.le.trans hpR.le)), (hheld.mono (hpP.le.trans (hpQ.le.trans hpR.le))).snoc (hN1.mono (hpQ.le.trans hpR.le)) (hN2.mono hpR.le) (by rw [sN]; exact hN3) szN, ?_⟩
              · show (ps ++ _).length = _
                have := hpl.out
                simp; omega
              · rw [List.length_append, List.map_append, List.map_append, List.map_append]
                exact hY2.take 1
            case measure => simp [intOf]; omega
          by_cases hk2 : kd = 2
          · subst hk2
            as_aux_lemma =>
            have sN : sortE (Hp.els (Hp.pop tA)) = (sortE (Hp.els tA)).tail := by
              rw [sortE_congr (Hp.pop_perm hqa.ok)]
              exact sortE_of_sorted ((sortE_sorted _).sublist (List.tail_sublist _))
            have szN : Hp.size (Hp.pop tA) ≤ 150 := by have := Hp.size_pop hqa.ok; omega
            iterate 2 (refine wpList_plainQ rfl (fun K Q' hK => ?_); go_simp; refine hK _ _ ?_; clear hK K; try clear Q')
            refine wpList_nil ?_
            show Code.wp _ _ _ _ _
            -- stops at: cond
            refine wp_cond_false (rfl) ?_
            refine wp_seq ?_
            refine wp_region_lit ?_
            iterate 2 (refine wpList_plainQ rfl (fun K Q' hK => ?_); go_simp; refine hK _ _ ?_; clear hK K; try clear Q')
            refine wpList_nil ?_
            show Code.wp _ _ _ _ _
            -- stops at: cond
            refine wp_cond_false (rfl) ?_
            refine wp_seq ?_
            refine wp_region_lit ?_
            iterate 2 (refine wpList_plainQ rfl (fun K Q' hK => ?_); go_simp; refine hK _ _ ?_; clear hK K; try clear Q')
            refine wpList_nil ?_
            show Code.wp _ _ _ _ _
            -- stops at: cond
            refine wp_cond_true (rfl) ?_
            refine wp_seq ?_
            refine wp_region_lit ?_
            have c_1_0 := h10.cell 1 rfl 0 rfl
            iterate 2 (refine wpList_plainQ rfl (fun K Q' hK => ?_); go_simp; refine hK _ _ ?_; clear hK K; try clear Q')
            clear c_1_0
            -- stops at: eff:call (Go.Op.call {'callee': (Go.Callee.value (Go.Operand.func 25)), 'args': [(Go.Operand.tmp 150), (Go.Operand.tmp 151)], 'argTypes': [26, 36]}) slot 152
            refine wpList_plainQ rfl (fun K Q' hK => ?_); go_simp
            refine (hpop_ok (m := some bM) (h10.pre_at (i := 0) rfl) (by omega) hqa).mono ?_
            rintro e wP ⟨r1, H4, rfl, hpP, hN1⟩
            have h31 := h10.call_at (i := 0) rfl hpP
            refine hK _ _ ?_; clear hK K; try clear Q'
            iterate 3 (refine wpList_plainQ rfl (fun K Q' hK => ?_); go_simp; refine hK _ _ ?_; clear hK K; try clear Q')
            have c_0 := h31.cell 1 rfl 0 rfl
            have f_0 := h31.free 1 rfl 0
            refine wpList_plainQ rfl (fun K Q' hK => ?_); go_simp
            clear c_0 f_0
            refine h31.k_set 1 rfl (fun w32 h32 => ?_)
            refine hK _ _ ?_; clear hK K; try clear Q'
            refine wpList_nil ?_
            show Code.wp _ _ _ _ _
            refine wp_seq ?_
            repeat (first | simp only [List.nil_append] at h32 | simp only [List.cons_append] at h32 | simp only [List.set_cons_zero] at h32 | simp only [List.set_cons_succ] at h32 | simp only [List.eraseIdx_zero] at h32 | simp only [List.tail_cons] at h32 | simp only [List.eraseIdx_cons_zero] at h32 | simp only [List.eraseIdx_cons_succ] at h32 | simp only [List.setIfInBounds_toArray] at h32)
            refine wp_region_lit ?_
            have c_2_0 := h32.cell 2 rfl 0 rfl
            iterate 1 (refine wpList_plainQ rfl (fun K Q' hK => ?_); go_simp; refine hK _ _ ?_; clear hK K; try clear Q')
            clear c_2_0
            -- stops at: eff:call (Go.Op.call {'callee': (Go.Callee.value (Go.Operand.func 25)), 'args': [(Go.Operand.tmp 156), (Go.Operand.const (Go.Value.pointer none))], 'argTypes': [26, 36]} slot 157
            refine wpList_plainQ rfl (fun K Q' hK => ?_); go_simp
            refine (hpop_ok (m := none) h32.pre (by omega) (hra.mono hpP.le)).mono ?_
            rintro e wQ ⟨r2, H5, rfl, hpQ, hN2⟩
            have h33 := h32.call0 hpQ
            refine hK _ _ ?_; clear hK K; try clear Q'
            have hvq : ElRep H5 (.slice aa na capa) (sortE (Hp.els tA)) := hva.mono (hpP.le.trans hpQ.le)
            cases hS0 : sortE (Hp.els tA) with
            | nil =>
              rw [hS0] at hna sN hvq
              obtain rfl : 0 = na := hna.out
              iterate 3 (refine wpList_plainQ rfl (fun K Q' hK => ?_); go_simp; refine hK _ _ ?_; clear hK K; try clear Q')
              have c_0 := h33.cell 2 rfl 0 rfl
              have f_0 := h33.free 2 rfl 0
              refine wpList_plainQ rfl (fun K Q' hK => ?_); go_simp
              clear c_0 f_0
              refine h33.k_set 2 rfl (fun w34 h34 => ?_)
              refine hK _ _ ?_; clear hK K; try clear Q'
              refine wpList_nil ?_
              show Code.wp _ _ _ _ _
              refine wp_seq ?_
              repeat (first | simp only [List.nil_append] at h34 | simp only [List.cons_append] at h34 | simp only [List.set_cons_zero] at h34 | simp only [List.set_cons_succ] at h34 | simp only [List.eraseIdx_zero] at h34 | simp only [List.tail_cons] at h34 | simp only [List.eraseIdx_cons_zero] at h34 | simp only [List.eraseIdx_cons_succ] at h34 | simp only [List.setIfInBounds_toArray] at h34)
              refine wp_region_lit ?_
              iterate 3 (refine wpList_plainQ rfl (fun K Q' hK => ?_); go_simp; refine hK _ _ ?_; clear hK K; try clear Q')
              refine wpList_nil ?_
              show Code.wp _ _ _ _ _
              -- stops at: cond
              refine wp_cond_false (rfl) ?_
              refine wp_skip ?_
              show Code.wp _ _ _ _ _
              refine wp_seq ?_
              refine wp_region_lit ?_
              have c_1_0 := h34.cell 1 rfl 0 rfl
              iterate 2 (refine wpList_plainQ rfl (fun K Q' hK => ?_); go_simp; refine hK _ _ ?_; clear hK K; try clear Q')
              clear c_1_0
              refine wpList_plainQ rfl (fun K Q' hK => ?_); go_simp
              refine h34.k_alloc (fun w35 h35 => ?_)
              refine hK _ _ ?_; clear hK K; try clear Q'
              -- stops at: eff:Builtin.append (Go.Op.call {'callee': (Go.Callee.builtin Go.Builtin.append), 'args': [(Go.Operand.tmp 165), (Go.Operand.tmp 167)], 'argTypes': [38, 38]}) slot 168
              refine wpList_plainQ rfl (fun K Q' hK => ?_)
              refine h35.op_append 0 rfl rfl infoHp rfl [Value.pointer r1] rfl rfl (fun j u hj => ?_) (by simp [Value.oneCell']) (by omega) (by unfold maxLen; omega) (fun v0 wY0 hY0 oY0 hnY0 => ?_)
              · match j, hj with
                | 0, hj => exact h35.cell 3 rfl 0 hj
              refine hK _ _ ?_; clear hK K; try clear Q'
              iterate 1 (refine wpList_plainQ rfl (fun K Q' hK => ?_); go_simp; refine hK _ _ ?_; clear hK K; try clear Q')
              refine wpList_nil ?_
              show Code.wp _ _ _ _ _
              refine wp_seq ?_
              repeat (first | simp only [List.nil_append] at hY0 | simp only [List.cons_append] at hY0 | simp only [List.set_cons_zero] at hY0 | simp only [List.set_cons_succ] at hY0 | simp only [List.eraseIdx_zero] at hY0 | simp only [List.tail_cons] at hY0 | simp only [List.eraseIdx_cons_zero] at hY0 | simp only [List.eraseIdx_cons_succ] at hY0 | simp only [List.setIfInBounds_toArray] at hY0)
              refine wp_region_lit ?_
              have c_2_0 := hY0.cell 2 rfl 0 rfl
              iterate 2 (refine wpList_plainQ rfl (fun K Q' hK => ?_); go_simp; refine hK _ _ ?_; clear hK K; try clear Q')
              clear c_2_0
              refine wpList_plainQ rfl (fun K Q' hK => ?_); go_simp
              refine hY0.k_alloc (fun w36 h36 => ?_)
              refine hK _ _ ?_; clear hK K; try clear Q'
              -- stops at: eff:Builtin.append (Go.Op.call {'callee': (Go.Callee.builtin Go.Builtin.append), 'args': [(Go.Operand.tmp 169), (Go.Operand.tmp 171)], 'argTypes': [38, 38]}) slot 172
              refine wpList_plainQ rfl (fun K Q' hK => ?_)
              refine h36.op_append 1 rfl rfl infoHp rfl [Value.pointer r2] rfl rfl (fun j u hj => ?_) (by simp [Value.oneCell']) (by omega) (by unfold maxLen; omega) (fun v1 wY1 hY1 oY1 hnY1 => ?_)
              · match j, hj with
                | 0, hj => exact h36.cell 4 rfl 0 hj
              refine hK _ _ ?_; clear hK K; try clear Q'
              iterate 1 (refine wpList_plainQ rfl (fun K Q' hK => ?_); go_simp; refine hK _ _ ?_; clear hK K; try clear Q')
              refine wpList_nil ?_
              show Code.wp _ _ _ _ _
              repeat (first | simp only [List.nil_append] at hY1 | simp only [List.cons_append] at hY1 | simp only [List.set_cons_zero] at hY1 | simp only [List.set_cons_succ] at hY1 | simp only [List.eraseIdx_zero] at hY1 | simp only [List.tail_cons] at hY1 | simp only [List.eraseIdx_cons_zero] at hY1 | simp only [List.eraseIdx_cons_succ] at hY1 | simp only [List.setIfInBounds_toArray] at hY1)
              refine wp_region_lit ?_
              iterate 2 (refine wpList_plainQ rfl (fun K Q' hK => ?_); go_simp; refine hK _ _ ?_; clear hK K; try clear Q')
              refine wpList_plainQ rfl (fun K Q' hK => ?_); go_simp
              refine hY1.k_alloc (fun w37 h37 => ?_)
              refine hK _ _ ?_; clear hK K; try clear Q'
              -- stops at: eff:Builtin.append (Go.Op.call {'callee': (Go.Callee.builtin Go.Builtin.append), 'args': [(Go.Operand.tmp 173), (Go.Operand.tmp 175)], 'argTypes': [39, 39]}) slot 176
              refine wpList_plainQ rfl (fun K Q' hK => ?_)
              refine h37.op_append 2 rfl rfl infoSets rfl [(Value.slice aa 0 capa)] rfl rfl (fun j u hj => ?_) (by simp [Value.oneCell']) (by omega) (by unfold maxLen; omega) (fun v2 wY2 hY2 oY2 hnY2 => ?_)
              · match j, hj with
                | 0, hj => exact h37.cell 5 rfl 0 hj
              refine hK _ _ ?_; clear hK K; try clear Q'
              iterate 1 (refine wpList_plainQ rfl (fun K Q' hK => ?_); go_simp; refine hK _ _ ?_; clear hK K; try clear Q')
              refine wpList_nil ?_
              show Code.wp _ _ _ _ _
              repeat (first | simp only [List.nil_append] at hY2 | simp only [List.cons_append] at hY2 | simp only [List.set_cons_zero] at hY2 | simp only [List.set_cons_succ] at hY2 | simp only [List.eraseIdx_zero] at hY2 | simp only [List.tail_cons] at hY2 | simp only [List.eraseIdx_cons_zero] at hY2 | simp only [List.eraseIdx_cons_succ] at hY2 | simp only [List.setIfInBounds_toArray] at hY2)
              refine wp_region_lit ?_
              iterate 3 (refine wpList_plainQ rfl (fun K Q' hK => ?_); go_simp; refine hK _ _ ?_; clear hK K; try clear Q')
              refine wpList_nil ?_
              -- stops at: end ('roundend',)
              show _ ∧ _
              go_roundw
              case rel =>
                show CountInv _ _ _ _ _ _ _ _ _ _
                unfold CountInv
                refine ⟨k + 1, ps ++ [⟨r1, r2, (Value.slice aa 0 capa), (Hp.pop tA)⟩], H5, (c3 + (Hp.popC tA : Nat)), (d3 + (Hp.popD tA : Nat)), by omega, ?_, by simp, hle.trans (hpP.le.trans hpQ.le), (hheld.mono (hpP.le.trans hpQ.le)).snoc (hN1.mono hpQ.le) hN2 (by rw [sN]; exact hvq) szN, ?_⟩
                · show (ps ++ _).length = _
                  have := hpl.out
                  simp; omega
                · rw [List.length_append, List.map_append, List.map_append, List.map_append]
                  exact hY2.take 1
              case measure => simp [intOf]; omega
            | cons o R =>
              rw [hS0] at hna sN hvq
              obtain ⟨rl, hrl⟩ : ∃ n, Hid (R.length = n) := ⟨_, show _ = _ from rfl⟩
              obtain rfl : rl + 1 = na := by have := hna.out; rw [List.length_cons, hrl.out] at this; exact this
              obtain ⟨b, off, cap2', ee, _⟩ := SliceRep.ne_nil hvq (by rw [List.length_cons]; omega)
              rw [List.length_cons, hrl.out] at ee
              simp only [Value.slice.injEq, true_and] at ee
              obtain ⟨rfl, rfl⟩ := ee
              obtain ⟨aS, haS⟩ : ∃ a, (if capa = 1 then (some ⟨b, off, none⟩ : Option Addr) else some ⟨b, off + 2, none⟩) = a := ⟨_, rfl⟩
              obtain ⟨cS, hcS⟩ : ∃ c, capa - 1 = c := ⟨_, rfl⟩
              have r2' : ElRep H5 (.slice aS rl cS) R := by
                have h1 := ElRep.from hvq (by rw [List.length_cons, hrl.out]) 1 (by omega)
                have hadd : (⟨b, off, none⟩ : Addr).add (1 * 2) = ⟨b, off + 2, none⟩ := by unfold Addr.add; simp
                simp only [Option.map_some, hadd, Nat.add_sub_cancel, List.drop_succ_cons, List.drop_zero] at h1
                rw [haS, hcS] at h1
                unfold ElRep
                rw [hrl.out]
                exact h1
              have hR1 : (1 : Int) ≤ (rl : Int) + 1 := by omega
              have d0 : decide ((0 : Int) < (rl : Int) + 1) = true := decide_eq_true (by omega)
              rw [List.tail_cons] at sN
              iterate 3 (refine wpList_plainQ rfl (fun K Q' hK => ?_); go_simp; refine hK _ _ ?_; clear hK K; try clear Q')
              have c_0 := h33.cell 2 rfl 0 rfl
              have f_0 := h33.free 2 rfl 0
              refine wpList_plainQ rfl (fun K Q' hK => ?_); go_simp
              clear c_0 f_0
              refine h33.k_set 2 rfl (fun w38 h38 => ?_)
              refine hK _ _ ?_; clear hK K; try clear Q'
              refine wpList_nil ?_
              show Code.wp _ _ _ _ _
              refine wp_seq ?_
              repeat (first | simp only [List.nil_append] at h38 | simp only [List.cons_append] at h38 | simp only [List.set_cons_zero] at h38 | simp only [List.set_cons_succ] at h38 | simp only [List.eraseIdx_zero] at h38 | simp only [List.tail_cons] at h38 | simp only [List.eraseIdx_cons_zero] at h38 | simp only [List.eraseIdx_cons_succ] at h38 | simp only [List.setIfInBounds_toArray] at h38)
              refine wp_region_lit ?_
              iterate 3 (refine wpList_plainQ rfl (fun K Q' hK => ?_); go_simp; refine hK _ _ ?_; clear hK K; try clear Q')
              refine wpList_nil ?_
              show Code.wp _ _ _ _ _
              -- stops at: cond
              refine wp_cond_true (rfl) ?_
              refine wp_region_lit ?_
              iterate 3 (refine wpList_plainQ rfl (fun K Q' hK => ?_); go_simp; refine hK _ _ ?_; clear hK K; try clear Q')
              refine wpList_nil ?_
              show Code.wp _ _ _ _ _
              refine wp_seq ?_
              refine wp_region_lit ?_
              have c_1_0 := h38.cell 1 rfl 0 rfl
              iterate 2 (refine wpList_plainQ rfl (fun K Q' hK => ?_); go_simp; refine hK _ _ ?_; clear hK K; try clear Q')
              clear c_1_0
              refine wpList_plainQ rfl (fun K Q' hK => ?_); go_simp
              refine h38.k_alloc (fun w39 h39 => ?_)
              refine hK _ _ ?_; clear hK K; try clear Q'
              -- stops at: eff:Builtin.append (Go.Op.call {'callee': (Go.Callee.builtin Go.Builtin.append), 'args': [(Go.Operand.tmp 165), (Go.Operand.tmp 167)], 'argTypes': [38, 38]}) slot 168
              refine wpList_plainQ rfl (fun K Q' hK => ?_)
              refine h39.op_append 0 rfl rfl infoHp rfl [Value.pointer r1] rfl rfl (fun j u hj => ?_) (by simp [Value.oneCell']) (by omega) (by unfold maxLen; omega) (fun v0 wY0 hY0 oY0 hnY0 => ?_)
              · match j, hj with
                | 0, hj => exact h39.cell 3 rfl 0 hj
              refine hK _ _ ?_; clear hK K; try clear Q'
              iterate 1 (refine wpList_plainQ rfl (fun K Q' hK => ?_); go_simp; refine hK _ _ ?_; clear hK K; try clear Q')
              refine wpList_nil ?_
              show Code.wp _ _ _ _ _
              refine wp_seq ?_
              repeat (first | simp only [List.nil_append] at hY0 | simp only [List.cons_append] at hY0 | simp only [List.set_cons_zero] at hY0 | simp only [List.set_cons_succ] at hY0 | simp only [List.eraseIdx_zero] at hY0 | simp only [List.tail_cons] at hY0 | simp only [List.eraseIdx_cons_zero] at hY0 | simp only [List.eraseIdx_cons_succ] at hY0 | simp only [List.setIfInBounds_toArray] at hY0)
              refine wp_region_lit ?_
              have c_2_0 := hY0.cell 2 rfl 0 rfl
              iterate 2 (refine wpList_plainQ rfl (fun K Q' hK => ?_); go_simp; refine hK _ _ ?_; clear hK K; try clear Q')
              clear c_2_0
              refine wpList_plainQ rfl (fun K Q' hK => ?_); go_simp
              refine hY0.k_alloc (fun w40 h40 => ?_)
              refine hK _ _ ?_; clear hK K; try clear Q'
              -- stops at: eff:Builtin.append (Go.Op.call {'callee': (Go.Callee.builtin Go.Builtin.append), 'args': [(Go.Operand.tmp 169), (Go.Operand.tmp 171)], 'argTypes': [38, 38]}) slot 172
              refine wpList_plainQ rfl (fun K Q' hK => ?_)
              refine h40.op_append 1 rfl rfl infoHp rfl [Value.pointer r2] rfl rfl (fun j u hj => ?_) (by simp [Value.oneCell']) (by omega) (by unfold maxLen; omega) (fun v1 wY1 hY1 oY1 hnY1 => ?_)
              · match j, hj with
                | 0, hj => exact h40.cell 4 rfl 0 hj
              refine hK _ _ ?_; clear hK K; try clear Q'
              iterate 1 (refine wpList_plainQ rfl (fun K Q' hK => ?_); go_simp; refine hK _ _ ?_; clear hK K; try clear Q')
              refine wpList_nil ?_
              show Code.wp _ _ _ _ _
              repeat (first | simp only [List.nil_append] at hY1 | simp only [List.cons_append] at hY1 | simp only [List.set_cons_zero] at hY1 | simp only [List.set_cons_succ] at hY1 | simp only [List.eraseIdx_zero] at hY1 | simp only [List.tail_cons] at hY1 | simp only [List.eraseIdx_cons_zero] at hY1 | simp only [List.eraseIdx_cons_succ] at hY1 | simp only [List.setIfInBounds_toArray] at hY1)
              refine wp_region_lit ?_
              iterate 2 (refine wpList_plainQ rfl (fun K Q' hK => ?_); go_simp; refine hK _ _ ?_; clear hK K; try clear Q')
              refine wpList_plainQ rfl (fun K Q' hK => ?_); go_simp
              refine hY1.k_alloc (fun w41 h41 => ?_)
              refine hK _ _ ?_; clear hK K; try clear Q'
              -- stops at: eff:Builtin.append (Go.Op.call {'callee': (Go.Callee.builtin Go.Builtin.append), 'args': [(Go.Operand.tmp 173), (Go.Operand.tmp 175)], 'argTypes': [39, 39]}) slot 176
              refine wpList_plainQ rfl (fun K Q' hK => ?_)
              refine h41.op_append 2 rfl rfl infoSets rfl [(Value.slice aS rl cS)] rfl rfl (fun j u hj => ?_) (by simp [Value.oneCell']) (by omega) (by unfold maxLen; omega) (fun v2 wY2 hY2 oY2 hnY2 => ?_)
              · match j, hj with
                | 0, hj => exact h41.cell 5 rfl 0 hj
              refine hK _ _ ?_; clear hK K; try clear Q'
              iterate 1 (refine wpList_plainQ rfl (fun K Q' hK => ?_); go_simp; refine hK _ _ ?_; clear hK K; try clear Q')
              refine wpList_nil ?_
              show Code.wp _ _ _ _ _
              repeat (first | simp only [List.nil_append] at hY2 | simp only [List.cons_append] at hY2 | simp only [List.set_cons_zero] at hY2 | simp only [List.set_cons_succ] at hY2 | simp only [List.eraseIdx_zero] at hY2 | simp only [List.tail_cons] at hY2 | simp only [List.eraseIdx_cons_zero] at hY2 | simp only [List.eraseIdx_cons_succ] at hY2 | simp only [List.setIfInBounds_toArray] at hY2)
              refine wp_region_lit ?_
              iterate 3 (refine wpList_plainQ rfl (fun K Q' hK => ?_); go_simp; refine hK _ _ ?_; clear hK K; try clear Q')
              refine wpList_nil ?_
              -- stops at: end ('roundend',)
              show _ ∧ _
              go_roundw
              case rel =>
                show CountInv _ _ _ _ _ _ _ _ _ _
                unfold CountInv
                refine ⟨k + 1, ps ++ [⟨r1, r2, (Value.slice aS rl cS), (Hp.pop tA)⟩], H5, (c3 + (Hp.popC tA : Nat)), (d3 + (Hp.popD tA : Nat)), by omega, ?_, by simp, hle.trans (hpP.le.trans hpQ.le), (hheld.mono (hpP.le.trans hpQ.le)).snoc (hN1.mono hpQ.le) hN2 (by rw [sN]; exact r2') szN, ?_⟩
                · show (ps ++ _).length = _
                  have := hpl.out
                  simp; omega
                · rw [List.length_append, List.map_append, List.map_append, List.map_append]
                  exact hY2.take 1
              case measure => simp [intOf]; omega
          · skip
            as_aux_lemma =>
            have q0 : ((kd : Int) == 0) = false := beq_eq_false_iff_ne.2 (by omega)
            have q1 : ((kd : Int) == 1) = false := beq_eq_false_iff_ne.2 (by omega)
            have q2 : ((kd : Int) == 2) = false := beq_eq_false_iff_ne.2 (by omega)
            have sN : sortE (Hp.els (Hp.ofL ll)) = sortE ll := sortE_congr (Hp.els_ofL ll)
            have szN : Hp.size (Hp.ofL ll) ≤ 150 := by rw [Hp.size_ofL, hnl.out]; omega
            clear hk0 hk1 hk2
            iterate 2 (refine wpList_plainQ rfl (fun K Q' hK => ?_); go_simp; refine hK _ _ ?_; clear hK K; try clear Q')
            refine wpList_nil ?_
            show Code.wp _ _ _ _ _
            -- stops at: cond
            refine wp_cond_false (rfl) ?_
            refine wp_seq ?_
            refine wp_region_lit ?_
            iterate 2 (refine wpList_plainQ rfl (fun K Q' hK => ?_); go_simp; refine hK _ _ ?_; clear hK K; try clear Q')
            refine wpList_nil ?_
            show Code.wp _ _ _ _ _
            -- stops at: cond
            refine wp_cond_false (rfl) ?_
            refine wp_seq ?_
            refine wp_region_lit ?_
            iterate 2 (refine wpList_plainQ rfl (fun K Q' hK => ?_); go_simp; refine hK _ _ ?_; clear hK K; try clear Q')
            refine wpList_nil ?_
            show Code.wp _ _ _ _ _
            -- stops at: cond
            refine wp_cond_false (rfl) ?_
            refine wp_seq ?_
            refine wp_region_lit ?_
            iterate 5 (refine wpList_plainQ rfl (fun K Q' hK => ?_); go_simp; refine hK _ _ ?_; clear hK K; try clear Q')
            -- stops at: load (Go.Op.load 22 (Go.Operand.tmp 87)) slot 88
            have ce := cl6.out 5 _ (by omega) rfl _ (h10.fits.le h10.le)
            iterate 1 (refine wpList_plainQ rfl (fun K Q' hK => ?_); go_simp; refine hK _ _ ?_; clear hK K; try clear Q')
            clear ce
            -- stops at: eff:call (Go.Op.call {'callee': (Go.Callee.value (Go.Operand.func 14)), 'args': [(Go.Operand.tmp 83), (Go.Operand.tmp 88)], 'argTypes': [36, 22]}) slot 89
            refine wpList_plainQ rfl (fun K Q' hK => ?_); go_simp
            refine (hof_ok (m := some bM) (xs := ll) hef (h10.pre_at (i := 0) rfl) (by rw [hnl.out]; omega) (hel.mono h10.le)).mono ?_
            rintro e wP ⟨r1, H4, rfl, hpP, hN1⟩
            have h42 := h10.call_at (i := 0) rfl hpP
            refine hK _ _ ?_; clear hK K; try clear Q'
            have c_0 := h42.cell 1 rfl 0 rfl
            have f_0 := h42.free 1 rfl 0
            refine wpList_plainQ rfl (fun K Q' hK => ?_); go_simp
            clear c_0 f_0
            refine h42.k_set 1 rfl (fun w43 h43 => ?_)
            refine hK _ _ ?_; clear hK K; try clear Q'
            refine wpList_nil ?_
            show Code.wp _ _ _ _ _
            refine wp_seq ?_
            repeat (first | simp only [List.nil_append] at h43 | simp only [List.cons_append] at h43 | simp only [List.set_cons_zero] at h43 | simp only [List.set_cons_succ] at h43 | simp only [List.eraseIdx_zero] at h43 | simp only [List.tail_cons] at h43 | simp only [List.eraseIdx_cons_zero] at h43 | simp only [List.eraseIdx_cons_succ] at h43 | simp only [List.setIfInBounds_toArray] at h43)
            refine wp_region_lit ?_
            iterate 4 (refine wpList_plainQ rfl (fun K Q' hK => ?_); go_simp; refine hK _ _ ?_; clear hK K; try clear Q')
            -- stops at: load (Go.Op.load 22 (Go.Operand.tmp 93)) slot 94
            have ce := cl6.out 5 _ (by omega) rfl _ (h43.fits.le h43.le)
            iterate 1 (refine wpList_plainQ rfl (fun K Q' hK => ?_); go_simp; refine hK _ _ ?_; clear hK K; try clear Q')
            clear ce
            -- stops at: eff:call (Go.Op.call {'callee': (Go.Callee.value (Go.Operand.func 14)), 'args': [(Go.Operand.const (Go.Value.pointer none)), (Go.Operand.tmp 94)], 'argTypes': [36, 22]}) slot 95
            refine wpList_plainQ rfl (fun K Q' hK => ?_); go_simp
            refine (hof_ok (m := none) (xs := ll) hef h43.pre (by rw [hnl.out]; omega) (hel.mono h43.le)).mono ?_
            rintro e wQ ⟨r2, H5, rfl, hpQ, hN2⟩
            have h44 := h43.call0 hpQ
            refine hK _ _ ?_; clear hK K; try clear Q'
            have c_0 := h44.cell 2 rfl 0 rfl
            have f_0 := h44.free 2 rfl 0
            refine wpList_plainQ rfl (fun K Q' hK => ?_); go_simp
            clear c_0 f_0
            refine h44.k_set 2 rfl (fun w45 h45 => ?_)
            refine hK _ _ ?_; clear hK K; try clear Q'
            refine wpList_nil ?_
            show Code.wp _ _ _ _ _
            repeat (first | simp only [List.nil_append] at h45 | simp only [List.cons_append] at h45 | simp only [List.set_cons_zero] at h45 | simp only [List.set_cons_succ] at h45 | simp only [List.eraseIdx_zero] at h45 | simp only [List.tail_cons] at h45 | simp only [List.eraseIdx_cons_zero] at h45 | simp only [List.eraseIdx_cons_succ] at h45 | simp only [List.setIfInBounds_toArray] at h45)
            refine wp_region_lit ?_
            iterate 4 (refine wpList_plainQ rfl (fun K Q' hK => ?_); go_simp; refine hK _ _ ?_; clear hK K; try clear Q')
            -- stops at: load (Go.Op.load 22 (Go.Operand.tmp 99)) slot 100
            have ce := cl6.out 5 _ (by omega) rfl _ (h45.fits.le h45.le)
            iterate 1 (refine wpList_plainQ rfl (fun K Q' hK => ?_); go_simp; refine hK _ _ ?_; clear hK K; try clear Q')
            clear ce
            -- stops at: eff:call (Go.Op.call {'callee': (Go.Callee.value (Go.Operand.func 16)), 'args': [(Go.Operand.tmp 100)], 'argTypes': [22]}) slot 101
            refine wpList_plainQ rfl (fun K Q' hK => ?_); go_simp
            refine (rsort_ok _ _ _ ll (by rw [hnl.out]; omega) h45.fits (hel.mono h45.le)).mono ?_
            rintro e wR ⟨v5, H6, rfl, hpR, hN3⟩
            obtain ⟨n5, hn5⟩ : ∃ n, Hid ((sortE ll).length = n) := ⟨_, show _ = _ from rfl⟩
            obtain ⟨a5, c5, hv5, _, _⟩ := hN3.nil_or
            rw [hn5.out] at hv5
            subst hv5
            have h46 := h45.call0 hpR
            refine hK _ _ ?_; clear hK K; try clear Q'
            iterate 1 (refine wpList_plainQ rfl (fun K Q' hK => ?_); go_simp; refine hK _ _ ?_; clear hK K; try clear Q')
            refine wpList_nil ?_
            show Code.wp _ _ _ _ _
            refine wp_seq ?_
            repeat (first | simp only [List.nil_append] at h46 | simp only [List.cons_append] at h46 | simp only [List.set_cons_zero] at h46 | simp only [List.set_cons_succ] at h46 | simp only [List.eraseIdx_zero] at h46 | simp only [List.tail_cons] at h46 | simp only [List.eraseIdx_cons_zero] at h46 | simp only [List.eraseIdx_cons_succ] at h46 | simp only [List.setIfInBounds_toArray] at h46)
            refine wp_region_lit ?_
            have c_1_0 := h46.cell 1 rfl 0 rfl
            iterate 2 (refine wpList_plainQ rfl (fun K Q' hK => ?_); go_simp; refine hK _ _ ?_; clear hK K; try clear Q')
            clear c_1_0
            refine wpList_plainQ rfl (fun K Q' hK => ?_); go_simp
            refine h46.k_alloc (fun w47 h47 => ?_)
            refine hK _ _ ?_; clear hK K; try clear Q'
            -- stops at: eff:Builtin.append (Go.Op.call {'callee': (Go.Callee.builtin Go.Builtin.append), 'args': [(Go.Operand.tmp 165), (Go.Operand.tmp 167)], 'argTypes': [38, 38]}) slot 168
            refine wpList_plainQ rfl (fun K Q' hK => ?_)
            refine h47.op_append 0 rfl rfl infoHp rfl [Value.pointer r1] rfl rfl (fun j u hj => ?_) (by simp [Value.oneCell']) (by omega) (by unfold maxLen; omega) (fun v0 wY0 hY0 oY0 hnY0 => ?_)
            · match j, hj with
              | 0, hj => exact h47.cell 3 rfl 0 hj
            refine hK _ _ ?_; clear hK K; try clear Q'
            iterate 1 (refine wpList_plainQ rfl (fun K Q' hK => ?_); go_simp; refine hK _ _ ?_; clear hK K; try clear Q')
            refine wpList_nil ?_
            show Code.wp _ _ _ _ _
            refine wp_seq ?_
            repeat (first | simp only [List.nil_append] at hY0 | simp only [List.cons_append] at hY0 | simp only [List.set_cons_zero] at hY0 | simp only [List.set_cons_succ] at hY0 | simp only [List.eraseIdx_zero] at hY0 | simp only [List.tail_cons] at hY0 | simp only [List.eraseIdx_cons_zero] at hY0 | simp only [List.eraseIdx_cons_succ] at hY0 | simp only [List.setIfInBounds_toArray] at hY0)
            refine wp_region_lit ?_
            have c_2_0 := hY0.cell 2 rfl 0 rfl
            iterate 2 (refine wpList_plainQ rfl (fun K Q' hK => ?_); go_simp; refine hK _ _ ?_; clear hK K; try clear Q')
            clear c_2_0
            refine wpList_plainQ rfl (fun K Q' hK => ?_); go_simp
            refine hY0.k_alloc (fun w48 h48 => ?_)
            refine hK _ _ ?_; clear hK K; try clear Q'
            -- stops at: eff:Builtin.append (Go.Op.call {'callee': (Go.Callee.builtin Go.Builtin.append), 'args': [(Go.Operand.tmp 169), (Go.Operand.tmp 171)], 'argTypes': [38, 38]}) slot 172
            refine wpList_plainQ rfl (fun K Q' hK => ?_)
            refine h48.op_append 1 rfl rfl infoHp rfl [Value.pointer r2] rfl rfl (fun j u hj => ?_) (by simp [Value.oneCell']) (by omega) (by unfold maxLen; omega) (fun v1 wY1 hY1 oY1 hnY1 => ?_)
            · match j, hj with
              | 0, hj => exact h48.cell 4 rfl 0 hj
            refine hK _ _ ?_; clear hK K; try clear Q'
            iterate 1 (refine wpList_plainQ rfl (fun K Q' hK => ?_); go_simp; refine hK _ _ ?_; clear hK K; try clear Q')
            refine wpList_nil ?_
            show Code.wp _ _ _ _ _
            repeat (first | simp only [List.nil_append] at hY1 | simp only [List.cons_append] at hY1 | simp only [List.set_cons_zero] at hY1 | simp only [List.set_cons_succ] at hY1 | simp only [List.eraseIdx_zero] at hY1 | simp only [List.tail_cons] at hY1 | simp only [List.eraseIdx_cons_zero] at hY1 | simp only [List.eraseIdx_cons_succ] at hY1 | simp only [List.setIfInBounds_toArray] at hY1)
            refine wp_region_lit ?_
            iterate 2 (refine wpList_plainQ rfl (fun K Q' hK => ?_); go_simp; refine hK _ _ ?_; clear hK K; try clear Q')
            refine wpList_plainQ rfl (fun K Q' hK => ?_); go_simp
            refine hY1.k_alloc (fun w49 h49 => ?_)
            refine hK _ _ ?_; clear hK K; try clear Q'
            -- stops at: eff:Builtin.append (Go.Op.call {'callee': (Go.Callee.builtin Go.Builtin.append), 'args': [(Go.Operand.tmp 173), (Go.Operand.tmp 175)], 'argTypes': [39, 39]}) slot 176
            refine wpList_plainQ rfl (fun K Q' hK => ?_)
            refine h49.op_append 2 rfl rfl infoSets rfl [(Value.slice a5 n5 c5)] rfl rfl (fun j u hj => ?_) (by simp [Value.oneCell']) (by omega) (by unfold maxLen; omega) (fun v2 wY2 hY2 oY2 hnY2 => ?_)
            · match j, hj with
              | 0, hj => exact h49.cell 5 rfl 0 hj
            refine hK _ _ ?_; clear hK K; try clear Q'
            iterate 1 (refine wpList_plainQ rfl (fun K Q' hK => ?_); go_simp; refine hK _ _ ?_; clear hK K; try clear Q')
            refine wpList_nil ?_
            show Code.wp _ _ _ _ _
            repeat (first | simp only [List.nil_append] at hY2 | simp only [List.cons_append] at hY2 | simp only [List.set_cons_zero] at hY2 | simp only [List.set_cons_succ] at hY2 | simp only [List.eraseIdx_zero] at hY2 | simp only [List.tail_cons] at hY2 | simp only [List.eraseIdx_cons_zero] at hY2 | simp only [List.eraseIdx_cons_succ] at hY2 | simp only [List.setIfInBounds_toArray] at hY2)
            refine wp_region_lit ?_
            iterate 3 (refine wpList_plainQ rfl (fun K Q' hK => ?_); go_simp; refine hK _ _ ?_; clear hK K; try clear Q')
            refine wpList_nil ?_
            -- stops at: end ('roundend',)
            show _ ∧ _
            go_roundw
            case rel =>
              show CountInv _ _ _ _ _ _ _ _ _ _
              unfold CountInv
              refine ⟨k + 1, ps ++ [⟨r1, r2, (Value.slice a5 n5 c5), (Hp.ofL ll)⟩], H6, (c3 + (Hp.ofC ll : Nat)), (d3 + (Hp.ofD ll : Nat)), by omega, ?_, by simp, hle.trans (hpP.le.trans (hpQ.le.trans hpR.le)), (hheld.mono (hpP.le.trans (hpQ.le.trans hpR.le))).snoc (hN1.mono (hpQ.le.trans hpR.le)) (hN2.mono hpR.le) (by rw [sN]; exact hN3) szN, ?_⟩
              · show (ps ++ _).length = _
                have := hpl.out
                simp; omega
              · rw [List.length_append, List.map_append, List.map_append, List.map_append]
                exact hY2.take 1
            case measure => simp [intOf]; omega
        · have d1 : decide ((120 : Int) < (nab : Int)) = true := decide_eq_true (by omega)
          refine wp_cond_true (congrArg Value.bool d1) ?_
          refine wp_seq ?_
          repeat (first | simp only [List.nil_append] at h6 | simp only [List.cons_append] at h6 | simp only [List.set_cons_zero] at h6 | simp only [List.set_cons_succ] at h6 | simp only [List.eraseIdx_zero] at h6 | simp only [List.tail_cons] at h6 | simp only [List.eraseIdx_cons_zero] at h6 | simp only [List.eraseIdx_cons_succ] at h6 | simp only [List.setIfInBounds_toArray] at h6)
          refine wp_region_lit ?_
          iterate 1 (refine wpList_plainQ rfl (fun K Q' hK => ?_); go_simp; refine hK _ _ ?_; clear hK K; try clear Q')
          refine wpList_nil ?_
          show Code.wp _ _ _ _ _
          -- stops at: ret
          refine wp_ret ?_
          go_ret
          exact ⟨rfl, h6.post.keep⟩
      · obtain rfl : k = ls.length := by omega
        as_aux_lemma =>
        have hp31 : ps.length ≤ 31 := by have := hpl.out; omega
        refine wp_seq ?_
        refine wp_seq ?_
        repeat (first | simp only [List.nil_append] at hs1 | simp only [List.cons_append] at hs1 | simp only [List.set_cons_zero] at hs1 | simp only [List.set_cons_succ] at hs1 | simp only [List.eraseIdx_zero] at hs1 | simp only [List.tail_cons] at hs1 | simp only [List.eraseIdx_cons_zero] at hs1 | simp only [List.eraseIdx_cons_succ] at hs1 | simp only [List.setIfInBounds_toArray] at hs1)
        refine wp_region_lit ?_
        iterate 4 (refine wpList_plainQ rfl (fun K Q' hK => ?_); go_simp; refine hK _ _ ?_; clear hK K; try clear Q')
        refine wpList_nil ?_
        show Code.wp _ _ _ _ _
        -- stops at: cond
        refine wp_cond_false (rfl) ?_
        refine wp_exit ?_
        show Code.wp _ _ _ _ _
        refine wp_seq ?_
        refine wp_seq ?_
        refine wp_region_lit ?_
        iterate 1 (refine wpList_plainQ rfl (fun K Q' hK => ?_); go_simp; refine hK _ _ ?_; clear hK K; try clear Q')
        refine wpList_nil ?_
        show Code.wp _ _ _ _ _
        refine wp_block ?_
        -- stops at: loop
        go_loopw [15] (fun v15 wr => CountInv2 w H H3 bM ps (.slice (some ⟨g6, 0, none⟩) ps.length c6) (.slice (some ⟨g7, 0, none⟩) ps.length c7) (.slice (some ⟨g8, 0, none⟩) ps.length c8) v15 wr) (fun v15 _ => ps.length - (intOf v15).toNat)
        case atStart =>
          show CountInv2 _ _ _ _ _ _ _ _ _ _
          unfold CountInv2
          exact ⟨0, H3, c3, d3, by omega, rfl, GH.le_refl _, hs1⟩
        case round =>
          obtain ⟨j, H8, c8', d8, hj, rfl, hle8, hs8⟩ := hrel
          by_cases hlt : j < ps.length
          · obtain ⟨⟨qj, rj, vj, tj⟩, hpj⟩ : ∃ p, ps[j]? = some p := ⟨ps[j], by simp [hlt]⟩
            obtain ⟨hqj, hrj, hvj, hzj⟩ := hheld _ (List.mem_of_getElem? hpj)
            simp only at hqj hrj hvj hzj
            have gj : (ps.map (fun a => Value.pointer a.p))[j]? = some (.pointer qj) := by simp [hpj]
            have gj1 : (ps.map (fun a => Value.pointer a.q))[j]? = some (.pointer rj) := by simp [hpj]
            have gj2 : (ps.map Trio.v)[j]? = some vj := by simp [hpj]
            obtain ⟨nj, hnj⟩ : ∃ n, Hid ((sortE (Hp.els tj)).length = n) := ⟨_, show _ = _ from rfl⟩
            have hszj : Hid (Hp.size tj = nj) := by rw [← hnj.out, sortE_length]; rfl
            obtain ⟨aj, cj, hvjE, _, _⟩ := hvj.nil_or
            rw [hnj.out] at hvjE
            subst hvjE
            obtain ⟨tx, htx⟩ : ∃ t, Hid (Hp.text tj = t) := ⟨_, show _ = _ from rfl⟩
            have e5 : IntKind.i64.wrap ((j : Int) + 1) = (j : Int) + 1 := IntWalk.i64_in _ (by omega)
            have hoj := hqj.ok
            refine wp_seq ?_
            refine wp_seq ?_
            repeat (first | simp only [List.nil_append] at hs8 | simp only [List.cons_append] at hs8 | simp only [List.set_cons_zero] at hs8 | simp only [List.set_cons_succ] at hs8 | simp only [List.eraseIdx_zero] at hs8 | simp only [List.tail_cons] at hs8 | simp only [List.eraseIdx_cons_zero] at hs8 | simp only [List.eraseIdx_cons_succ] at hs8 | simp only [List.setIfInBounds_toArray] at hs8)
            refine wp_region_lit ?_
            iterate 4 (refine wpList_plainQ rfl (fun K Q' hK => ?_); go_simp; refine hK _ _ ?_; clear hK K; try clear Q')
            refine wpList_nil ?_
            show Code.wp _ _ _ _ _
            -- stops at: cond
            refine wp_cond_true (rfl) ?_
            refine wp_skip ?_
            show Code.wp _ _ _ _ _
            refine wp_seq ?_
            refine wp_block ?_
            refine wp_seq ?_
            refine wp_region_lit ?_
            iterate 3 (refine wpList_plainQ rfl (fun K Q' hK => ?_); go_simp; refine hK _ _ ?_; clear hK K; try clear Q')
            -- stops at: load (Go.Op.load 26 (Go.Operand.tmp 185)) slot 186
            have ce := hs8.rowcell 0 rfl j gj
            iterate 1 (refine wpList_plainQ rfl (fun K Q' hK => ?_); go_simp; refine hK _ _ ?_; clear hK K; try clear Q')
            clear ce
            -- stops at: eff:call (Go.Op.call {'callee': (Go.Callee.value (Go.Operand.func 17)), 'args': [(Go.Operand.tmp 186), (Go.Operand.const (Go.Value.int Go.IntKind.i64 300))], 'argTypes': slot 187
            refine wpList_plainQ rfl (fun K Q' hK => ?_); go_simp
            refine (drain_ok _ _ _ tj 300 (by omega) (by omega) hs8.fits (hqj.mono hle8)).mono ?_
            rintro e wD ⟨vD, HD, rfl, hpD, dD⟩
            rw [drainL_all 300 tj hoj (by omega)] at dD
            have h50 := hs8.call0 hpD
            refine hK _ _ ?_; clear hK K; try clear Q'
            iterate 1 (refine wpList_plainQ rfl (fun K Q' hK => ?_); go_simp; refine hK _ _ ?_; clear hK K; try clear Q')
            refine wpList_nil ?_
            show Code.wp _ _ _ _ _
            refine wp_seq ?_
            repeat (first | simp only [List.nil_append] at h50 | simp only [List.cons_append] at h50 | simp only [List.set_cons_zero] at h50 | simp only [List.set_cons_succ] at h50 | simp only [List.eraseIdx_zero] at h50 | simp only [List.tail_cons] at h50 | simp only [List.eraseIdx_cons_zero] at h50 | simp only [List.eraseIdx_cons_succ] at h50 | simp only [List.setIfInBounds_toArray] at h50)
            refine h50.regionR [] [0, 1, 2] [(0, true), (1, true), (2, true), (3, true), (4, true), (5, false), (6, true), (7, true), (8, true), (9, true), (10, true), (11, true), (13, true), (14, true), (15, true), (16, true), (17, true), (12, false), (18, true), (19, true), (20, true), (21, true), (22, true), (23, true), (24, true), (26, true), (27, true), (28, true), (29, true), (25, false), (30, false), (31, true), (32, true)] (by kernel_rfl) (by kernel_rfl) (fun w51 h51 => ?_)
            refine wpOrd_hide (fun _ _ d _ _ h => by cases d <;> exact h) (fun QR hQn hQp => ?_)
            simp only [ordOps, List.map_cons, List.map_nil, List.getD_cons_zero, List.getD_cons_succ]
            iterate 4 (refine wpOrd_quiet (v := ?_) rfl (fun _ _ _ => hQp _ _ _ _ _) ?_ ?_; rotate_left; (intro w' hS; (first | (go_simp; done) | (go_simp; with_reducible rfl))); simp only [Act.put, List.setIfInBounds_toArray, List.set_cons_zero, List.set_cons_succ])
            -- stops at: load (Go.Op.load 22 (Go.Operand.tmp 191)) slot 192
            iterate 1 (refine wpOrd_quiet (v := ?_) rfl (fun _ _ _ => hQp _ _ _ _ _) ?_ ?_; rotate_left; (intro w' hS; have ce := hS.rowcell 2 rfl j gj2; (first | (go_simp; done) | (go_simp; with_reducible rfl))); simp only [Act.put, List.setIfInBounds_toArray, List.set_cons_zero, List.set_cons_succ])
            -- stops at: eff:call (Go.Op.call {'callee': (Go.Callee.value (Go.Operand.func 18)), 'args': [(Go.Operand.tmp 188), (Go.Operand.tmp 192)], 'argTypes': [22, 22]}) slot 193
            refine wpOrd_effQ rfl (fun K Q' hK => ?_); go_simp
            refine (rsame_ok _ _ _ _ (sortE (Hp.els tj)) (sortE (Hp.els tj)) (by rw [hnj.out]; have := hszj.out; omega) (by rw [hnj.out]; have := hszj.out; omega) h51.fits dD (hvj.mono (hle8.trans hpD.le))).mono ?_
            rintro e wE ⟨rfl, hkE⟩
            rw [decide_eq_true rfl]
            have h52 := h51.callk hkE
            refine hK _ _ (h52.satR' (GH.le_refl _) [] [0, 1, 2] (sel_nil2 _ _) (by kernel_rfl)) ?_; clear hK K; try clear Q'
            iterate 2 (refine wpOrd_quiet (v := ?_) rfl (fun _ _ _ => hQp _ _ _ _ _) ?_ ?_; rotate_left; (intro w' hS; (first | (go_simp; done) | (go_simp; with_reducible rfl))); simp only [Act.put, List.setIfInBounds_toArray, List.set_cons_zero, List.set_cons_succ])
            iterate 3 (refine wpOrd_quiet (v := ?_) (by kernel_rfl) (fun _ _ _ => hQp _ _ _ _ _) ?_ ?_; rotate_left; (intro w' hS; (first | (go_simp; done) | (go_simp; with_reducible rfl))); simp only [Act.put, List.setIfInBounds_toArray, List.set_cons_zero, List.set_cons_succ])
            -- stops at: load (Go.Op.load 26 (Go.Operand.tmp 198)) slot 199
            iterate 1 (refine wpOrd_quiet (v := ?_) (by kernel_rfl) (fun _ _ _ => hQp _ _ _ _ _) ?_ ?_; rotate_left; (intro w' hS; have ce := hS.rowcell 0 rfl j gj; (first | (go_simp; done) | (go_simp; with_reducible rfl))); simp only [Act.put, List.setIfInBounds_toArray, List.set_cons_zero, List.set_cons_succ])
            iterate 3 (refine wpOrd_quiet (v := ?_) (by kernel_rfl) (fun _ _ _ => hQp _ _ _ _ _) ?_ ?_; rotate_left; (intro w' hS; (first | (go_simp; done) | (go_simp; with_reducible rfl))); simp only [Act.put, List.setIfInBounds_toArray, List.set_cons_zero, List.set_cons_succ])
            -- stops at: load (Go.Op.load 22 (Go.Operand.tmp 203)) slot 204
            iterate 1 (refine wpOrd_quiet (v := ?_) (by kernel_rfl) (fun _ _ _ => hQp _ _ _ _ _) ?_ ?_; rotate_left; (intro w' hS; have ce := hS.rowcell 2 rfl j gj2; (first | (go_simp; done) | (go_simp; with_reducible rfl))); simp only [Act.put, List.setIfInBounds_toArray, List.set_cons_zero, List.set_cons_succ])
            iterate 1 (refine wpOrd_quiet (v := ?_) (by kernel_rfl) (fun _ _ _ => hQp _ _ _ _ _) ?_ ?_; rotate_left; (intro w' hS; (first | (go_simp; done) | (go_simp; with_reducible rfl))); simp only [Act.put, List.setIfInBounds_toArray, List.set_cons_zero, List.set_cons_succ])
            -- stops at: eff:call (Go.Op.call {'callee': (Go.Callee.value (Go.Operand.func 20)), 'args': [(Go.Operand.tmp 199)], 'argTypes': [26]}) slot 200
            refine wpOrd_effQ (by kernel_rfl) (fun K Q' hK => ?_); go_simp
            refine (hsize_ok h52.fits (by omega) (hqj.mono (hle8.trans hpD.le))).mono ?_
            rintro e wZ ⟨HZ, rfl, hpZ⟩
            rw [hszj.out]
            have h53 := h52.call0 hpZ
            refine hK _ _ (h53.satR' hpZ.le [] [0, 1, 2] (sel_nil2 _ _) (by kernel_rfl)) ?_; clear hK K; try clear Q'
            iterate 1 (refine wpOrd_quiet (v := ?_) (by kernel_rfl) (fun _ _ _ => hQp _ _ _ _ _) ?_ ?_; rotate_left; (intro w' hS; (first | (go_simp; done) | (go_simp; with_reducible rfl))); simp only [Act.put, List.setIfInBounds_toArray, List.set_cons_zero, List.set_cons_succ])
            iterate 2 (refine wpOrd_quiet (v := ?_) rfl (fun _ _ _ => hQp _ _ _ _ _) ?_ ?_; rotate_left; (intro w' hS; (first | (go_simp; done) | (go_simp; with_reducible rfl))); simp only [Act.put, List.setIfInBounds_toArray, List.set_cons_zero, List.set_cons_succ])
            iterate 3 (refine wpOrd_quiet (v := ?_) (by kernel_rfl) (fun _ _ _ => hQp _ _ _ _ _) ?_ ?_; rotate_left; (intro w' hS; (first | (go_simp; done) | (go_simp; with_reducible rfl))); simp only [Act.put, List.setIfInBounds_toArray, List.set_cons_zero, List.set_cons_succ])
            -- stops at: load (Go.Op.load 26 (Go.Operand.tmp 211)) slot 212
            iterate 1 (refine wpOrd_quiet (v := ?_) (by kernel_rfl) (fun _ _ _ => hQp _ _ _ _ _) ?_ ?_; rotate_left; (intro w' hS; have ce := hS.rowcell 0 rfl j gj; (first | (go_simp; done) | (go_simp; with_reducible rfl))); simp only [Act.put, List.setIfInBounds_toArray, List.set_cons_zero, List.set_cons_succ])
            iterate 3 (refine wpOrd_quiet (v := ?_) (by kernel_rfl) (fun _ _ _ => hQp _ _ _ _ _) ?_ ?_; rotate_left; (intro w' hS; (first | (go_simp; done) | (go_simp; with_reducible rfl))); simp only [Act.put, List.setIfInBounds_toArray, List.set_cons_zero, List.set_cons_succ])
            -- stops at: load (Go.Op.load 26 (Go.Operand.tmp 216)) slot 217
            iterate 1 (refine wpOrd_quiet (v := ?_) (by kernel_rfl) (fun _ _ _ => hQp _ _ _ _ _) ?_ ?_; rotate_left; (intro w' hS; have ce := hS.rowcell 1 rfl j gj1; (first | (go_simp; done) | (go_simp; with_reducible rfl))); simp only [Act.put, List.setIfInBounds_toArray, List.set_cons_zero, List.set_cons_succ])
            -- stops at: eff:call (Go.Op.call {'callee': (Go.Callee.value (Go.Operand.func 26)), 'args': [(Go.Operand.tmp 212)], 'argTypes': [26]}) slot 213
            refine wpOrd_effQ (by kernel_rfl) (fun K Q' hK => ?_); go_simp
            refine (hshow_ok (htab.mono h53.le) h53.fits (by omega) (hqj.mono (hle8.trans (hpD.le.trans hpZ.le)))).mono ?_
            rintro e wS1 ⟨HS1, rfl, hpS1⟩
            rw [htx.out]
            have h54 := h53.call0 hpS1
            refine hK _ _ (h54.satR' (GH.le.trans hpZ.le hpS1.le) [] [0, 1, 2] (sel_nil2 _ _) (by kernel_rfl)) ?_; clear hK K; try clear Q'
            -- stops at: eff:call (Go.Op.call {'callee': (Go.Callee.value (Go.Operand.func 26)), 'args': [(Go.Operand.tmp 217)], 'argTypes': [26]}) slot 218
            refine wpOrd_effQ (by kernel_rfl) (fun K Q' hK => ?_); go_simp
            refine (hshow_ok (htab.mono h54.le) h54.fits (by omega) (hrj.mono (hle8.trans (hpD.le.trans (hpZ.le.trans hpS1.le))))).mono ?_
            rintro e wS2 ⟨HS2, rfl, hpS2⟩
            rw [htx.out]
            have h55 := h54.call0 hpS2
            refine hK _ _ (h55.satR' (GH.le.trans (GH.le.trans hpZ.le hpS1.le) hpS2.le) [] [0, 1, 2] (sel_nil2 _ _) (by kernel_rfl)) ?_; clear hK K; try clear Q'
            iterate 1 (refine wpOrd_quiet (v := ?_) (by kernel_rfl) (fun _ _ _ => hQp _ _ _ _ _) ?_ ?_; rotate_left; (intro w' hS; (first | (go_simp; done) | (go_simp; with_reducible rfl))); simp only [Act.put, List.setIfInBounds_toArray, List.set_cons_zero, List.set_cons_succ])
            iterate 1 (refine wpOrd_quiet (v := ?_) rfl (fun _ _ _ => hQp _ _ _ _ _) ?_ ?_; rotate_left; (intro w' hS; (first | (go_simp; done) | (go_simp; with_reducible rfl))); simp only [Act.put, List.setIfInBounds_toArray, List.set_cons_zero, List.set_cons_succ])
            refine wpOrd_nil (hQn _ _ ?_); clear hQn hQp QR
            show Code.wp _ _ _ _ _
            -- stops at: cond
            refine wp_cond_false (rfl) ?_
            refine wp_skip ?_
            show Code.wp _ _ _ _ _
            repeat (first | simp only [List.nil_append] at h55 | simp only [List.cons_append] at h55 | simp only [List.set_cons_zero] at h55 | simp only [List.set_cons_succ] at h55 | simp only [List.eraseIdx_zero] at h55 | simp only [List.tail_cons] at h55 | simp only [List.eraseIdx_cons_zero] at h55 | simp only [List.eraseIdx_cons_succ] at h55 | simp only [List.setIfInBounds_toArray] at h55)
            refine wp_region_lit ?_
            iterate 3 (refine wpList_plainQ rfl (fun K Q' hK => ?_); go_simp; refine hK _ _ ?_; clear hK K; try clear Q')
            refine wpList_nil ?_
            -- stops at: end ('roundend',)
            show _ ∧ _
            go_roundw
            case rel =>
              show CountInv2 _ _ _ _ _ _ _ _ _ _
              unfold CountInv2
              exact ⟨j + 1, HS2, c8', d8, by omega, by simp, hle8.trans (hpD.le.trans (hpZ.le.trans (hpS1.le.trans hpS2.le))), h55.take 1⟩
            case measure => simp [intOf]; omega
          · obtain rfl : j = ps.length := by omega
            refine wp_seq ?_
            refine wp_seq ?_
            repeat (first | simp only [List.nil_append] at hs8 | simp only [List.cons_append] at hs8 | simp only [List.set_cons_zero] at hs8 | simp only [List.set_cons_succ] at hs8 | simp only [List.eraseIdx_zero] at hs8 | simp only [List.tail_cons] at hs8 | simp only [List.eraseIdx_cons_zero] at hs8 | simp only [List.eraseIdx_cons_succ] at hs8 | simp only [List.setIfInBounds_toArray] at hs8)
            refine wp_region_lit ?_
            iterate 4 (refine wpList_plainQ rfl (fun K Q' hK => ?_); go_simp; refine hK _ _ ?_; clear hK K; try clear Q')
            refine wpList_nil ?_
            show Code.wp _ _ _ _ _
            -- stops at: cond
            refine wp_cond_false (rfl) ?_
            refine wp_exit ?_
            show Code.wp _ _ _ _ _
            refine wp_seq ?_
            refine wp_region_lit ?_
            iterate 1 (refine wpList_plainQ rfl (fun K Q' hK => ?_); go_simp; refine hK _ _ ?_; clear hK K; try clear Q')
            refine wpList_nil ?_
            show Code.wp _ _ _ _ _
            -- stops at: ret
            refine wp_ret ?_
            go_ret
            exact ⟨rfl, hs8.post.keep⟩
end Go.Proofs.YtceamdacacacjaaDoor
