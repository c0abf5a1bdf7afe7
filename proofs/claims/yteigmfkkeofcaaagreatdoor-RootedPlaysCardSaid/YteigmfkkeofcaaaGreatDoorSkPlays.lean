/-
Plays: its walk (heaps and the document's heaps, made side by side).
-/
import Derived.Test.YteigmfkkeofcaaaGreatDoorSjFace
import Derived.Test.YteigmfkkeofcaaaGreatDoorQkActs
import Derived.Test.YteigmfkkeofcaaaGreatDoorGcOrd2
namespace Go.Proofs.YteigmfkkeofcaaaGreatDoor
open Go Go.RowKit
set_option linter.unusedVariables false

theorem infoHp : ElemInfo Tryz.prog 30 29 (.agg #[.pointer none]) 1 8 :=
  ⟨Tryz.underlying30, info_parts (by kernel_rfl), rfl, by decide⟩
/-- A heap, the document's heap as cells, and what both are. -/
structure Duo where
  p : Option Addr
  u : List Value
  t : Hp
def Pair2 (H : GH) (ps : List Duo) : Prop := ∀ a ∈ ps, HpR H a.p a.t ∧ WvR H a.u a.t ∧ Hp.size a.t ≤ 150 ∧ a.u.length = 4
theorem Pair2.mono {H H' : GH} {ps : List Duo} (h : Pair2 H ps) (hl : H.le H') : Pair2 H' ps := fun a ha => ⟨(h a ha).1.mono hl, (h a ha).2.1.mono hl, (h a ha).2.2⟩
theorem Pair2.snoc {H : GH} {ps : List Duo} (h : Pair2 H ps) {a : Duo} (h1 : HpR H a.p a.t) (h2 : WvR H a.u a.t) (h3 : Hp.size a.t ≤ 150) (h4 : a.u.length = 4) : Pair2 H (ps ++ [a]) := by
  intro b hb
  rcases List.mem_append.1 hb with hb | hb
  · exact h b hb
  · obtain rfl := List.mem_singleton.1 hb
    exact ⟨h1, h2, h3, h4⟩
theorem duo_get {ps : List Duo} (hl : ∀ a ∈ ps, a.u.length = 4) {k : Nat} {a : Duo} (h : ps[k]? = some a) {i : Nat} (hi : i < 4) : (ps.flatMap Duo.u)[k * 4 + i]? = a.u[i]? := by
  induction ps generalizing k with
  | nil => simp at h
  | cons b ps ih =>
    have hb := hl b (by simp)
    rw [List.flatMap_cons]
    cases k with
    | zero =>
      simp only [List.getElem?_cons_zero, Option.some.injEq] at h
      subst h
      rw [List.getElem?_append_left (by omega)]
      simp
    | succ k =>
      rw [List.getElem?_append_right (by omega)]
      have : (k + 1) * 4 + i - b.u.length = k * 4 + i := by omega
      rw [this]
      exact ih (fun a ha => hl a (by simp [ha])) (by simpa using h)
/-- What holds ahead of each round of the first loop. -/
def PlaysInv (w : World) (H H2 : GH) (bM : Nat) (ls : List Play) (v6 v7 v8 v9 : Value) (wr : World) : Prop :=
  ∃ (k : Nat) (ps : List Duo) (H' : GH) (c d sn : Int), k ≤ ls.length ∧ Hid (ps.length = k + 1) ∧ v9 = .int .i64 k ∧ v6 = .int .i64 sn ∧ Hid (sn = IntKind.i64.wrap (c + d)) ∧ H2.le H' ∧ Pair2 H' ps ∧
    St w H none 0 0 wr H' [(bM, meterObj c d)] [⟨v7, 29, 1, ps.length, ps.map (fun a => .pointer a.p)⟩, ⟨v8, 37, 4, ps.length, ps.flatMap Duo.u⟩]
/-- .. of the second. -/
def PlaysInv2 (w : World) (H H7 : GH) (bM : Nat) (ps : List Duo) (v7 v8 v26 : Value) (wr : World) : Prop :=
  ∃ (j : Nat) (H8 : GH) (c d : Int), j ≤ ps.length ∧ v26 = .int .i64 j ∧ H7.le H8 ∧
    St w H none 0 0 wr H8 [(bM, meterObj c d)] [⟨v7, 29, 1, ps.length, ps.map (fun a => .pointer a.p)⟩, ⟨v8, 37, 4, ps.length, ps.flatMap Duo.u⟩]

/-! Loads of a heap of the document, of so many cells -/

set_option maxRecDepth 100000 in
set_option maxHeartbeats 100000000 in
theorem plays_walk (H : GH) (w : World) (u : Value) (ls : List Play) (hf : Fits w H) (htab : TabH H) (hr : PlayRep H u ls) :
    Calls Tryz.prog 3 #[u] w fun e w' => e = .returned (.bool true) ∧ Keep none w w' := by
  have hpre : Pre w H none 0 0 := Pre.none hf 0 0
  obtain ⟨hs, hok⟩ := hr
  obtain ⟨b, cap2, rfl, hd1, hd2⟩ := hs.nil_or
  have hd3 : ls.length ≤ 9223372036854775807 := by unfold maxLen at hd2; omega
  clear hd2
  cases hfew : fewB ls with
  | false =>
    as_aux_lemma =>
    go_enter Tryz.func3, Tryz.ntmps3
    have h0 := St.start hpre
    refine wp_seq ?_
    repeat (first | simp only [List.nil_append] at h0 | simp only [List.cons_append] at h0 | simp only [List.set_cons_zero] at h0 | simp only [List.set_cons_succ] at h0 | simp only [List.eraseIdx_zero] at h0 | simp only [List.tail_cons] at h0 | simp only [List.eraseIdx_cons_zero] at h0 | simp only [List.eraseIdx_cons_succ] at h0 | simp only [List.setIfInBounds_toArray] at h0)
    refine wp_region_lit ?_
    iterate 1 (refine wpList_plainQ rfl (fun K Q' hK => ?_); go_simp; refine hK _ _ ?_; clear hK K; try clear Q')
    refine wpList_nil ?_
    show Code.wp _ _ _ _ _
    refine wp_seq ?_
    refine wp_region_lit ?_
    -- stops at: eff:call (Go.Op.call {'callee': (Go.Callee.value (Go.Operand.func 4)), 'args': [], 'argTypes': []}) slot 33
    refine wpList_plainQ rfl (fun K Q' hK => ?_); go_simp
    refine (awake_ok H _ h0.fits htab).mono ?_
    rintro e wAw ⟨HAw, rfl, hpAw⟩
    have h1 := h0.call0 hpAw
    have htab_1 := htab.mono hpAw.le
    refine hK _ _ ?_; clear hK K; try clear Q'
    iterate 1 (refine wpList_plainQ rfl (fun K Q' hK => ?_); go_simp; refine hK _ _ ?_; clear hK K; try clear Q')
    refine wpList_nil ?_
    show Code.wp _ _ _ _ _
    refine wp_seq ?_
    refine wp_seq ?_
    clear h0
    repeat (first | simp only [List.nil_append] at h1 | simp only [List.cons_append] at h1 | simp only [List.set_cons_zero] at h1 | simp only [List.set_cons_succ] at h1 | simp only [List.eraseIdx_zero] at h1 | simp only [List.tail_cons] at h1 | simp only [List.eraseIdx_cons_zero] at h1 | simp only [List.eraseIdx_cons_succ] at h1 | simp only [List.setIfInBounds_toArray] at h1)
    refine wp_region_lit ?_
    iterate 2 (refine wpList_plainQ rfl (fun K Q' hK => ?_); go_simp; refine hK _ _ ?_; clear hK K; try clear Q')
    refine wpList_nil ?_
    show Code.wp _ _ _ _ _
    -- stops at: cond
    refine wp_cond_false (rfl) ?_
    refine wp_skip ?_
    show Code.wp _ _ _ _ _
    refine wp_seq ?_
    refine wp_region_lit ?_
    iterate 1 (refine wpList_plainQ rfl (fun K Q' hK => ?_); go_simp; refine hK _ _ ?_; clear hK K; try clear Q')
    -- stops at: eff:call (Go.Op.call {'callee': (Go.Callee.value (Go.Operand.func 5)), 'args': [(Go.Operand.tmp 36)], 'argTypes': [22]}) slot 37
    refine wpList_plainQ rfl (fun K Q' hK => ?_); go_simp
    refine (few_ok _ _ _ ls h1.fits ⟨hs.mono h1.le, fun a ha => (hok a ha).mono h1.le⟩).mono ?_
    rintro e wF ⟨rfl, hkF⟩
    rw [hfew]
    have h2 := h1.callk hkF
    refine hK _ _ ?_; clear hK K; try clear Q'
    iterate 1 (refine wpList_plainQ rfl (fun K Q' hK => ?_); go_simp; refine hK _ _ ?_; clear hK K; try clear Q')
    refine wpList_nil ?_
    show Code.wp _ _ _ _ _
    refine wp_seq ?_
    refine wp_seq ?_
    clear h1
    repeat (first | simp only [List.nil_append] at h2 | simp only [List.cons_append] at h2 | simp only [List.set_cons_zero] at h2 | simp only [List.set_cons_succ] at h2 | simp only [List.eraseIdx_zero] at h2 | simp only [List.tail_cons] at h2 | simp only [List.eraseIdx_cons_zero] at h2 | simp only [List.eraseIdx_cons_succ] at h2 | simp only [List.setIfInBounds_toArray] at h2)
    refine wp_region_lit ?_
    iterate 2 (refine wpList_plainQ rfl (fun K Q' hK => ?_); go_simp; refine hK _ _ ?_; clear hK K; try clear Q')
    refine wpList_nil ?_
    show Code.wp _ _ _ _ _
    -- stops at: cond
    refine wp_cond_true (rfl) ?_
    refine wp_seq ?_
    refine wp_region_lit ?_
    iterate 1 (refine wpList_plainQ rfl (fun K Q' hK => ?_); go_simp; refine hK _ _ ?_; clear hK K; try clear Q')
    refine wpList_nil ?_
    show Code.wp _ _ _ _ _
    -- stops at: ret
    refine wp_ret ?_
    go_ret
    exact ⟨rfl, h2.post.keep⟩
  | true =>
    obtain ⟨hlen, hl40⟩ := fewB_of hfew
    go_enter Tryz.func3, Tryz.ntmps3
    have h0 := St.start hpre
    refine wp_seq ?_
    repeat (first | simp only [List.nil_append] at h0 | simp only [List.cons_append] at h0 | simp only [List.set_cons_zero] at h0 | simp only [List.set_cons_succ] at h0 | simp only [List.eraseIdx_zero] at h0 | simp only [List.tail_cons] at h0 | simp only [List.eraseIdx_cons_zero] at h0 | simp only [List.eraseIdx_cons_succ] at h0 | simp only [List.setIfInBounds_toArray] at h0)
    refine wp_region_lit ?_
    iterate 1 (refine wpList_plainQ rfl (fun K Q' hK => ?_); go_simp; refine hK _ _ ?_; clear hK K; try clear Q')
    refine wpList_nil ?_
    show Code.wp _ _ _ _ _
    refine wp_seq ?_
    refine wp_region_lit ?_
    -- stops at: eff:call (Go.Op.call {'callee': (Go.Callee.value (Go.Operand.func 4)), 'args': [], 'argTypes': []}) slot 33
    refine wpList_plainQ rfl (fun K Q' hK => ?_); go_simp
    refine (awake_ok H _ h0.fits htab).mono ?_
    rintro e wAw ⟨HAw, rfl, hpAw⟩
    have h1 := h0.call0 hpAw
    have htab_1 := htab.mono hpAw.le
    refine hK _ _ ?_; clear hK K; try clear Q'
    iterate 1 (refine wpList_plainQ rfl (fun K Q' hK => ?_); go_simp; refine hK _ _ ?_; clear hK K; try clear Q')
    refine wpList_nil ?_
    show Code.wp _ _ _ _ _
    refine wp_seq ?_
    refine wp_seq ?_
    clear h0
    repeat (first | simp only [List.nil_append] at h1 | simp only [List.cons_append] at h1 | simp only [List.set_cons_zero] at h1 | simp only [List.set_cons_succ] at h1 | simp only [List.eraseIdx_zero] at h1 | simp only [List.tail_cons] at h1 | simp only [List.eraseIdx_cons_zero] at h1 | simp only [List.eraseIdx_cons_succ] at h1 | simp only [List.setIfInBounds_toArray] at h1)
    refine wp_region_lit ?_
    iterate 2 (refine wpList_plainQ rfl (fun K Q' hK => ?_); go_simp; refine hK _ _ ?_; clear hK K; try clear Q')
    refine wpList_nil ?_
    show Code.wp _ _ _ _ _
    -- stops at: cond
    refine wp_cond_false (rfl) ?_
    refine wp_skip ?_
    show Code.wp _ _ _ _ _
    refine wp_seq ?_
    refine wp_region_lit ?_
    iterate 1 (refine wpList_plainQ rfl (fun K Q' hK => ?_); go_simp; refine hK _ _ ?_; clear hK K; try clear Q')
    -- stops at: eff:call (Go.Op.call {'callee': (Go.Callee.value (Go.Operand.func 5)), 'args': [(Go.Operand.tmp 36)], 'argTypes': [22]}) slot 37
    refine wpList_plainQ rfl (fun K Q' hK => ?_); go_simp
    refine (few_ok _ _ _ ls h1.fits ⟨hs.mono h1.le, fun a ha => (hok a ha).mono h1.le⟩).mono ?_
    rintro e wF ⟨rfl, hkF⟩
    rw [hfew]
    have h2 := h1.callk hkF
    refine hK _ _ ?_; clear hK K; try clear Q'
    iterate 1 (refine wpList_plainQ rfl (fun K Q' hK => ?_); go_simp; refine hK _ _ ?_; clear hK K; try clear Q')
    refine wpList_nil ?_
    show Code.wp _ _ _ _ _
    refine wp_seq ?_
    refine wp_seq ?_
    clear h1
    repeat (first | simp only [List.nil_append] at h2 | simp only [List.cons_append] at h2 | simp only [List.set_cons_zero] at h2 | simp only [List.set_cons_succ] at h2 | simp only [List.eraseIdx_zero] at h2 | simp only [List.tail_cons] at h2 | simp only [List.eraseIdx_cons_zero] at h2 | simp only [List.eraseIdx_cons_succ] at h2 | simp only [List.setIfInBounds_toArray] at h2)
    refine wp_region_lit ?_
    iterate 2 (refine wpList_plainQ rfl (fun K Q' hK => ?_); go_simp; refine hK _ _ ?_; clear hK K; try clear Q')
    refine wpList_nil ?_
    show Code.wp _ _ _ _ _
    -- stops at: cond
    refine wp_cond_false (rfl) ?_
    refine wp_skip ?_
    show Code.wp _ _ _ _ _
    refine wp_seq ?_
    refine wp_region_lit ?_
    -- stops at: eff:call (Go.Op.call {'callee': (Go.Callee.value (Go.Operand.func 6)), 'args': [], 'argTypes': []}) slot 40
    refine wpList_plainQ rfl (fun K Q' hK => ?_); go_simp
    refine (new_ok _ _ h2.fits).mono ?_
    rintro e wM ⟨bM, rfl, hkM, hbM, hoM⟩
    have hM := h2.callnew hkM hbM hoM rfl
    refine hK _ _ ?_; clear hK K; try clear Q'
    iterate 1 (refine wpList_plainQ rfl (fun K Q' hK => ?_); go_simp; refine hK _ _ ?_; clear hK K; try clear Q')
    refine wpList_nil ?_
    show Code.wp _ _ _ _ _
    refine wp_seq ?_
    clear h2
    repeat (first | simp only [List.nil_append] at hM | simp only [List.cons_append] at hM | simp only [List.set_cons_zero] at hM | simp only [List.set_cons_succ] at hM | simp only [List.eraseIdx_zero] at hM | simp only [List.tail_cons] at hM | simp only [List.eraseIdx_cons_zero] at hM | simp only [List.eraseIdx_cons_succ] at hM | simp only [List.setIfInBounds_toArray] at hM)
    refine wp_region_lit ?_
    iterate 1 (refine wpList_plainQ rfl (fun K Q' hK => ?_); go_simp; refine hK _ _ ?_; clear hK K; try clear Q')
    refine wpList_nil ?_
    show Code.wp _ _ _ _ _
    refine wp_seq ?_
    refine wp_region_lit ?_
    iterate 1 (refine wpList_plainQ rfl (fun K Q' hK => ?_); go_simp; refine hK _ _ ?_; clear hK K; try clear Q')
    refine wpList_plainQ rfl (fun K Q' hK => ?_); go_simp
    refine hM.k_alloc (fun w3 h3 => ?_)
    refine hK _ _ ?_; clear hK K; try clear Q'
    iterate 1 (refine wpList_plainQ rfl (fun K Q' hK => ?_); go_simp; refine hK _ _ ?_; clear hK K; try clear Q')
    refine wpList_nil ?_
    show Code.wp _ _ _ _ _
    refine wp_seq ?_
    repeat (first | simp only [List.nil_append] at h3 | simp only [List.cons_append] at h3 | simp only [List.set_cons_zero] at h3 | simp only [List.set_cons_succ] at h3 | simp only [List.eraseIdx_zero] at h3 | simp only [List.tail_cons] at h3 | simp only [List.eraseIdx_cons_zero] at h3 | simp only [List.eraseIdx_cons_succ] at h3 | simp only [List.setIfInBounds_toArray] at h3)
    refine wp_region_lit ?_
    iterate 1 (refine wpList_plainQ rfl (fun K Q' hK => ?_); go_simp; refine hK _ _ ?_; clear hK K; try clear Q')
    refine wpList_plainQ rfl (fun K Q' hK => ?_); go_simp
    refine h3.k_alloc (fun w4 h4 => ?_)
    refine hK _ _ ?_; clear hK K; try clear Q'
    iterate 1 (refine wpList_plainQ rfl (fun K Q' hK => ?_); go_simp; refine hK _ _ ?_; clear hK K; try clear Q')
    refine wpList_nil ?_
    show Code.wp _ _ _ _ _
    refine wp_seq ?_
    refine wp_seq ?_
    clear h3
    repeat (first | simp only [List.nil_append] at h4 | simp only [List.cons_append] at h4 | simp only [List.set_cons_zero] at h4 | simp only [List.set_cons_succ] at h4 | simp only [List.eraseIdx_zero] at h4 | simp only [List.tail_cons] at h4 | simp only [List.eraseIdx_cons_zero] at h4 | simp only [List.eraseIdx_cons_succ] at h4 | simp only [List.setIfInBounds_toArray] at h4)
    refine wp_region_lit ?_
    iterate 1 (refine wpList_plainQ rfl (fun K Q' hK => ?_); go_simp; refine hK _ _ ?_; clear hK K; try clear Q')
    refine wpList_nil ?_
    show Code.wp _ _ _ _ _
    refine wp_block ?_
    -- stops at: loop
    repeat (first | simp only [List.nil_append] at h4 | simp only [List.cons_append] at h4 | simp only [List.set_cons_zero] at h4 | simp only [List.set_cons_succ] at h4 | simp only [List.eraseIdx_zero] at h4 | simp only [List.tail_cons] at h4 | simp only [List.eraseIdx_cons_zero] at h4 | simp only [List.eraseIdx_cons_succ] at h4 | simp only [List.setIfInBounds_toArray] at h4)
    have hR1 := h4.rowOf 1 rfl 1 1 rfl (by unfold maxLen; omega)
    have hR2 := hR1.rowOf 1 rfl 4 1 rfl (by unfold maxLen; omega)
    obtain ⟨H2, hH2⟩ : ∃ H2, HAw = H2 := ⟨_, rfl⟩
    rw [hH2] at hR2
    clear hH2
    go_loopw [6, 7, 8, 9] (fun v6 v7 v8 v9 wr => PlaysInv w H H2 bM ls v6 v7 v8 v9 wr) (fun _ _ _ v9 _ => ls.length - (intOf v9).toNat)
    case atStart =>
      show PlaysInv _ _ _ _ _ _ _ _ _ _
      unfold PlaysInv
      refine ⟨0, [⟨none, [.bool false, .int .i64 0, .int .i64 0, .slice none 0 0], Hp.nil⟩], H2, 0, 0, 0, by omega, rfl, rfl, rfl, rfl, GH.le_refl _, ?_, hR2⟩
      intro a ha
      obtain rfl := List.mem_singleton.1 ha
      exact ⟨HpR.nil _, WvR.nil _, by show Hp.size Hp.nil ≤ 150; rw [Hp.size_eq, Hp.els_nil]; simp, rfl⟩
    case round =>
      obtain ⟨k, ps, H3, c3, d3, sn, hk, hpl, rfl, rfl, hsn, hle, hheld, hs1⟩ := hrel
      obtain ⟨g7, c7, rfl⟩ := hs1.row_some 0 rfl (by have := hpl.out; omega)
      obtain ⟨g8, c8, rfl⟩ := hs1.row_some 1 rfl (by have := hpl.out; omega)
      have hul : ∀ a ∈ ps, a.u.length = 4 := fun a ha => (hheld a ha).2.2.2
      by_cases hlt : k < ls.length
      · obtain ⟨bl, ol, _, e1, _⟩ := hs.ne_nil (by omega)
        simp only [Value.slice.injEq, true_and] at e1
        obtain ⟨rfl, rfl⟩ := e1
        have hg : ls[k]? = some ls[k] := by simp [hlt]
        obtain ⟨⟨kd, ta, tt, x, vl, ll⟩, hpl2⟩ : ∃ pl, Hid (ls[k] = pl) := ⟨ls[k], show _ = _ from rfl⟩
        rw [hpl2.out] at hg
        have hll := hl40 _ (List.mem_of_getElem? hg)
        have hpk := hok _ (List.mem_of_getElem? hg)
        obtain ⟨hkd, hta, htt, hxf, hel, hef⟩ := hpk
        simp only at hkd hta htt hxf hel hef hll
        have cl6 : Hid (∀ i z, i < 6 → (Play.cells ⟨kd, ta, tt, x, vl, ll⟩)[i]? = some z → ∀ W', Fits W' H → W'.cell? ⟨bl, ol + k * 6 + i, none⟩ = some z) := fun i z hi hu W' hF => by
          rw [Nat.add_assoc]; exact hs.cell hF (k * 6 + i) (by rw [play_get ls k _ hg i hi]; exact hu)
        have eta : IntKind.i64.wrap (ta : Int) = (ta : Int) := IntWalk.i64_in _ (by omega)
        have ett : IntKind.i64.wrap (tt : Int) = (tt : Int) := IntWalk.i64_in _ (by omega)
        have hp0 : 0 < ps.length := by have := hpl.out; omega
        have hp31 : ps.length ≤ 31 := by have := hpl.out; omega
        have hne : ¬ ps = [] := by rintro rfl; simp at hp0
        obtain ⟨ia, hia, hil⟩ : ∃ ia : Nat, (ta : Int).tmod (ps.length : Int) = (ia : Int) ∧ ia < ps.length := ⟨ta % ps.length, rfl, Nat.mod_lt _ hp0⟩
        obtain ⟨it, hit, hitl⟩ : ∃ it : Nat, (tt : Int).tmod (ps.length : Int) = (it : Int) ∧ it < ps.length := ⟨tt % ps.length, rfl, Nat.mod_lt _ hp0⟩
        obtain ⟨⟨qa, ua, tA⟩, hpa⟩ : ∃ p, ps[ia]? = some p := ⟨ps[ia], by simp [hil]⟩
        obtain ⟨⟨qb, ub, tB⟩, hpb⟩ : ∃ p, ps[it]? = some p := ⟨ps[it], by simp [hitl]⟩
        obtain ⟨hqa, hwa, hza, _⟩ := hheld _ (List.mem_of_getElem? hpa)
        obtain ⟨hqb, hwb, hzb, _⟩ := hheld _ (List.mem_of_getElem? hpb)
        simp only at hqa hwa hza hqb hwb hzb
        obtain ⟨ba, pa, za, aa, na, ca, rfl⟩ := hwa.form
        obtain ⟨bb, pb, zb, ab, nb, cb, rfl⟩ := hwb.form
        have ga : (ps.map (fun a => Value.pointer a.p))[ia]? = some (.pointer qa) := by simp [hpa]
        have gb : (ps.map (fun a => Value.pointer a.p))[it]? = some (.pointer qb) := by simp [hpb]
        have fa0 := (duo_get hul hpa (i := 0) (by omega)).trans (rfl : _ = some _)
        rw [Nat.add_zero] at fa0
        have fa1 := (duo_get hul hpa (i := 1) (by omega)).trans (rfl : _ = some _)
        have fa2 := (duo_get hul hpa (i := 2) (by omega)).trans (rfl : _ = some _)
        have fa3 := (duo_get hul hpa (i := 3) (by omega)).trans (rfl : _ = some _)
        have fb0 := (duo_get hul hpb (i := 0) (by omega)).trans (rfl : _ = some _)
        rw [Nat.add_zero] at fb0
        have fb1 := (duo_get hul hpb (i := 1) (by omega)).trans (rfl : _ = some _)
        have fb2 := (duo_get hul hpb (i := 2) (by omega)).trans (rfl : _ = some _)
        have fb3 := (duo_get hul hpb (i := 3) (by omega)).trans (rfl : _ = some _)
        obtain ⟨na, hna⟩ : ∃ n, Hid (Hp.size tA = n) := ⟨_, show _ = _ from rfl⟩
        obtain ⟨nb, hnb⟩ : ∃ n, Hid (Hp.size tB = n) := ⟨_, show _ = _ from rfl⟩
        have hnal : na ≤ 150 := by have := hna.out; omega
        have hnbl : nb ≤ 150 := by have := hnb.out; omega
        obtain ⟨al, cpl, hvlE, _, _⟩ := hel.nil_or
        obtain ⟨nl, hnl⟩ : ∃ n, Hid (ll.length = n) := ⟨_, show _ = _ from rfl⟩
        rw [hnl.out] at hvlE hll
        subst hvlE
        obtain ⟨nab, hnab⟩ : ∃ n, Hid (na + nb = n) := ⟨_, show _ = _ from rfl⟩
        have e6 : IntKind.i64.wrap ((na : Int) + (nb : Int)) = (nab : Int) := by have := hnab.out; rw [IntWalk.i64_in _ (by omega)]; omega
        have e5 : IntKind.i64.wrap ((k : Int) + 1) = (k : Int) + 1 := IntWalk.i64_in _ (by omega)
        refine wp_seq ?_
        refine wp_seq ?_
        clear h4
        repeat (first | simp only [List.nil_append] at hs1 | simp only [List.cons_append] at hs1 | simp only [List.set_cons_zero] at hs1 | simp only [List.set_cons_succ] at hs1 | simp only [List.eraseIdx_zero] at hs1 | simp only [List.tail_cons] at hs1 | simp only [List.eraseIdx_cons_zero] at hs1 | simp only [List.eraseIdx_cons_succ] at hs1 | simp only [List.setIfInBounds_toArray] at hs1)
        refine wp_region_lit ?_
        iterate 4 (refine wpList_plainQ rfl (fun K Q' hK => ?_); go_simp; refine hK _ _ ?_; clear hK K; try clear Q')
        refine wpList_nil ?_
        show Code.wp _ _ _ _ _
        -- stops at: cond
        refine wp_cond_true (rfl) ?_
        refine wp_skip ?_
        show Code.wp _ _ _ _ _
        refine wp_seq ?_
        refine wp_block ?_
        refine wp_seq ?_
        refine wp_region_lit ?_
        iterate 4 (refine wpList_plainQ rfl (fun K Q' hK => ?_); go_simp; refine hK _ _ ?_; clear hK K; try clear Q')
        -- stops at: load (Go.Op.load 5 (Go.Operand.tmp 54)) slot 55
        have ce := cl6.out 1 _ (by omega) rfl _ (hs1.fits.le hs1.le)
        iterate 1 (refine wpList_plainQ rfl (fun K Q' hK => ?_); go_simp; refine hK _ _ ?_; clear hK K; try clear Q')
        iterate 5 (refine wpList_plainQ rfl (fun K Q' hK => ?_); go_simp; refine hK _ _ ?_; clear hK K; try clear Q')
        refine wpList_nil ?_
        show Code.wp _ _ _ _ _
        refine wp_seq ?_
        refine wp_region_lit ?_
        iterate 4 (refine wpList_plainQ rfl (fun K Q' hK => ?_); go_simp; refine hK _ _ ?_; clear hK K; try clear Q')
        -- stops at: load (Go.Op.load 5 (Go.Operand.tmp 63)) slot 64
        have ce := cl6.out 2 _ (by omega) rfl _ (hs1.fits.le hs1.le)
        iterate 1 (refine wpList_plainQ rfl (fun K Q' hK => ?_); go_simp; refine hK _ _ ?_; clear hK K; try clear Q')
        clear ce
        iterate 5 (refine wpList_plainQ rfl (fun K Q' hK => ?_); go_simp; refine hK _ _ ?_; clear hK K; try clear Q')
        refine wpList_nil ?_
        show Code.wp _ _ _ _ _
        refine wp_seq ?_
        refine wp_seq ?_
        refine hs1.regionR [] [1] [(0, true), (1, true), (2, true), (3, true), (5, true), (6, true), (7, true), (8, true), (4, false), (9, false), (10, true), (11, true)] (by kernel_rfl) (by kernel_rfl) (fun w5 h5 => ?_)
        refine wpOrd_hide (fun _ _ d _ _ h => by cases d <;> exact h) (fun QR hQn hQp => ?_)
        simp only [ordOps, List.map_cons, List.map_nil, List.getD_cons_zero, List.getD_cons_succ]
        iterate 3 (refine wpOrd_quiet (v := ?_) rfl (fun _ _ _ => hQp _ _ _ _ _) ?_ ?_; rotate_left; (intro w' hS; (first | (go_simp; done) | (go_simp; with_reducible rfl))); simp only [Act.put, List.setIfInBounds_toArray, List.set_cons_zero, List.set_cons_succ])
        -- stops at: load (Go.Op.load 37 (Go.Operand.tmp 71)) slot 72
        iterate 1 (refine wpOrd_quiet (v := ?_) rfl (fun _ _ _ => hQp _ _ _ _ _) ?_ ?_; rotate_left; (intro w' hS; have ce0 := hS.rowcell 0 rfl (ia * 4) fa0; have ce1 := hS.rowcell 0 rfl (ia * 4 + 1) fa1; have ce2 := hS.rowcell 0 rfl (ia * 4 + 2) fa2; have ce3 := hS.rowcell 0 rfl (ia * 4 + 3) fa3; (first | (go_simp; done) | (go_simp; with_reducible rfl))); simp only [Act.put, List.setIfInBounds_toArray, List.set_cons_zero, List.set_cons_succ])
        iterate 3 (refine wpOrd_quiet (v := ?_) rfl (fun _ _ _ => hQp _ _ _ _ _) ?_ ?_; rotate_left; (intro w' hS; (first | (go_simp; done) | (go_simp; with_reducible rfl))); simp only [Act.put, List.setIfInBounds_toArray, List.set_cons_zero, List.set_cons_succ])
        -- stops at: load (Go.Op.load 37 (Go.Operand.tmp 76)) slot 77
        iterate 1 (refine wpOrd_quiet (v := ?_) rfl (fun _ _ _ => hQp _ _ _ _ _) ?_ ?_; rotate_left; (intro w' hS; have ce0 := hS.rowcell 0 rfl (it * 4) fb0; have ce1 := hS.rowcell 0 rfl (it * 4 + 1) fb1; have ce2 := hS.rowcell 0 rfl (it * 4 + 2) fb2; have ce3 := hS.rowcell 0 rfl (it * 4 + 3) fb3; (first | (go_simp; done) | (go_simp; with_reducible rfl))); simp only [Act.put, List.setIfInBounds_toArray, List.set_cons_zero, List.set_cons_succ])
        -- stops at: eff:call (Go.Op.call {'callee': (Go.Callee.value (Go.Operand.func 7)), 'args': [(Go.Operand.tmp 72)], 'argTypes': [37]}) slot 73
        refine wpOrd_effQ rfl (fun K Q' hK => ?_); go_simp
        refine (wsize_ok h5.fits (by omega) hwa).mono ?_
        rintro e wA1 ⟨rfl, hkA1⟩
        rw [hna.out]
        have h6 := h5.callk hkA1
        refine hK _ _ (h6.satR' (GH.le_refl _) [] [1] (sel_nil2 _ _) (by kernel_rfl)) ?_; clear hK K; try clear Q'
        -- stops at: eff:call (Go.Op.call {'callee': (Go.Callee.value (Go.Operand.func 7)), 'args': [(Go.Operand.tmp 77)], 'argTypes': [37]}) slot 78
        refine wpOrd_effQ rfl (fun K Q' hK => ?_); go_simp
        refine (wsize_ok h6.fits (by omega) hwb).mono ?_
        rintro e wA2 ⟨rfl, hkA2⟩
        rw [hnb.out]
        have h7 := h6.callk hkA2
        refine hK _ _ (h7.satR' (GH.le_refl _) [] [1] (sel_nil2 _ _) (by kernel_rfl)) ?_; clear hK K; try clear Q'
        iterate 2 (refine wpOrd_quiet (v := ?_) rfl (fun _ _ _ => hQp _ _ _ _ _) ?_ ?_; rotate_left; (intro w' hS; (first | (go_simp; done) | (go_simp; with_reducible rfl))); simp only [Act.put, List.setIfInBounds_toArray, List.set_cons_zero, List.set_cons_succ])
        refine wpOrd_nil (hQn _ _ ?_); clear hQn hQp QR
        show Code.wp _ _ _ _ _
        -- stops at: cond
        by_cases hsum : nab ≤ 120
        · have d1 : decide ((120 : Int) < (nab : Int)) = false := decide_eq_false (by omega)
          have hs120 : Hp.size tA + Hp.size tB ≤ 120 := by have := hna.out; have := hnb.out; have := hnab.out; omega
          refine wp_cond_false (congrArg Value.bool d1) ?_
          refine wp_skip ?_
          show Code.wp _ _ _ _ _
          refine wp_seq ?_
          clear h5 h6
          repeat (first | simp only [List.nil_append] at h7 | simp only [List.cons_append] at h7 | simp only [List.set_cons_zero] at h7 | simp only [List.set_cons_succ] at h7 | simp only [List.eraseIdx_zero] at h7 | simp only [List.tail_cons] at h7 | simp only [List.eraseIdx_cons_zero] at h7 | simp only [List.eraseIdx_cons_succ] at h7 | simp only [List.setIfInBounds_toArray] at h7)
          refine wp_region_lit ?_
          refine wpList_plainQ rfl (fun K Q' hK => ?_); go_simp
          refine h7.k_alloc (fun w8 h8 => ?_)
          refine hK _ _ ?_; clear hK K; try clear Q'
          refine wpList_nil ?_
          show Code.wp _ _ _ _ _
          refine wp_seq ?_
          clear h7
          repeat (first | simp only [List.nil_append] at h8 | simp only [List.cons_append] at h8 | simp only [List.set_cons_zero] at h8 | simp only [List.set_cons_succ] at h8 | simp only [List.eraseIdx_zero] at h8 | simp only [List.tail_cons] at h8 | simp only [List.eraseIdx_cons_zero] at h8 | simp only [List.eraseIdx_cons_succ] at h8 | simp only [List.setIfInBounds_toArray] at h8)
          refine wp_region_lit ?_
          refine wpList_plainQ rfl (fun K Q' hK => ?_); go_simp
          refine h8.k_alloc (fun w9 h9 => ?_)
          refine hK _ _ ?_; clear hK K; try clear Q'
          refine wpList_nil ?_
          show Code.wp _ _ _ _ _
          refine wp_seq ?_
          clear h8
          repeat (first | simp only [List.nil_append] at h9 | simp only [List.cons_append] at h9 | simp only [List.set_cons_zero] at h9 | simp only [List.set_cons_succ] at h9 | simp only [List.eraseIdx_zero] at h9 | simp only [List.tail_cons] at h9 | simp only [List.eraseIdx_cons_zero] at h9 | simp only [List.eraseIdx_cons_succ] at h9 | simp only [List.setIfInBounds_toArray] at h9)
          refine wp_region_lit ?_
          iterate 1 (refine wpList_plainQ rfl (fun K Q' hK => ?_); go_simp; refine hK _ _ ?_; clear hK K; try clear Q')
          refine wpList_nil ?_
          show Code.wp _ _ _ _ _
          refine wp_seq ?_
          refine wp_seq ?_
          refine wp_region_lit ?_
          iterate 4 (refine wpList_plainQ rfl (fun K Q' hK => ?_); go_simp; refine hK _ _ ?_; clear hK K; try clear Q')
          -- stops at: load (Go.Op.load 5 (Go.Operand.tmp 84)) slot 85
          have ce := cl6.out 0 _ (by omega) rfl _ (h9.fits.le h9.le)
          simp only [Nat.add_zero] at ce
          iterate 1 (refine wpList_plainQ rfl (fun K Q' hK => ?_); go_simp; refine hK _ _ ?_; clear hK K; try clear Q')
          refine wpList_nil ?_
          show Code.wp _ _ _ _ _
          refine wp_block ?_
          refine wp_seq ?_
          refine wp_region_lit ?_
          clear ce
          by_cases hk0 : kd = 0
          · subst hk0
            have szN : Hp.size (Hp.insert x tA) ≤ 150 := by have := Hp.size_insert x hqa.ok; omega
            obtain ⟨nn, hnn⟩ : ∃ n, Hid (Hp.insC x tA + Hp.insD x tA = n) := ⟨_, show _ = _ from rfl⟩
            iterate 2 (refine wpList_plainQ rfl (fun K Q' hK => ?_); go_simp; refine hK _ _ ?_; clear hK K; try clear Q')
            refine wpList_nil ?_
            show Code.wp _ _ _ _ _
            -- stops at: cond
            refine wp_cond_true (rfl) ?_
            refine wp_seq ?_
            refine h9.regionR [] [0] [(0, true), (1, true), (2, true), (3, true), (4, true), (5, true), (6, true), (7, true), (8, true), (9, true), (10, false), (11, false)] (by kernel_rfl) (by kernel_rfl) (fun w10 h10 => ?_)
            refine wpOrd_hide (fun _ _ d _ _ h => by cases d <;> exact h) (fun QR hQn hQp => ?_)
            simp only [ordOps, List.map_cons, List.map_nil, List.getD_cons_zero, List.getD_cons_succ]
            iterate 3 (refine wpOrd_quiet (v := ?_) rfl (fun _ _ _ => hQp _ _ _ _ _) ?_ ?_; rotate_left; (intro w' hS; (first | (go_simp; done) | (go_simp; with_reducible rfl))); simp only [Act.put, List.setIfInBounds_toArray, List.set_cons_zero, List.set_cons_succ])
            -- stops at: load (Go.Op.load 29 (Go.Operand.tmp 124)) slot 125
            iterate 1 (refine wpOrd_quiet (v := ?_) rfl (fun _ _ _ => hQp _ _ _ _ _) ?_ ?_; rotate_left; (intro w' hS; have ce := hS.rowcell 0 rfl ia ga; (first | (go_simp; done) | (go_simp; with_reducible rfl))); simp only [Act.put, List.setIfInBounds_toArray, List.set_cons_zero, List.set_cons_succ])
            iterate 5 (refine wpOrd_quiet (v := ?_) rfl (fun _ _ _ => hQp _ _ _ _ _) ?_ ?_; rotate_left; (intro w' hS; (first | (go_simp; done) | (go_simp; with_reducible rfl))); simp only [Act.put, List.setIfInBounds_toArray, List.set_cons_zero, List.set_cons_succ])
            -- stops at: load (Go.Op.load 32 (Go.Operand.tmp 130)) slot 131
            iterate 1 (refine wpOrd_quiet (v := ?_) rfl (fun _ _ _ => hQp _ _ _ _ _) ?_ ?_; rotate_left; (intro w' hS; have ce := cl6.out 3 _ (by omega) rfl _ (hS.fits.le h10.le); have ce4 := cl6.out 4 _ (by omega) rfl _ (hS.fits.le h10.le); (first | (go_simp; done) | (go_simp; with_reducible rfl))); simp only [Act.put, List.setIfInBounds_toArray, List.set_cons_zero, List.set_cons_succ])
            -- stops at: eff:call (Go.Op.call {'callee': (Go.Callee.value (Go.Operand.func 8)), 'args': [(Go.Operand.tmp 125), (Go.Operand.tmp 126), (Go.Operand.tmp 131)], 'argTypes': [29, 25, 3 slot 132
            refine wpOrd_effQ rfl (fun K Q' hK => ?_); go_simp
            refine (hinsert_ok (m := some bM) x hxf (h10.pre_at (i := 0) rfl) (by omega) hqa).mono ?_
            rintro e wP ⟨r1, H4, rfl, hpP, hN1⟩
            have h11 := h10.call_at (i := 0) rfl hpP
            refine hK _ _ (h11.satR' hpP.le [] [0] (sel_nil2 _ _) (by kernel_rfl)) ?_; clear hK K; try clear Q'
            have c_0 := h11.cell 1 rfl 0 rfl
            have f_0 := h11.free 1 rfl 0
            refine wpOrd_effQ rfl (fun K Q' hK => ?_); go_simp
            clear c_0 f_0
            refine h11.k_set 1 rfl (fun w12 h12 => ?_)
            refine hK _ _ (h12.satR' hpP.le [] [0] (sel_nil2 _ _) (by kernel_rfl)) ?_; clear hK K; try clear Q'
            refine wpOrd_nil (hQn _ _ ?_); clear hQn hQp QR
            show Code.wp _ _ _ _ _
            refine wp_seq ?_
            clear h10 h11
            repeat (first | simp only [List.nil_append] at h12 | simp only [List.cons_append] at h12 | simp only [List.set_cons_zero] at h12 | simp only [List.set_cons_succ] at h12 | simp only [List.eraseIdx_zero] at h12 | simp only [List.tail_cons] at h12 | simp only [List.eraseIdx_cons_zero] at h12 | simp only [List.eraseIdx_cons_succ] at h12 | simp only [List.setIfInBounds_toArray] at h12)
            refine h12.regionTR [] [1] (.one 0 true (.one 1 true (.one 2 true (.one 3 true (.one 4 true (.one 5 true (.one 6 true (.one 7 true (.one 8 true (.two (.one 9 false (.one 10 true (.one 11 true (.one 12 true (.one 13 false (.one 14 false (.one 15 true .nil))))))) (.one 13 false (.one 9 false (.one 10 true (.one 11 true (.one 12 true (.one 14 false (.one 15 true .nil))))))))))))))))) (by as_aux_lemma => kernel_rfl) (by as_aux_lemma => kernel_rfl) (fun w13 h13 => ?_)
            refine wpT_hide (fun _ _ d _ _ h => by cases d <;> exact h) (fun QR hQn hQp => ?_)
            dsimp only [OT.ops, List.getD_cons_zero, List.getD_cons_succ]
            iterate 4 (refine wpT_quiet (v := ?_) rfl (fun _ _ _ => hQp _ _ _ _ _) ?_ ?_; rotate_left; (intro w' hS; (first | (go_simp; done) | (go_simp; with_reducible rfl))); simp only [Act.put, List.setIfInBounds_toArray])
            -- stops at: load (Go.Op.load 32 (Go.Operand.tmp 137)) slot 138
            iterate 1 (refine wpT_quiet (v := ?_) rfl (fun _ _ _ => hQp _ _ _ _ _) ?_ ?_; rotate_left; (intro w' hS; have ce := cl6.out 3 _ (by omega) rfl _ (hS.fits.le h13.le); have ce4 := cl6.out 4 _ (by omega) rfl _ (hS.fits.le h13.le); (first | (go_simp; done) | (go_simp; with_reducible rfl))); simp only [Act.put])
            iterate 3 (refine wpT_quiet (v := ?_) rfl (fun _ _ _ => hQp _ _ _ _ _) ?_ ?_; rotate_left; (intro w' hS; (first | (go_simp; done) | (go_simp; with_reducible rfl))); simp only [Act.put])
            -- stops at: load (Go.Op.load 37 (Go.Operand.tmp 141)) slot 142
            iterate 1 (refine wpT_quiet (v := ?_) rfl (fun _ _ _ => hQp _ _ _ _ _) ?_ ?_; rotate_left; (intro w' hS; have ce0 := hS.rowcell 0 rfl (ia * 4) fa0; have ce1 := hS.rowcell 0 rfl (ia * 4 + 1) fa1; have ce2 := hS.rowcell 0 rfl (ia * 4 + 2) fa2; have ce3 := hS.rowcell 0 rfl (ia * 4 + 3) fa3; (first | (go_simp; done) | (go_simp; with_reducible rfl))); simp only [Act.put])
            refine wpT_two ?_ ?_
            -- stops at: fork 
            · skip
              -- stops at: eff:call (Go.Op.call {'callee': (Go.Callee.value (Go.Operand.func 9)), 'args': [(Go.Operand.tmp 138), (Go.Operand.tmp 142)], 'argTypes': [32, 37]}) slot 143
              refine wpT_effQ rfl (fun K Q' hK => ?_); go_simp
              refine (winsert_ok x h13.fits (by omega) (hwa.mono hpP.le)).mono ?_
              rintro e wQ ⟨ds, HX9, rfl, hpQ, hN2⟩
              obtain ⟨bv, pv, zv, av, nv, cv, rfl⟩ := hN2.form
              rw [hnn.out]
              have h14 := h13.call0 hpQ
              refine hK _ _ (h14.satR' hpQ.le [] [1] (sel_nil2 _ _) (by kernel_rfl)) ?_; clear hK K; try clear Q'
              iterate 3 (refine wpT_quiet (v := ?_) rfl (fun _ _ _ => hQp _ _ _ _ _) ?_ ?_; rotate_left; (intro w' hS; (first | (go_simp; done) | (go_simp; with_reducible rfl))); simp only [Act.put, List.setIfInBounds_toArray])
              refine wpT_effQ rfl (fun K Q' hK => ?_); go_simp
              refine h14.k_alloc (fun w15 h15 => ?_)
              refine hK _ _ (h15.satR' hpQ.le [] [1] (sel_nil2 _ _) (by kernel_rfl)) ?_; clear hK K; try clear Q'
              have c_0 := h15.cell 3 rfl 0 rfl
              have f_0 := h15.free 3 rfl 0
              have c_1 := h15.cell 3 rfl 1 rfl
              have f_1 := h15.free 3 rfl 1
              have c_2 := h15.cell 3 rfl 2 rfl
              have f_2 := h15.free 3 rfl 2
              have c_3 := h15.cell 3 rfl 3 rfl
              have f_3 := h15.free 3 rfl 3
              refine wpT_effQ rfl (fun K Q' hK => ?_); go_simp
              clear c_0 f_0 c_1 f_1 c_2 f_2 c_3 f_3
              refine (((h15.set (i := 3) rfl 0 _).set (i := 3) rfl 1 _).set (i := 3) rfl 2 _).k_set 3 rfl (fun w16 h16 => ?_)
              refine hK _ _ (h16.satR' hpQ.le [] [1] (sel_nil2 _ _) (by kernel_rfl)) ?_; clear hK K; try clear Q'
              iterate 1 (refine wpT_quiet (v := ?_) rfl (fun _ _ _ => hQp _ _ _ _ _) ?_ ?_; rotate_left; (intro w' hS; (first | (go_simp; done) | (go_simp; with_reducible rfl))); simp only [Act.put, List.setIfInBounds_toArray])
              refine wpT_nil (hQn _ _ ?_); clear hQn hQp QR
              show Code.wp _ _ _ _ _
              refine wp_seq ?_
              clear h13 h14 h15
              repeat (first | simp only [List.nil_append] at h16 | simp only [List.cons_append] at h16 | simp only [List.set_cons_zero] at h16 | simp only [List.set_cons_succ] at h16 | simp only [List.eraseIdx_zero] at h16 | simp only [List.tail_cons] at h16 | simp only [List.eraseIdx_cons_zero] at h16 | simp only [List.eraseIdx_cons_succ] at h16 | simp only [List.setIfInBounds_toArray] at h16)
              refine wp_region_lit ?_
              have c_3_0 := h16.cell 3 rfl 0 rfl
              have c_3_1 := h16.cell 3 rfl 1 rfl
              have c_3_2 := h16.cell 3 rfl 2 rfl
              have c_3_3 := h16.cell 3 rfl 3 rfl
              iterate 1 (refine wpList_plainQ rfl (fun K Q' hK => ?_); go_simp; refine hK _ _ ?_; clear hK K; try clear Q')
              clear c_3_0 c_3_1 c_3_2 c_3_3
              have c_0 := h16.cell 2 rfl 0 rfl
              have f_0 := h16.free 2 rfl 0
              have c_1 := h16.cell 2 rfl 1 rfl
              have f_1 := h16.free 2 rfl 1
              have c_2 := h16.cell 2 rfl 2 rfl
              have f_2 := h16.free 2 rfl 2
              have c_3 := h16.cell 2 rfl 3 rfl
              have f_3 := h16.free 2 rfl 3
              refine wpList_plainQ rfl (fun K Q' hK => ?_); go_simp
              clear c_0 f_0 c_1 f_1 c_2 f_2 c_3 f_3
              refine (((h16.set (i := 2) rfl 0 _).set (i := 2) rfl 1 _).set (i := 2) rfl 2 _).k_set 2 rfl (fun w17 h17 => ?_)
              refine hK _ _ ?_; clear hK K; try clear Q'
              refine wpList_nil ?_
              show Code.wp _ _ _ _ _
              clear h16
              repeat (first | simp only [List.nil_append] at h17 | simp only [List.cons_append] at h17 | simp only [List.set_cons_zero] at h17 | simp only [List.set_cons_succ] at h17 | simp only [List.eraseIdx_zero] at h17 | simp only [List.tail_cons] at h17 | simp only [List.eraseIdx_cons_zero] at h17 | simp only [List.eraseIdx_cons_succ] at h17 | simp only [List.setIfInBounds_toArray] at h17)
              refine wp_region_lit ?_
              iterate 2 (refine wpList_plainQ rfl (fun K Q' hK => ?_); go_simp; refine hK _ _ ?_; clear hK K; try clear Q')
              refine wpList_nil ?_
              show Code.wp _ _ _ _ _
              refine wp_seq ?_
              refine wp_region_lit ?_
              iterate 4 (refine wpList_plainQ rfl (fun K Q' hK => ?_); go_simp; refine hK _ _ ?_; clear hK K; try clear Q')
              refine wpList_nil ?_
              show Code.wp _ _ _ _ _
              refine wp_seq ?_
              refine wp_seq ?_
              refine wp_region_lit ?_
              iterate 1 (refine wpList_plainQ rfl (fun K Q' hK => ?_); go_simp; refine hK _ _ ?_; clear hK K; try clear Q')
              -- stops at: eff:call (Go.Op.call {'callee': (Go.Callee.value (Go.Operand.func 15)), 'args': [(Go.Operand.tmp 207)], 'argTypes': [25]}) slot 208
              as_aux_lemma =>
              obtain ⟨sn2, hsn2⟩ : ∃ s, Hid (IntKind.i64.wrap ((c3 + (Hp.insC x tA : Nat)) + (d3 + (Hp.insD x tA : Nat))) = s) := ⟨_, show _ = _ from rfl⟩
              have esn : IntKind.i64.wrap (sn + (nn : Int)) = sn2 := by rw [← hsn2.out, hsn.out, wrap_wrap_add]; congr 1; have := hnn.out; omega
              -- stops at: eff:call (Go.Op.call {'callee': (Go.Callee.value (Go.Operand.func 15)), 'args': [(Go.Operand.tmp 207)], 'argTypes': [25]}) slot 208
              refine wpList_plainQ rfl (fun K Q' hK => ?_); go_simp
              refine (steps_ok _ _ bM _ _ (h17.pre_at (i := 0) rfl)).mono ?_
              rintro e wSt ⟨rfl, hpSt⟩
              rw [show IntKind.i64.wrap (c3 + (Hp.insC x tA : Nat) + (d3 + (Hp.insD x tA : Nat))) = sn2 from hsn2.out]
              have h18 := h17.call_at (i := 0) rfl hpSt
              refine hK _ _ ?_; clear hK K; try clear Q'
              iterate 2 (refine wpList_plainQ rfl (fun K Q' hK => ?_); go_simp; refine hK _ _ ?_; clear hK K; try clear Q')
              refine wpList_nil ?_
              show Code.wp _ _ _ _ _
              -- stops at: cond
              refine wp_cond_false (rfl) ?_
              refine wp_skip ?_
              show Code.wp _ _ _ _ _
              refine wp_seq ?_
              clear h17
              repeat (first | simp only [List.nil_append] at h18 | simp only [List.cons_append] at h18 | simp only [List.set_cons_zero] at h18 | simp only [List.set_cons_succ] at h18 | simp only [List.eraseIdx_zero] at h18 | simp only [List.tail_cons] at h18 | simp only [List.eraseIdx_cons_zero] at h18 | simp only [List.eraseIdx_cons_succ] at h18 | simp only [List.setIfInBounds_toArray] at h18)
              refine wp_region_lit ?_
              have c_1_0 := h18.cell 1 rfl 0 rfl
              iterate 2 (refine wpList_plainQ rfl (fun K Q' hK => ?_); go_simp; refine hK _ _ ?_; clear hK K; try clear Q')
              clear c_1_0
              refine wpList_plainQ rfl (fun K Q' hK => ?_); go_simp
              refine h18.k_alloc (fun w19 h19 => ?_)
              refine hK _ _ ?_; clear hK K; try clear Q'
              -- stops at: eff:Builtin.append (Go.Op.call {'callee': (Go.Callee.builtin Go.Builtin.append), 'args': [(Go.Operand.tmp 211), (Go.Operand.tmp 213)], 'argTypes': [30, 30]}) slot 214
              refine wpList_plainQ rfl (fun K Q' hK => ?_)
              refine h19.op_append 0 rfl rfl infoHp rfl [Value.pointer r1] rfl rfl (h19.newsAt 4 rfl) (by simp [Value.oneCell']) (by omega) (by unfold maxLen; omega) (fun v0 wY0 hY0 oY0 hnY0 => ?_)
              refine hK _ _ ?_; clear hK K; try clear Q'
              iterate 1 (refine wpList_plainQ rfl (fun K Q' hK => ?_); go_simp; refine hK _ _ ?_; clear hK K; try clear Q')
              refine wpList_nil ?_
              show Code.wp _ _ _ _ _
              clear h18 h19
              repeat (first | simp only [List.nil_append] at hY0 | simp only [List.cons_append] at hY0 | simp only [List.set_cons_zero] at hY0 | simp only [List.set_cons_succ] at hY0 | simp only [List.eraseIdx_zero] at hY0 | simp only [List.tail_cons] at hY0 | simp only [List.eraseIdx_cons_zero] at hY0 | simp only [List.eraseIdx_cons_succ] at hY0 | simp only [List.setIfInBounds_toArray] at hY0)
              refine wp_region_lit ?_
              have c_2_0 := hY0.cell 2 rfl 0 rfl
              have c_2_1 := hY0.cell 2 rfl 1 rfl
              have c_2_2 := hY0.cell 2 rfl 2 rfl
              have c_2_3 := hY0.cell 2 rfl 3 rfl
              iterate 2 (refine wpList_plainQ rfl (fun K Q' hK => ?_); go_simp; refine hK _ _ ?_; clear hK K; try clear Q')
              clear c_2_0 c_2_1 c_2_2 c_2_3
              refine wpList_plainQ rfl (fun K Q' hK => ?_); go_simp
              refine hY0.k_alloc (fun w20 h20 => ?_)
              refine hK _ _ ?_; clear hK K; try clear Q'
              -- stops at: eff:Builtin.append (Go.Op.call {'callee': (Go.Callee.builtin Go.Builtin.append), 'args': [(Go.Operand.tmp 215), (Go.Operand.tmp 217)], 'argTypes': [38, 38]}) slot 218
              refine wpList_plainQ rfl (fun K Q' hK => ?_)
              refine h20.op_append 1 rfl rfl infoW rfl [.bool bv, .int .i64 pv, .int .i64 zv, .slice av nv cv] rfl rfl (h20.newsAt 5 rfl) (by simp [Value.oneCell']) (by omega) (by unfold maxLen; omega) (fun v1 wY1 hY1 oY1 hnY1 => ?_)
              refine hK _ _ ?_; clear hK K; try clear Q'
              iterate 1 (refine wpList_plainQ rfl (fun K Q' hK => ?_); go_simp; refine hK _ _ ?_; clear hK K; try clear Q')
              refine wpList_nil ?_
              show Code.wp _ _ _ _ _
              clear h20
              repeat (first | simp only [List.nil_append] at hY1 | simp only [List.cons_append] at hY1 | simp only [List.set_cons_zero] at hY1 | simp only [List.set_cons_succ] at hY1 | simp only [List.eraseIdx_zero] at hY1 | simp only [List.tail_cons] at hY1 | simp only [List.eraseIdx_cons_zero] at hY1 | simp only [List.eraseIdx_cons_succ] at hY1 | simp only [List.setIfInBounds_toArray] at hY1)
              refine wp_region_lit ?_
              iterate 3 (refine wpList_plainQ rfl (fun K Q' hK => ?_); go_simp; refine hK _ _ ?_; clear hK K; try clear Q')
              refine wpList_nil ?_
              -- stops at: end ('roundend',)
              show _ ∧ _
              go_roundw
              case rel =>
                show PlaysInv _ _ _ _ _ _ _ _ _ _
                unfold PlaysInv
                refine ⟨k + 1, ps ++ [⟨r1, [.bool bv, .int .i64 pv, .int .i64 zv, .slice av nv cv], Hp.insert x tA⟩], _, c3 + (Hp.insC x tA : Nat), d3 + (Hp.insD x tA : Nat), sn2, by omega, ?_, by simp, rfl, hsn2.out.symm, hle.trans (hpP.le.trans hpQ.le), (hheld.mono (hpP.le.trans hpQ.le)).snoc (hN1.mono hpQ.le) hN2 szN rfl, ?_⟩
                · show (ps ++ _).length = _
                  have := hpl.out
                  simp; omega
                · rw [List.length_append, List.map_append, List.flatMap_append]
                  exact hY1.take 1
              case measure => simp [intOf]; omega
            · skip
              refine wpT_effQ rfl (fun K Q' hK => ?_); go_simp
              refine h13.k_alloc (fun w21 h21 => ?_)
              refine hK _ _ (h21.satR' (GH.le_refl _) [] [1] (sel_nil2 _ _) (by kernel_rfl)) ?_; clear hK K; try clear Q'
              -- stops at: eff:call (Go.Op.call {'callee': (Go.Callee.value (Go.Operand.func 9)), 'args': [(Go.Operand.tmp 138), (Go.Operand.tmp 142)], 'argTypes': [32, 37]}) slot 143
              refine wpT_effQ rfl (fun K Q' hK => ?_); go_simp
              refine (winsert_ok x h21.fits (by omega) (hwa.mono hpP.le)).mono ?_
              rintro e wQ ⟨ds, HX9, rfl, hpQ, hN2⟩
              obtain ⟨bv, pv, zv, av, nv, cv, rfl⟩ := hN2.form
              rw [hnn.out]
              have h22 := h21.call0 hpQ
              refine hK _ _ (h22.satR' hpQ.le [] [1] (sel_nil2 _ _) (by kernel_rfl)) ?_; clear hK K; try clear Q'
              iterate 3 (refine wpT_quiet (v := ?_) rfl (fun _ _ _ => hQp _ _ _ _ _) ?_ ?_; rotate_left; (intro w' hS; (first | (go_simp; done) | (go_simp; with_reducible rfl))); simp only [Act.put, List.setIfInBounds_toArray])
              have c_0 := h22.cell 3 rfl 0 rfl
              have f_0 := h22.free 3 rfl 0
              have c_1 := h22.cell 3 rfl 1 rfl
              have f_1 := h22.free 3 rfl 1
              have c_2 := h22.cell 3 rfl 2 rfl
              have f_2 := h22.free 3 rfl 2
              have c_3 := h22.cell 3 rfl 3 rfl
              have f_3 := h22.free 3 rfl 3
              refine wpT_effQ rfl (fun K Q' hK => ?_); go_simp
              clear c_0 f_0 c_1 f_1 c_2 f_2 c_3 f_3
              refine (((h22.set (i := 3) rfl 0 _).set (i := 3) rfl 1 _).set (i := 3) rfl 2 _).k_set 3 rfl (fun w23 h23 => ?_)
              refine hK _ _ (h23.satR' hpQ.le [] [1] (sel_nil2 _ _) (by kernel_rfl)) ?_; clear hK K; try clear Q'
              iterate 1 (refine wpT_quiet (v := ?_) rfl (fun _ _ _ => hQp _ _ _ _ _) ?_ ?_; rotate_left; (intro w' hS; (first | (go_simp; done) | (go_simp; with_reducible rfl))); simp only [Act.put, List.setIfInBounds_toArray])
              refine wpT_nil (hQn _ _ ?_); clear hQn hQp QR
              show Code.wp _ _ _ _ _
              refine wp_seq ?_
              clear h13 h21 h22
              repeat (first | simp only [List.nil_append] at h23 | simp only [List.cons_append] at h23 | simp only [List.set_cons_zero] at h23 | simp only [List.set_cons_succ] at h23 | simp only [List.eraseIdx_zero] at h23 | simp only [List.tail_cons] at h23 | simp only [List.eraseIdx_cons_zero] at h23 | simp only [List.eraseIdx_cons_succ] at h23 | simp only [List.setIfInBounds_toArray] at h23)
              refine wp_region_lit ?_
              have c_3_0 := h23.cell 3 rfl 0 rfl
              have c_3_1 := h23.cell 3 rfl 1 rfl
              have c_3_2 := h23.cell 3 rfl 2 rfl
              have c_3_3 := h23.cell 3 rfl 3 rfl
              iterate 1 (refine wpList_plainQ rfl (fun K Q' hK => ?_); go_simp; refine hK _ _ ?_; clear hK K; try clear Q')
              clear c_3_0 c_3_1 c_3_2 c_3_3
              have c_0 := h23.cell 2 rfl 0 rfl
              have f_0 := h23.free 2 rfl 0
              have c_1 := h23.cell 2 rfl 1 rfl
              have f_1 := h23.free 2 rfl 1
              have c_2 := h23.cell 2 rfl 2 rfl
              have f_2 := h23.free 2 rfl 2
              have c_3 := h23.cell 2 rfl 3 rfl
              have f_3 := h23.free 2 rfl 3
              refine wpList_plainQ rfl (fun K Q' hK => ?_); go_simp
              clear c_0 f_0 c_1 f_1 c_2 f_2 c_3 f_3
              refine (((h23.set (i := 2) rfl 0 _).set (i := 2) rfl 1 _).set (i := 2) rfl 2 _).k_set 2 rfl (fun w24 h24 => ?_)
              refine hK _ _ ?_; clear hK K; try clear Q'
              refine wpList_nil ?_
              show Code.wp _ _ _ _ _
              clear h23
              repeat (first | simp only [List.nil_append] at h24 | simp only [List.cons_append] at h24 | simp only [List.set_cons_zero] at h24 | simp only [List.set_cons_succ] at h24 | simp only [List.eraseIdx_zero] at h24 | simp only [List.tail_cons] at h24 | simp only [List.eraseIdx_cons_zero] at h24 | simp only [List.eraseIdx_cons_succ] at h24 | simp only [List.setIfInBounds_toArray] at h24)
              refine wp_region_lit ?_
              iterate 2 (refine wpList_plainQ rfl (fun K Q' hK => ?_); go_simp; refine hK _ _ ?_; clear hK K; try clear Q')
              refine wpList_nil ?_
              show Code.wp _ _ _ _ _
              refine wp_seq ?_
              refine wp_region_lit ?_
              iterate 4 (refine wpList_plainQ rfl (fun K Q' hK => ?_); go_simp; refine hK _ _ ?_; clear hK K; try clear Q')
              refine wpList_nil ?_
              show Code.wp _ _ _ _ _
              refine wp_seq ?_
              refine wp_seq ?_
              refine wp_region_lit ?_
              iterate 1 (refine wpList_plainQ rfl (fun K Q' hK => ?_); go_simp; refine hK _ _ ?_; clear hK K; try clear Q')
              -- stops at: eff:call (Go.Op.call {'callee': (Go.Callee.value (Go.Operand.func 15)), 'args': [(Go.Operand.tmp 207)], 'argTypes': [25]}) slot 208
              as_aux_lemma =>
              obtain ⟨sn2, hsn2⟩ : ∃ s, Hid (IntKind.i64.wrap ((c3 + (Hp.insC x tA : Nat)) + (d3 + (Hp.insD x tA : Nat))) = s) := ⟨_, show _ = _ from rfl⟩
              have esn : IntKind.i64.wrap (sn + (nn : Int)) = sn2 := by rw [← hsn2.out, hsn.out, wrap_wrap_add]; congr 1; have := hnn.out; omega
              -- stops at: eff:call (Go.Op.call {'callee': (Go.Callee.value (Go.Operand.func 15)), 'args': [(Go.Operand.tmp 207)], 'argTypes': [25]}) slot 208
              refine wpList_plainQ rfl (fun K Q' hK => ?_); go_simp
              refine (steps_ok _ _ bM _ _ (h24.pre_at (i := 0) rfl)).mono ?_
              rintro e wSt ⟨rfl, hpSt⟩
              rw [show IntKind.i64.wrap (c3 + (Hp.insC x tA : Nat) + (d3 + (Hp.insD x tA : Nat))) = sn2 from hsn2.out]
              have h25 := h24.call_at (i := 0) rfl hpSt
              refine hK _ _ ?_; clear hK K; try clear Q'
              iterate 2 (refine wpList_plainQ rfl (fun K Q' hK => ?_); go_simp; refine hK _ _ ?_; clear hK K; try clear Q')
              refine wpList_nil ?_
              show Code.wp _ _ _ _ _
              -- stops at: cond
              refine wp_cond_false (rfl) ?_
              refine wp_skip ?_
              show Code.wp _ _ _ _ _
              refine wp_seq ?_
              clear h24
              repeat (first | simp only [List.nil_append] at h25 | simp only [List.cons_append] at h25 | simp only [List.set_cons_zero] at h25 | simp only [List.set_cons_succ] at h25 | simp only [List.eraseIdx_zero] at h25 | simp only [List.tail_cons] at h25 | simp only [List.eraseIdx_cons_zero] at h25 | simp only [List.eraseIdx_cons_succ] at h25 | simp only [List.setIfInBounds_toArray] at h25)
              refine wp_region_lit ?_
              have c_1_0 := h25.cell 1 rfl 0 rfl
              iterate 2 (refine wpList_plainQ rfl (fun K Q' hK => ?_); go_simp; refine hK _ _ ?_; clear hK K; try clear Q')
              clear c_1_0
              refine wpList_plainQ rfl (fun K Q' hK => ?_); go_simp
              refine h25.k_alloc (fun w26 h26 => ?_)
              refine hK _ _ ?_; clear hK K; try clear Q'
              -- stops at: eff:Builtin.append (Go.Op.call {'callee': (Go.Callee.builtin Go.Builtin.append), 'args': [(Go.Operand.tmp 211), (Go.Operand.tmp 213)], 'argTypes': [30, 30]}) slot 214
              refine wpList_plainQ rfl (fun K Q' hK => ?_)
              refine h26.op_append 0 rfl rfl infoHp rfl [Value.pointer r1] rfl rfl (h26.newsAt 4 rfl) (by simp [Value.oneCell']) (by omega) (by unfold maxLen; omega) (fun v0 wY0 hY0 oY0 hnY0 => ?_)
              refine hK _ _ ?_; clear hK K; try clear Q'
              iterate 1 (refine wpList_plainQ rfl (fun K Q' hK => ?_); go_simp; refine hK _ _ ?_; clear hK K; try clear Q')
              refine wpList_nil ?_
              show Code.wp _ _ _ _ _
              clear h25 h26
              repeat (first | simp only [List.nil_append] at hY0 | simp only [List.cons_append] at hY0 | simp only [List.set_cons_zero] at hY0 | simp only [List.set_cons_succ] at hY0 | simp only [List.eraseIdx_zero] at hY0 | simp only [List.tail_cons] at hY0 | simp only [List.eraseIdx_cons_zero] at hY0 | simp only [List.eraseIdx_cons_succ] at hY0 | simp only [List.setIfInBounds_toArray] at hY0)
              refine wp_region_lit ?_
              have c_2_0 := hY0.cell 2 rfl 0 rfl
              have c_2_1 := hY0.cell 2 rfl 1 rfl
              have c_2_2 := hY0.cell 2 rfl 2 rfl
              have c_2_3 := hY0.cell 2 rfl 3 rfl
              iterate 2 (refine wpList_plainQ rfl (fun K Q' hK => ?_); go_simp; refine hK _ _ ?_; clear hK K; try clear Q')
              clear c_2_0 c_2_1 c_2_2 c_2_3
              refine wpList_plainQ rfl (fun K Q' hK => ?_); go_simp
              refine hY0.k_alloc (fun w27 h27 => ?_)
              refine hK _ _ ?_; clear hK K; try clear Q'
              -- stops at: eff:Builtin.append (Go.Op.call {'callee': (Go.Callee.builtin Go.Builtin.append), 'args': [(Go.Operand.tmp 215), (Go.Operand.tmp 217)], 'argTypes': [38, 38]}) slot 218
              refine wpList_plainQ rfl (fun K Q' hK => ?_)
              refine h27.op_append 1 rfl rfl infoW rfl [.bool bv, .int .i64 pv, .int .i64 zv, .slice av nv cv] rfl rfl (h27.newsAt 5 rfl) (by simp [Value.oneCell']) (by omega) (by unfold maxLen; omega) (fun v1 wY1 hY1 oY1 hnY1 => ?_)
              refine hK _ _ ?_; clear hK K; try clear Q'
              iterate 1 (refine wpList_plainQ rfl (fun K Q' hK => ?_); go_simp; refine hK _ _ ?_; clear hK K; try clear Q')
              refine wpList_nil ?_
              show Code.wp _ _ _ _ _
              clear h27
              repeat (first | simp only [List.nil_append] at hY1 | simp only [List.cons_append] at hY1 | simp only [List.set_cons_zero] at hY1 | simp only [List.set_cons_succ] at hY1 | simp only [List.eraseIdx_zero] at hY1 | simp only [List.tail_cons] at hY1 | simp only [List.eraseIdx_cons_zero] at hY1 | simp only [List.eraseIdx_cons_succ] at hY1 | simp only [List.setIfInBounds_toArray] at hY1)
              refine wp_region_lit ?_
              iterate 3 (refine wpList_plainQ rfl (fun K Q' hK => ?_); go_simp; refine hK _ _ ?_; clear hK K; try clear Q')
              refine wpList_nil ?_
              -- stops at: end ('roundend',)
              show _ ∧ _
              go_roundw
              case rel =>
                show PlaysInv _ _ _ _ _ _ _ _ _ _
                unfold PlaysInv
                refine ⟨k + 1, ps ++ [⟨r1, [.bool bv, .int .i64 pv, .int .i64 zv, .slice av nv cv], Hp.insert x tA⟩], _, c3 + (Hp.insC x tA : Nat), d3 + (Hp.insD x tA : Nat), sn2, by omega, ?_, by simp, rfl, hsn2.out.symm, hle.trans (hpP.le.trans hpQ.le), (hheld.mono (hpP.le.trans hpQ.le)).snoc (hN1.mono hpQ.le) hN2 szN rfl, ?_⟩
                · show (ps ++ _).length = _
                  have := hpl.out
                  simp; omega
                · rw [List.length_append, List.map_append, List.flatMap_append]
                  exact hY1.take 1
              case measure => simp [intOf]; omega
          by_cases hk1 : kd = 1
          · subst hk1
            have szN : Hp.size (Hp.meld tA tB) ≤ 150 := by have := Hp.size_meld hqa.ok hqb.ok; omega
            obtain ⟨nn, hnn⟩ : ∃ n, Hid (Hp.meldC tA tB + Hp.meldD tA tB = n) := ⟨_, show _ = _ from rfl⟩
            iterate 2 (refine wpList_plainQ rfl (fun K Q' hK => ?_); go_simp; refine hK _ _ ?_; clear hK K; try clear Q')
            refine wpList_nil ?_
            show Code.wp _ _ _ _ _
            -- stops at: cond
            refine wp_cond_false (rfl) ?_
            refine wp_seq ?_
            refine wp_region_lit ?_
            iterate 2 (refine wpList_plainQ rfl (fun K Q' hK => ?_); go_simp; refine hK _ _ ?_; clear hK K; try clear Q')
            refine wpList_nil ?_
            show Code.wp _ _ _ _ _
            -- stops at: cond
            refine wp_cond_true (rfl) ?_
            refine wp_seq ?_
            refine h9.regionR [] [0] [(0, true), (1, true), (2, true), (3, true), (4, true), (5, true), (6, true), (7, true), (8, true), (9, false), (10, false)] (by kernel_rfl) (by kernel_rfl) (fun w28 h28 => ?_)
            refine wpOrd_hide (fun _ _ d _ _ h => by cases d <;> exact h) (fun QR hQn hQp => ?_)
            simp only [ordOps, List.map_cons, List.map_nil, List.getD_cons_zero, List.getD_cons_succ]
            iterate 3 (refine wpOrd_quiet (v := ?_) rfl (fun _ _ _ => hQp _ _ _ _ _) ?_ ?_; rotate_left; (intro w' hS; (first | (go_simp; done) | (go_simp; with_reducible rfl))); simp only [Act.put, List.setIfInBounds_toArray, List.set_cons_zero, List.set_cons_succ])
            -- stops at: load (Go.Op.load 29 (Go.Operand.tmp 152)) slot 153
            iterate 1 (refine wpOrd_quiet (v := ?_) rfl (fun _ _ _ => hQp _ _ _ _ _) ?_ ?_; rotate_left; (intro w' hS; have ce := hS.rowcell 0 rfl ia ga; (first | (go_simp; done) | (go_simp; with_reducible rfl))); simp only [Act.put, List.setIfInBounds_toArray, List.set_cons_zero, List.set_cons_succ])
            iterate 4 (refine wpOrd_quiet (v := ?_) rfl (fun _ _ _ => hQp _ _ _ _ _) ?_ ?_; rotate_left; (intro w' hS; (first | (go_simp; done) | (go_simp; with_reducible rfl))); simp only [Act.put, List.setIfInBounds_toArray, List.set_cons_zero, List.set_cons_succ])
            -- stops at: load (Go.Op.load 29 (Go.Operand.tmp 157)) slot 158
            iterate 1 (refine wpOrd_quiet (v := ?_) rfl (fun _ _ _ => hQp _ _ _ _ _) ?_ ?_; rotate_left; (intro w' hS; have ce := hS.rowcell 0 rfl it gb; (first | (go_simp; done) | (go_simp; with_reducible rfl))); simp only [Act.put, List.setIfInBounds_toArray, List.set_cons_zero, List.set_cons_succ])
            -- stops at: eff:call (Go.Op.call {'callee': (Go.Callee.value (Go.Operand.func 10)), 'args': [(Go.Operand.tmp 153), (Go.Operand.tmp 154), (Go.Operand.tmp 158)], 'argTypes': [29, 25,  slot 159
            refine wpOrd_effQ rfl (fun K Q' hK => ?_); go_simp
            refine (hmeld_ok (m := some bM) (h28.pre_at (i := 0) rfl) (by omega) hqa hqb).mono ?_
            rintro e wP ⟨r1, H4, rfl, hpP, hN1⟩
            have h29 := h28.call_at (i := 0) rfl hpP
            refine hK _ _ (h29.satR' hpP.le [] [0] (sel_nil2 _ _) (by kernel_rfl)) ?_; clear hK K; try clear Q'
            have c_0 := h29.cell 1 rfl 0 rfl
            have f_0 := h29.free 1 rfl 0
            refine wpOrd_effQ rfl (fun K Q' hK => ?_); go_simp
            clear c_0 f_0
            refine h29.k_set 1 rfl (fun w30 h30 => ?_)
            refine hK _ _ (h30.satR' hpP.le [] [0] (sel_nil2 _ _) (by kernel_rfl)) ?_; clear hK K; try clear Q'
            refine wpOrd_nil (hQn _ _ ?_); clear hQn hQp QR
            show Code.wp _ _ _ _ _
            refine wp_seq ?_
            clear h28 h29
            repeat (first | simp only [List.nil_append] at h30 | simp only [List.cons_append] at h30 | simp only [List.set_cons_zero] at h30 | simp only [List.set_cons_succ] at h30 | simp only [List.eraseIdx_zero] at h30 | simp only [List.tail_cons] at h30 | simp only [List.eraseIdx_cons_zero] at h30 | simp only [List.eraseIdx_cons_succ] at h30 | simp only [List.setIfInBounds_toArray] at h30)
            refine h30.regionTR [] [1] (.one 0 true (.one 1 true (.one 2 true (.one 3 true (.one 4 true (.one 5 true (.one 6 true (.one 7 true (.two (.one 8 false (.one 9 true (.one 10 true (.one 11 true (.one 12 false (.one 13 false (.one 14 true .nil))))))) (.one 12 false (.one 8 false (.one 9 true (.one 10 true (.one 11 true (.one 13 false (.one 14 true .nil)))))))))))))))) (by as_aux_lemma => kernel_rfl) (by as_aux_lemma => kernel_rfl) (fun w31 h31 => ?_)
            refine wpT_hide (fun _ _ d _ _ h => by cases d <;> exact h) (fun QR hQn hQp => ?_)
            dsimp only [OT.ops, List.getD_cons_zero, List.getD_cons_succ]
            iterate 3 (refine wpT_quiet (v := ?_) rfl (fun _ _ _ => hQp _ _ _ _ _) ?_ ?_; rotate_left; (intro w' hS; (first | (go_simp; done) | (go_simp; with_reducible rfl))); simp only [Act.put, List.setIfInBounds_toArray])
            -- stops at: load (Go.Op.load 37 (Go.Operand.tmp 163)) slot 164
            iterate 1 (refine wpT_quiet (v := ?_) rfl (fun _ _ _ => hQp _ _ _ _ _) ?_ ?_; rotate_left; (intro w' hS; have ce0 := hS.rowcell 0 rfl (ia * 4) fa0; have ce1 := hS.rowcell 0 rfl (ia * 4 + 1) fa1; have ce2 := hS.rowcell 0 rfl (ia * 4 + 2) fa2; have ce3 := hS.rowcell 0 rfl (ia * 4 + 3) fa3; (first | (go_simp; done) | (go_simp; with_reducible rfl))); simp only [Act.put])
            iterate 3 (refine wpT_quiet (v := ?_) rfl (fun _ _ _ => hQp _ _ _ _ _) ?_ ?_; rotate_left; (intro w' hS; (first | (go_simp; done) | (go_simp; with_reducible rfl))); simp only [Act.put])
            -- stops at: load (Go.Op.load 37 (Go.Operand.tmp 167)) slot 168
            iterate 1 (refine wpT_quiet (v := ?_) rfl (fun _ _ _ => hQp _ _ _ _ _) ?_ ?_; rotate_left; (intro w' hS; have ce0 := hS.rowcell 0 rfl (it * 4) fb0; have ce1 := hS.rowcell 0 rfl (it * 4 + 1) fb1; have ce2 := hS.rowcell 0 rfl (it * 4 + 2) fb2; have ce3 := hS.rowcell 0 rfl (it * 4 + 3) fb3; (first | (go_simp; done) | (go_simp; with_reducible rfl))); simp only [Act.put])
            refine wpT_two ?_ ?_
            -- stops at: fork 
            · skip
              -- stops at: eff:call (Go.Op.call {'callee': (Go.Callee.value (Go.Operand.func 11)), 'args': [(Go.Operand.tmp 164), (Go.Operand.tmp 168)], 'argTypes': [37, 37]}) slot 169
              refine wpT_effQ rfl (fun K Q' hK => ?_); go_simp
              refine (wmeld_ok h31.fits (by omega) (hwa.mono hpP.le) (hwb.mono hpP.le)).mono ?_
              rintro e wQ ⟨ds, HX9, rfl, hpQ, hN2⟩
              obtain ⟨bv, pv, zv, av, nv, cv, rfl⟩ := hN2.form
              rw [hnn.out]
              have h32 := h31.call0 hpQ
              refine hK _ _ (h32.satR' hpQ.le [] [1] (sel_nil2 _ _) (by kernel_rfl)) ?_; clear hK K; try clear Q'
              iterate 3 (refine wpT_quiet (v := ?_) rfl (fun _ _ _ => hQp _ _ _ _ _) ?_ ?_; rotate_left; (intro w' hS; (first | (go_simp; done) | (go_simp; with_reducible rfl))); simp only [Act.put, List.setIfInBounds_toArray])
              refine wpT_effQ rfl (fun K Q' hK => ?_); go_simp
              refine h32.k_alloc (fun w33 h33 => ?_)
              refine hK _ _ (h33.satR' hpQ.le [] [1] (sel_nil2 _ _) (by kernel_rfl)) ?_; clear hK K; try clear Q'
              have c_0 := h33.cell 3 rfl 0 rfl
              have f_0 := h33.free 3 rfl 0
              have c_1 := h33.cell 3 rfl 1 rfl
              have f_1 := h33.free 3 rfl 1
              have c_2 := h33.cell 3 rfl 2 rfl
              have f_2 := h33.free 3 rfl 2
              have c_3 := h33.cell 3 rfl 3 rfl
              have f_3 := h33.free 3 rfl 3
              refine wpT_effQ rfl (fun K Q' hK => ?_); go_simp
              clear c_0 f_0 c_1 f_1 c_2 f_2 c_3 f_3
              refine (((h33.set (i := 3) rfl 0 _).set (i := 3) rfl 1 _).set (i := 3) rfl 2 _).k_set 3 rfl (fun w34 h34 => ?_)
              refine hK _ _ (h34.satR' hpQ.le [] [1] (sel_nil2 _ _) (by kernel_rfl)) ?_; clear hK K; try clear Q'
              iterate 1 (refine wpT_quiet (v := ?_) rfl (fun _ _ _ => hQp _ _ _ _ _) ?_ ?_; rotate_left; (intro w' hS; (first | (go_simp; done) | (go_simp; with_reducible rfl))); simp only [Act.put, List.setIfInBounds_toArray])
              refine wpT_nil (hQn _ _ ?_); clear hQn hQp QR
              show Code.wp _ _ _ _ _
              refine wp_seq ?_
              clear h31 h32 h33
              repeat (first | simp only [List.nil_append] at h34 | simp only [List.cons_append] at h34 | simp only [List.set_cons_zero] at h34 | simp only [List.set_cons_succ] at h34 | simp only [List.eraseIdx_zero] at h34 | simp only [List.tail_cons] at h34 | simp only [List.eraseIdx_cons_zero] at h34 | simp only [List.eraseIdx_cons_succ] at h34 | simp only [List.setIfInBounds_toArray] at h34)
              refine wp_region_lit ?_
              have c_3_0 := h34.cell 3 rfl 0 rfl
              have c_3_1 := h34.cell 3 rfl 1 rfl
              have c_3_2 := h34.cell 3 rfl 2 rfl
              have c_3_3 := h34.cell 3 rfl 3 rfl
              iterate 1 (refine wpList_plainQ rfl (fun K Q' hK => ?_); go_simp; refine hK _ _ ?_; clear hK K; try clear Q')
              clear c_3_0 c_3_1 c_3_2 c_3_3
              have c_0 := h34.cell 2 rfl 0 rfl
              have f_0 := h34.free 2 rfl 0
              have c_1 := h34.cell 2 rfl 1 rfl
              have f_1 := h34.free 2 rfl 1
              have c_2 := h34.cell 2 rfl 2 rfl
              have f_2 := h34.free 2 rfl 2
              have c_3 := h34.cell 2 rfl 3 rfl
              have f_3 := h34.free 2 rfl 3
              refine wpList_plainQ rfl (fun K Q' hK => ?_); go_simp
              clear c_0 f_0 c_1 f_1 c_2 f_2 c_3 f_3
              refine (((h34.set (i := 2) rfl 0 _).set (i := 2) rfl 1 _).set (i := 2) rfl 2 _).k_set 2 rfl (fun w35 h35 => ?_)
              refine hK _ _ ?_; clear hK K; try clear Q'
              refine wpList_nil ?_
              show Code.wp _ _ _ _ _
              clear h34
              repeat (first | simp only [List.nil_append] at h35 | simp only [List.cons_append] at h35 | simp only [List.set_cons_zero] at h35 | simp only [List.set_cons_succ] at h35 | simp only [List.eraseIdx_zero] at h35 | simp only [List.tail_cons] at h35 | simp only [List.eraseIdx_cons_zero] at h35 | simp only [List.eraseIdx_cons_succ] at h35 | simp only [List.setIfInBounds_toArray] at h35)
              refine wp_region_lit ?_
              iterate 2 (refine wpList_plainQ rfl (fun K Q' hK => ?_); go_simp; refine hK _ _ ?_; clear hK K; try clear Q')
              refine wpList_nil ?_
              show Code.wp _ _ _ _ _
              refine wp_seq ?_
              refine wp_region_lit ?_
              iterate 4 (refine wpList_plainQ rfl (fun K Q' hK => ?_); go_simp; refine hK _ _ ?_; clear hK K; try clear Q')
              refine wpList_nil ?_
              show Code.wp _ _ _ _ _
              refine wp_seq ?_
              refine wp_seq ?_
              refine wp_region_lit ?_
              iterate 1 (refine wpList_plainQ rfl (fun K Q' hK => ?_); go_simp; refine hK _ _ ?_; clear hK K; try clear Q')
              -- stops at: eff:call (Go.Op.call {'callee': (Go.Callee.value (Go.Operand.func 15)), 'args': [(Go.Operand.tmp 207)], 'argTypes': [25]}) slot 208
              as_aux_lemma =>
              obtain ⟨sn2, hsn2⟩ : ∃ s, Hid (IntKind.i64.wrap ((c3 + (Hp.meldC tA tB : Nat)) + (d3 + (Hp.meldD tA tB : Nat))) = s) := ⟨_, show _ = _ from rfl⟩
              have esn : IntKind.i64.wrap (sn + (nn : Int)) = sn2 := by rw [← hsn2.out, hsn.out, wrap_wrap_add]; congr 1; have := hnn.out; omega
              -- stops at: eff:call (Go.Op.call {'callee': (Go.Callee.value (Go.Operand.func 15)), 'args': [(Go.Operand.tmp 207)], 'argTypes': [25]}) slot 208
              refine wpList_plainQ rfl (fun K Q' hK => ?_); go_simp
              refine (steps_ok _ _ bM _ _ (h35.pre_at (i := 0) rfl)).mono ?_
              rintro e wSt ⟨rfl, hpSt⟩
              rw [show IntKind.i64.wrap (c3 + (Hp.meldC tA tB : Nat) + (d3 + (Hp.meldD tA tB : Nat))) = sn2 from hsn2.out]
              have h36 := h35.call_at (i := 0) rfl hpSt
              refine hK _ _ ?_; clear hK K; try clear Q'
              iterate 2 (refine wpList_plainQ rfl (fun K Q' hK => ?_); go_simp; refine hK _ _ ?_; clear hK K; try clear Q')
              refine wpList_nil ?_
              show Code.wp _ _ _ _ _
              -- stops at: cond
              refine wp_cond_false (rfl) ?_
              refine wp_skip ?_
              show Code.wp _ _ _ _ _
              refine wp_seq ?_
              clear h35
              repeat (first | simp only [List.nil_append] at h36 | simp only [List.cons_append] at h36 | simp only [List.set_cons_zero] at h36 | simp only [List.set_cons_succ] at h36 | simp only [List.eraseIdx_zero] at h36 | simp only [List.tail_cons] at h36 | simp only [List.eraseIdx_cons_zero] at h36 | simp only [List.eraseIdx_cons_succ] at h36 | simp only [List.setIfInBounds_toArray] at h36)
              refine wp_region_lit ?_
              have c_1_0 := h36.cell 1 rfl 0 rfl
              iterate 2 (refine wpList_plainQ rfl (fun K Q' hK => ?_); go_simp; refine hK _ _ ?_; clear hK K; try clear Q')
              clear c_1_0
              refine wpList_plainQ rfl (fun K Q' hK => ?_); go_simp
              refine h36.k_alloc (fun w37 h37 => ?_)
              refine hK _ _ ?_; clear hK K; try clear Q'
              -- stops at: eff:Builtin.append (Go.Op.call {'callee': (Go.Callee.builtin Go.Builtin.append), 'args': [(Go.Operand.tmp 211), (Go.Operand.tmp 213)], 'argTypes': [30, 30]}) slot 214
              refine wpList_plainQ rfl (fun K Q' hK => ?_)
              refine h37.op_append 0 rfl rfl infoHp rfl [Value.pointer r1] rfl rfl (h37.newsAt 4 rfl) (by simp [Value.oneCell']) (by omega) (by unfold maxLen; omega) (fun v0 wY0 hY0 oY0 hnY0 => ?_)
              refine hK _ _ ?_; clear hK K; try clear Q'
              iterate 1 (refine wpList_plainQ rfl (fun K Q' hK => ?_); go_simp; refine hK _ _ ?_; clear hK K; try clear Q')
              refine wpList_nil ?_
              show Code.wp _ _ _ _ _
              clear h36 h37
              repeat (first | simp only [List.nil_append] at hY0 | simp only [List.cons_append] at hY0 | simp only [List.set_cons_zero] at hY0 | simp only [List.set_cons_succ] at hY0 | simp only [List.eraseIdx_zero] at hY0 | simp only [List.tail_cons] at hY0 | simp only [List.eraseIdx_cons_zero] at hY0 | simp only [List.eraseIdx_cons_succ] at hY0 | simp only [List.setIfInBounds_toArray] at hY0)
              refine wp_region_lit ?_
              have c_2_0 := hY0.cell 2 rfl 0 rfl
              have c_2_1 := hY0.cell 2 rfl 1 rfl
              have c_2_2 := hY0.cell 2 rfl 2 rfl
              have c_2_3 := hY0.cell 2 rfl 3 rfl
              iterate 2 (refine wpList_plainQ rfl (fun K Q' hK => ?_); go_simp; refine hK _ _ ?_; clear hK K; try clear Q')
              clear c_2_0 c_2_1 c_2_2 c_2_3
              refine wpList_plainQ rfl (fun K Q' hK => ?_); go_simp
              refine hY0.k_alloc (fun w38 h38 => ?_)
              refine hK _ _ ?_; clear hK K; try clear Q'
              -- stops at: eff:Builtin.append (Go.Op.call {'callee': (Go.Callee.builtin Go.Builtin.append), 'args': [(Go.Operand.tmp 215), (Go.Operand.tmp 217)], 'argTypes': [38, 38]}) slot 218
              refine wpList_plainQ rfl (fun K Q' hK => ?_)
              refine h38.op_append 1 rfl rfl infoW rfl [.bool bv, .int .i64 pv, .int .i64 zv, .slice av nv cv] rfl rfl (h38.newsAt 5 rfl) (by simp [Value.oneCell']) (by omega) (by unfold maxLen; omega) (fun v1 wY1 hY1 oY1 hnY1 => ?_)
              refine hK _ _ ?_; clear hK K; try clear Q'
              iterate 1 (refine wpList_plainQ rfl (fun K Q' hK => ?_); go_simp; refine hK _ _ ?_; clear hK K; try clear Q')
              refine wpList_nil ?_
              show Code.wp _ _ _ _ _
              clear h38
              repeat (first | simp only [List.nil_append] at hY1 | simp only [List.cons_append] at hY1 | simp only [List.set_cons_zero] at hY1 | simp only [List.set_cons_succ] at hY1 | simp only [List.eraseIdx_zero] at hY1 | simp only [List.tail_cons] at hY1 | simp only [List.eraseIdx_cons_zero] at hY1 | simp only [List.eraseIdx_cons_succ] at hY1 | simp only [List.setIfInBounds_toArray] at hY1)
              refine wp_region_lit ?_
              iterate 3 (refine wpList_plainQ rfl (fun K Q' hK => ?_); go_simp; refine hK _ _ ?_; clear hK K; try clear Q')
              refine wpList_nil ?_
              -- stops at: end ('roundend',)
              show _ ∧ _
              go_roundw
              case rel =>
                show PlaysInv _ _ _ _ _ _ _ _ _ _
                unfold PlaysInv
                refine ⟨k + 1, ps ++ [⟨r1, [.bool bv, .int .i64 pv, .int .i64 zv, .slice av nv cv], Hp.meld tA tB⟩], _, c3 + (Hp.meldC tA tB : Nat), d3 + (Hp.meldD tA tB : Nat), sn2, by omega, ?_, by simp, rfl, hsn2.out.symm, hle.trans (hpP.le.trans hpQ.le), (hheld.mono (hpP.le.trans hpQ.le)).snoc (hN1.mono hpQ.le) hN2 szN rfl, ?_⟩
                · show (ps ++ _).length = _
                  have := hpl.out
                  simp; omega
                · rw [List.length_append, List.map_append, List.flatMap_append]
                  exact hY1.take 1
              case measure => simp [intOf]; omega
            · skip
              refine wpT_effQ rfl (fun K Q' hK => ?_); go_simp
              refine h31.k_alloc (fun w39 h39 => ?_)
              refine hK _ _ (h39.satR' (GH.le_refl _) [] [1] (sel_nil2 _ _) (by kernel_rfl)) ?_; clear hK K; try clear Q'
              -- stops at: eff:call (Go.Op.call {'callee': (Go.Callee.value (Go.Operand.func 11)), 'args': [(Go.Operand.tmp 164), (Go.Operand.tmp 168)], 'argTypes': [37, 37]}) slot 169
              refine wpT_effQ rfl (fun K Q' hK => ?_); go_simp
              refine (wmeld_ok h39.fits (by omega) (hwa.mono hpP.le) (hwb.mono hpP.le)).mono ?_
              rintro e wQ ⟨ds, HX9, rfl, hpQ, hN2⟩
              obtain ⟨bv, pv, zv, av, nv, cv, rfl⟩ := hN2.form
              rw [hnn.out]
              have h40 := h39.call0 hpQ
              refine hK _ _ (h40.satR' hpQ.le [] [1] (sel_nil2 _ _) (by kernel_rfl)) ?_; clear hK K; try clear Q'
              iterate 3 (refine wpT_quiet (v := ?_) rfl (fun _ _ _ => hQp _ _ _ _ _) ?_ ?_; rotate_left; (intro w' hS; (first | (go_simp; done) | (go_simp; with_reducible rfl))); simp only [Act.put, List.setIfInBounds_toArray])
              have c_0 := h40.cell 3 rfl 0 rfl
              have f_0 := h40.free 3 rfl 0
              have c_1 := h40.cell 3 rfl 1 rfl
              have f_1 := h40.free 3 rfl 1
              have c_2 := h40.cell 3 rfl 2 rfl
              have f_2 := h40.free 3 rfl 2
              have c_3 := h40.cell 3 rfl 3 rfl
              have f_3 := h40.free 3 rfl 3
              refine wpT_effQ rfl (fun K Q' hK => ?_); go_simp
              clear c_0 f_0 c_1 f_1 c_2 f_2 c_3 f_3
              refine (((h40.set (i := 3) rfl 0 _).set (i := 3) rfl 1 _).set (i := 3) rfl 2 _).k_set 3 rfl (fun w41 h41 => ?_)
              refine hK _ _ (h41.satR' hpQ.le [] [1] (sel_nil2 _ _) (by kernel_rfl)) ?_; clear hK K; try clear Q'
              iterate 1 (refine wpT_quiet (v := ?_) rfl (fun _ _ _ => hQp _ _ _ _ _) ?_ ?_; rotate_left; (intro w' hS; (first | (go_simp; done) | (go_simp; with_reducible rfl))); simp only [Act.put, List.setIfInBounds_toArray])
              refine wpT_nil (hQn _ _ ?_); clear hQn hQp QR
              show Code.wp _ _ _ _ _
              refine wp_seq ?_
              clear h31 h39 h40
              repeat (first | simp only [List.nil_append] at h41 | simp only [List.cons_append] at h41 | simp only [List.set_cons_zero] at h41 | simp only [List.set_cons_succ] at h41 | simp only [List.eraseIdx_zero] at h41 | simp only [List.tail_cons] at h41 | simp only [List.eraseIdx_cons_zero] at h41 | simp only [List.eraseIdx_cons_succ] at h41 | simp only [List.setIfInBounds_toArray] at h41)
              refine wp_region_lit ?_
              have c_3_0 := h41.cell 3 rfl 0 rfl
              have c_3_1 := h41.cell 3 rfl 1 rfl
              have c_3_2 := h41.cell 3 rfl 2 rfl
              have c_3_3 := h41.cell 3 rfl 3 rfl
              iterate 1 (refine wpList_plainQ rfl (fun K Q' hK => ?_); go_simp; refine hK _ _ ?_; clear hK K; try clear Q')
              clear c_3_0 c_3_1 c_3_2 c_3_3
              have c_0 := h41.cell 2 rfl 0 rfl
              have f_0 := h41.free 2 rfl 0
              have c_1 := h41.cell 2 rfl 1 rfl
              have f_1 := h41.free 2 rfl 1
              have c_2 := h41.cell 2 rfl 2 rfl
              have f_2 := h41.free 2 rfl 2
              have c_3 := h41.cell 2 rfl 3 rfl
              have f_3 := h41.free 2 rfl 3
              refine wpList_plainQ rfl (fun K Q' hK => ?_); go_simp
              clear c_0 f_0 c_1 f_1 c_2 f_2 c_3 f_3
              refine (((h41.set (i := 2) rfl 0 _).set (i := 2) rfl 1 _).set (i := 2) rfl 2 _).k_set 2 rfl (fun w42 h42 => ?_)
              refine hK _ _ ?_; clear hK K; try clear Q'
              refine wpList_nil ?_
              show Code.wp _ _ _ _ _
              clear h41
              repeat (first | simp only [List.nil_append] at h42 | simp only [List.cons_append] at h42 | simp only [List.set_cons_zero] at h42 | simp only [List.set_cons_succ] at h42 | simp only [List.eraseIdx_zero] at h42 | simp only [List.tail_cons] at h42 | simp only [List.eraseIdx_cons_zero] at h42 | simp only [List.eraseIdx_cons_succ] at h42 | simp only [List.setIfInBounds_toArray] at h42)
              refine wp_region_lit ?_
              iterate 2 (refine wpList_plainQ rfl (fun K Q' hK => ?_); go_simp; refine hK _ _ ?_; clear hK K; try clear Q')
              refine wpList_nil ?_
              show Code.wp _ _ _ _ _
              refine wp_seq ?_
              refine wp_region_lit ?_
              iterate 4 (refine wpList_plainQ rfl (fun K Q' hK => ?_); go_simp; refine hK _ _ ?_; clear hK K; try clear Q')
              refine wpList_nil ?_
              show Code.wp _ _ _ _ _
              refine wp_seq ?_
              refine wp_seq ?_
              refine wp_region_lit ?_
              iterate 1 (refine wpList_plainQ rfl (fun K Q' hK => ?_); go_simp; refine hK _ _ ?_; clear hK K; try clear Q')
              -- stops at: eff:call (Go.Op.call {'callee': (Go.Callee.value (Go.Operand.func 15)), 'args': [(Go.Operand.tmp 207)], 'argTypes': [25]}) slot 208
              as_aux_lemma =>
              obtain ⟨sn2, hsn2⟩ : ∃ s, Hid (IntKind.i64.wrap ((c3 + (Hp.meldC tA tB : Nat)) + (d3 + (Hp.meldD tA tB : Nat))) = s) := ⟨_, show _ = _ from rfl⟩
              have esn : IntKind.i64.wrap (sn + (nn : Int)) = sn2 := by rw [← hsn2.out, hsn.out, wrap_wrap_add]; congr 1; have := hnn.out; omega
              -- stops at: eff:call (Go.Op.call {'callee': (Go.Callee.value (Go.Operand.func 15)), 'args': [(Go.Operand.tmp 207)], 'argTypes': [25]}) slot 208
              refine wpList_plainQ rfl (fun K Q' hK => ?_); go_simp
              refine (steps_ok _ _ bM _ _ (h42.pre_at (i := 0) rfl)).mono ?_
              rintro e wSt ⟨rfl, hpSt⟩
              rw [show IntKind.i64.wrap (c3 + (Hp.meldC tA tB : Nat) + (d3 + (Hp.meldD tA tB : Nat))) = sn2 from hsn2.out]
              have h43 := h42.call_at (i := 0) rfl hpSt
              refine hK _ _ ?_; clear hK K; try clear Q'
              iterate 2 (refine wpList_plainQ rfl (fun K Q' hK => ?_); go_simp; refine hK _ _ ?_; clear hK K; try clear Q')
              refine wpList_nil ?_
              show Code.wp _ _ _ _ _
              -- stops at: cond
              refine wp_cond_false (rfl) ?_
              refine wp_skip ?_
              show Code.wp _ _ _ _ _
              refine wp_seq ?_
              clear h42
              repeat (first | simp only [List.nil_append] at h43 | simp only [List.cons_append] at h43 | simp only [List.set_cons_zero] at h43 | simp only [List.set_cons_succ] at h43 | simp only [List.eraseIdx_zero] at h43 | simp only [List.tail_cons] at h43 | simp only [List.eraseIdx_cons_zero] at h43 | simp only [List.eraseIdx_cons_succ] at h43 | simp only [List.setIfInBounds_toArray] at h43)
              refine wp_region_lit ?_
              have c_1_0 := h43.cell 1 rfl 0 rfl
              iterate 2 (refine wpList_plainQ rfl (fun K Q' hK => ?_); go_simp; refine hK _ _ ?_; clear hK K; try clear Q')
              clear c_1_0
              refine wpList_plainQ rfl (fun K Q' hK => ?_); go_simp
              refine h43.k_alloc (fun w44 h44 => ?_)
              refine hK _ _ ?_; clear hK K; try clear Q'
              -- stops at: eff:Builtin.append (Go.Op.call {'callee': (Go.Callee.builtin Go.Builtin.append), 'args': [(Go.Operand.tmp 211), (Go.Operand.tmp 213)], 'argTypes': [30, 30]}) slot 214
              refine wpList_plainQ rfl (fun K Q' hK => ?_)
              refine h44.op_append 0 rfl rfl infoHp rfl [Value.pointer r1] rfl rfl (h44.newsAt 4 rfl) (by simp [Value.oneCell']) (by omega) (by unfold maxLen; omega) (fun v0 wY0 hY0 oY0 hnY0 => ?_)
              refine hK _ _ ?_; clear hK K; try clear Q'
              iterate 1 (refine wpList_plainQ rfl (fun K Q' hK => ?_); go_simp; refine hK _ _ ?_; clear hK K; try clear Q')
              refine wpList_nil ?_
              show Code.wp _ _ _ _ _
              clear h43 h44
              repeat (first | simp only [List.nil_append] at hY0 | simp only [List.cons_append] at hY0 | simp only [List.set_cons_zero] at hY0 | simp only [List.set_cons_succ] at hY0 | simp only [List.eraseIdx_zero] at hY0 | simp only [List.tail_cons] at hY0 | simp only [List.eraseIdx_cons_zero] at hY0 | simp only [List.eraseIdx_cons_succ] at hY0 | simp only [List.setIfInBounds_toArray] at hY0)
              refine wp_region_lit ?_
              have c_2_0 := hY0.cell 2 rfl 0 rfl
              have c_2_1 := hY0.cell 2 rfl 1 rfl
              have c_2_2 := hY0.cell 2 rfl 2 rfl
              have c_2_3 := hY0.cell 2 rfl 3 rfl
              iterate 2 (refine wpList_plainQ rfl (fun K Q' hK => ?_); go_simp; refine hK _ _ ?_; clear hK K; try clear Q')
              clear c_2_0 c_2_1 c_2_2 c_2_3
              refine wpList_plainQ rfl (fun K Q' hK => ?_); go_simp
              refine hY0.k_alloc (fun w45 h45 => ?_)
              refine hK _ _ ?_; clear hK K; try clear Q'
              -- stops at: eff:Builtin.append (Go.Op.call {'callee': (Go.Callee.builtin Go.Builtin.append), 'args': [(Go.Operand.tmp 215), (Go.Operand.tmp 217)], 'argTypes': [38, 38]}) slot 218
              refine wpList_plainQ rfl (fun K Q' hK => ?_)
              refine h45.op_append 1 rfl rfl infoW rfl [.bool bv, .int .i64 pv, .int .i64 zv, .slice av nv cv] rfl rfl (h45.newsAt 5 rfl) (by simp [Value.oneCell']) (by omega) (by unfold maxLen; omega) (fun v1 wY1 hY1 oY1 hnY1 => ?_)
              refine hK _ _ ?_; clear hK K; try clear Q'
              iterate 1 (refine wpList_plainQ rfl (fun K Q' hK => ?_); go_simp; refine hK _ _ ?_; clear hK K; try clear Q')
              refine wpList_nil ?_
              show Code.wp _ _ _ _ _
              clear h45
              repeat (first | simp only [List.nil_append] at hY1 | simp only [List.cons_append] at hY1 | simp only [List.set_cons_zero] at hY1 | simp only [List.set_cons_succ] at hY1 | simp only [List.eraseIdx_zero] at hY1 | simp only [List.tail_cons] at hY1 | simp only [List.eraseIdx_cons_zero] at hY1 | simp only [List.eraseIdx_cons_succ] at hY1 | simp only [List.setIfInBounds_toArray] at hY1)
              refine wp_region_lit ?_
              iterate 3 (refine wpList_plainQ rfl (fun K Q' hK => ?_); go_simp; refine hK _ _ ?_; clear hK K; try clear Q')
              refine wpList_nil ?_
              -- stops at: end ('roundend',)
              show _ ∧ _
              go_roundw
              case rel =>
                show PlaysInv _ _ _ _ _ _ _ _ _ _
                unfold PlaysInv
                refine ⟨k + 1, ps ++ [⟨r1, [.bool bv, .int .i64 pv, .int .i64 zv, .slice av nv cv], Hp.meld tA tB⟩], _, c3 + (Hp.meldC tA tB : Nat), d3 + (Hp.meldD tA tB : Nat), sn2, by omega, ?_, by simp, rfl, hsn2.out.symm, hle.trans (hpP.le.trans hpQ.le), (hheld.mono (hpP.le.trans hpQ.le)).snoc (hN1.mono hpQ.le) hN2 szN rfl, ?_⟩
                · show (ps ++ _).length = _
                  have := hpl.out
                  simp; omega
                · rw [List.length_append, List.map_append, List.flatMap_append]
                  exact hY1.take 1
              case measure => simp [intOf]; omega
          by_cases hk2 : kd = 2
          · subst hk2
            as_aux_lemma =>
            have szN : Hp.size (Hp.pop tA) ≤ 150 := by have := Hp.size_pop hqa.ok; omega
            obtain ⟨nn, hnn⟩ : ∃ n, Hid (Hp.popC tA + Hp.popD tA = n) := ⟨_, show _ = _ from rfl⟩
            have hiso : Hid ((Hp.min? tA).isSome = decide (0 < na)) := by show _ = _; rw [Hp.isSome_iff hqa.ok, hna.out]
            iterate 2 (refine wpList_plainQ rfl (fun K Q' hK => ?_); go_simp; refine hK _ _ ?_; clear hK K; try clear Q')
            refine wpList_nil ?_
            show Code.wp _ _ _ _ _
            -- stops at: cond
            refine wp_cond_false (rfl) ?_
            refine wp_seq ?_
            refine wp_region_lit ?_
            iterate 2 (refine wpList_plainQ rfl (fun K Q' hK => ?_); go_simp; refine hK _ _ ?_; clear hK K; try clear Q')
            refine wpList_nil ?_
            show Code.wp _ _ _ _ _
            -- stops at: cond
            refine wp_cond_false (rfl) ?_
            refine wp_seq ?_
            refine wp_region_lit ?_
            iterate 2 (refine wpList_plainQ rfl (fun K Q' hK => ?_); go_simp; refine hK _ _ ?_; clear hK K; try clear Q')
            refine wpList_nil ?_
            show Code.wp _ _ _ _ _
            -- stops at: cond
            refine wp_cond_true (rfl) ?_
            refine wp_seq ?_
            refine wp_region_lit ?_
            iterate 3 (refine wpList_plainQ rfl (fun K Q' hK => ?_); go_simp; refine hK _ _ ?_; clear hK K; try clear Q')
            -- stops at: load (Go.Op.load 29 (Go.Operand.tmp 179)) slot 180
            have ce := h9.rowcell 0 rfl ia ga
            iterate 1 (refine wpList_plainQ rfl (fun K Q' hK => ?_); go_simp; refine hK _ _ ?_; clear hK K; try clear Q')
            clear ce
            iterate 1 (refine wpList_plainQ rfl (fun K Q' hK => ?_); go_simp; refine hK _ _ ?_; clear hK K; try clear Q')
            -- stops at: eff:call (Go.Op.call {'callee': (Go.Callee.value (Go.Operand.func 12)), 'args': [(Go.Operand.tmp 180), (Go.Operand.tmp 181)], 'argTypes': [29, 25]}) slot 182
            refine wpList_plainQ rfl (fun K Q' hK => ?_); go_simp
            refine (hpop_ok (m := some bM) (h9.pre_at (i := 0) rfl) (by omega) hqa).mono ?_
            rintro e wP ⟨r1, H4, rfl, hpP, hN1⟩
            rw [hiso.out]
            have h46 := h9.call_at (i := 0) rfl hpP
            refine hK _ _ ?_; clear hK K; try clear Q'
            iterate 3 (refine wpList_plainQ rfl (fun K Q' hK => ?_); go_simp; refine hK _ _ ?_; clear hK K; try clear Q')
            refine wpList_plainQ rfl (fun K Q' hK => ?_); go_simp
            refine h46.k_alloc (fun w47 h47 => ?_)
            refine hK _ _ ?_; clear hK K; try clear Q'
            have c_0 := h47.cell 3 rfl 0 rfl
            have f_0 := h47.free 3 rfl 0
            refine wpList_plainQ rfl (fun K Q' hK => ?_); go_simp
            clear c_0 f_0
            refine h47.k_set 3 rfl (fun w48 h48 => ?_)
            refine hK _ _ ?_; clear hK K; try clear Q'
            iterate 1 (refine wpList_plainQ rfl (fun K Q' hK => ?_); go_simp; refine hK _ _ ?_; clear hK K; try clear Q')
            refine wpList_nil ?_
            show Code.wp _ _ _ _ _
            refine wp_seq ?_
            clear h9 h46 h47
            repeat (first | simp only [List.nil_append] at h48 | simp only [List.cons_append] at h48 | simp only [List.set_cons_zero] at h48 | simp only [List.set_cons_succ] at h48 | simp only [List.eraseIdx_zero] at h48 | simp only [List.tail_cons] at h48 | simp only [List.eraseIdx_cons_zero] at h48 | simp only [List.eraseIdx_cons_succ] at h48 | simp only [List.setIfInBounds_toArray] at h48)
            refine wp_region_lit ?_
            have c_3_0 := h48.cell 3 rfl 0 rfl
            iterate 1 (refine wpList_plainQ rfl (fun K Q' hK => ?_); go_simp; refine hK _ _ ?_; clear hK K; try clear Q')
            clear c_3_0
            have c_0 := h48.cell 1 rfl 0 rfl
            have f_0 := h48.free 1 rfl 0
            refine wpList_plainQ rfl (fun K Q' hK => ?_); go_simp
            clear c_0 f_0
            refine h48.k_set 1 rfl (fun w49 h49 => ?_)
            refine hK _ _ ?_; clear hK K; try clear Q'
            refine wpList_nil ?_
            show Code.wp _ _ _ _ _
            refine wp_seq ?_
            clear h48
            repeat (first | simp only [List.nil_append] at h49 | simp only [List.cons_append] at h49 | simp only [List.set_cons_zero] at h49 | simp only [List.set_cons_succ] at h49 | simp only [List.eraseIdx_zero] at h49 | simp only [List.tail_cons] at h49 | simp only [List.eraseIdx_cons_zero] at h49 | simp only [List.eraseIdx_cons_succ] at h49 | simp only [List.setIfInBounds_toArray] at h49)
            refine wp_region_lit ?_
            iterate 3 (refine wpList_plainQ rfl (fun K Q' hK => ?_); go_simp; refine hK _ _ ?_; clear hK K; try clear Q')
            -- stops at: load (Go.Op.load 37 (Go.Operand.tmp 189)) slot 190
            have ce0 := h49.rowcell 1 rfl (ia * 4) fa0
            have ce1 := h49.rowcell 1 rfl (ia * 4 + 1) fa1
            have ce2 := h49.rowcell 1 rfl (ia * 4 + 2) fa2
            have ce3 := h49.rowcell 1 rfl (ia * 4 + 3) fa3
            iterate 1 (refine wpList_plainQ rfl (fun K Q' hK => ?_); go_simp; refine hK _ _ ?_; clear hK K; try clear Q')
            clear ce0 ce1 ce2 ce3
            -- stops at: eff:call (Go.Op.call {'callee': (Go.Callee.value (Go.Operand.func 13)), 'args': [(Go.Operand.tmp 190)], 'argTypes': [37]}) slot 191
            refine wpList_plainQ rfl (fun K Q' hK => ?_); go_simp
            refine (wpop_ok h49.fits (by omega) (hwa.mono hpP.le)).mono ?_
            rintro e wQ ⟨ds, HX9, rfl, hpQ, hN2⟩
            obtain ⟨bv, pv, zv, av, nv, cv, rfl⟩ := hN2.form
            rw [hnn.out]
            have h50 := h49.call0 hpQ
            refine hK _ _ ?_; clear hK K; try clear Q'
            iterate 3 (refine wpList_plainQ rfl (fun K Q' hK => ?_); go_simp; refine hK _ _ ?_; clear hK K; try clear Q')
            refine wpList_plainQ rfl (fun K Q' hK => ?_); go_simp
            refine h50.k_alloc (fun w51 h51 => ?_)
            refine hK _ _ ?_; clear hK K; try clear Q'
            have c_0 := h51.cell 4 rfl 0 rfl
            have f_0 := h51.free 4 rfl 0
            have c_1 := h51.cell 4 rfl 1 rfl
            have f_1 := h51.free 4 rfl 1
            have c_2 := h51.cell 4 rfl 2 rfl
            have f_2 := h51.free 4 rfl 2
            have c_3 := h51.cell 4 rfl 3 rfl
            have f_3 := h51.free 4 rfl 3
            refine wpList_plainQ rfl (fun K Q' hK => ?_); go_simp
            clear c_0 f_0 c_1 f_1 c_2 f_2 c_3 f_3
            refine (((h51.set (i := 4) rfl 0 _).set (i := 4) rfl 1 _).set (i := 4) rfl 2 _).k_set 4 rfl (fun w52 h52 => ?_)
            refine hK _ _ ?_; clear hK K; try clear Q'
            iterate 1 (refine wpList_plainQ rfl (fun K Q' hK => ?_); go_simp; refine hK _ _ ?_; clear hK K; try clear Q')
            refine wpList_nil ?_
            show Code.wp _ _ _ _ _
            refine wp_seq ?_
            clear h49 h50 h51
            repeat (first | simp only [List.nil_append] at h52 | simp only [List.cons_append] at h52 | simp only [List.set_cons_zero] at h52 | simp only [List.set_cons_succ] at h52 | simp only [List.eraseIdx_zero] at h52 | simp only [List.tail_cons] at h52 | simp only [List.eraseIdx_cons_zero] at h52 | simp only [List.eraseIdx_cons_succ] at h52 | simp only [List.setIfInBounds_toArray] at h52)
            refine wp_region_lit ?_
            have c_4_0 := h52.cell 4 rfl 0 rfl
            have c_4_1 := h52.cell 4 rfl 1 rfl
            have c_4_2 := h52.cell 4 rfl 2 rfl
            have c_4_3 := h52.cell 4 rfl 3 rfl
            iterate 1 (refine wpList_plainQ rfl (fun K Q' hK => ?_); go_simp; refine hK _ _ ?_; clear hK K; try clear Q')
            clear c_4_0 c_4_1 c_4_2 c_4_3
            have c_0 := h52.cell 2 rfl 0 rfl
            have f_0 := h52.free 2 rfl 0
            have c_1 := h52.cell 2 rfl 1 rfl
            have f_1 := h52.free 2 rfl 1
            have c_2 := h52.cell 2 rfl 2 rfl
            have f_2 := h52.free 2 rfl 2
            have c_3 := h52.cell 2 rfl 3 rfl
            have f_3 := h52.free 2 rfl 3
            refine wpList_plainQ rfl (fun K Q' hK => ?_); go_simp
            clear c_0 f_0 c_1 f_1 c_2 f_2 c_3 f_3
            refine (((h52.set (i := 2) rfl 0 _).set (i := 2) rfl 1 _).set (i := 2) rfl 2 _).k_set 2 rfl (fun w53 h53 => ?_)
            refine hK _ _ ?_; clear hK K; try clear Q'
            refine wpList_nil ?_
            show Code.wp _ _ _ _ _
            refine wp_seq ?_
            clear h52
            repeat (first | simp only [List.nil_append] at h53 | simp only [List.cons_append] at h53 | simp only [List.set_cons_zero] at h53 | simp only [List.set_cons_succ] at h53 | simp only [List.eraseIdx_zero] at h53 | simp only [List.tail_cons] at h53 | simp only [List.eraseIdx_cons_zero] at h53 | simp only [List.eraseIdx_cons_succ] at h53 | simp only [List.setIfInBounds_toArray] at h53)
            refine wp_region_lit ?_
            iterate 2 (refine wpList_plainQ rfl (fun K Q' hK => ?_); go_simp; refine hK _ _ ?_; clear hK K; try clear Q')
            refine wpList_nil ?_
            show Code.wp _ _ _ _ _
            refine wp_seq ?_
            refine wp_region_lit ?_
            iterate 4 (refine wpList_plainQ rfl (fun K Q' hK => ?_); go_simp; refine hK _ _ ?_; clear hK K; try clear Q')
            -- stops at: load (Go.Op.load 37 (Go.Operand.tmp 199)) slot 200
            have ce0 := h53.rowcell 1 rfl (ia * 4) fa0
            have ce1 := h53.rowcell 1 rfl (ia * 4 + 1) fa1
            have ce2 := h53.rowcell 1 rfl (ia * 4 + 2) fa2
            have ce3 := h53.rowcell 1 rfl (ia * 4 + 3) fa3
            iterate 1 (refine wpList_plainQ rfl (fun K Q' hK => ?_); go_simp; refine hK _ _ ?_; clear hK K; try clear Q')
            clear ce0 ce1 ce2 ce3
            -- stops at: eff:call (Go.Op.call {'callee': (Go.Callee.value (Go.Operand.func 7)), 'args': [(Go.Operand.tmp 200)], 'argTypes': [37]}) slot 201
            refine wpList_plainQ rfl (fun K Q' hK => ?_); go_simp
            refine (wsize_ok h53.fits (by omega) ((hwa.mono hpP.le).mono hpQ.le)).mono ?_
            rintro e wZ ⟨rfl, hkZ⟩
            rw [hna.out]
            have h54 := h53.callk hkZ
            refine hK _ _ ?_; clear hK K; try clear Q'
            iterate 2 (refine wpList_plainQ rfl (fun K Q' hK => ?_); go_simp; refine hK _ _ ?_; clear hK K; try clear Q')
            refine wpList_nil ?_
            show Code.wp _ _ _ _ _
            -- stops at: cond
            refine wp_cond_false (rfl) ?_
            as_aux_lemma =>
            obtain ⟨sn2, hsn2⟩ : ∃ s, Hid (IntKind.i64.wrap ((c3 + (Hp.popC tA : Nat)) + (d3 + (Hp.popD tA : Nat))) = s) := ⟨_, show _ = _ from rfl⟩
            have esn : IntKind.i64.wrap (sn + (nn : Int)) = sn2 := by rw [← hsn2.out, hsn.out, wrap_wrap_add]; congr 1; have := hnn.out; omega
            refine wp_skip ?_
            show Code.wp _ _ _ _ _
            refine wp_seq ?_
            clear h53
            repeat (first | simp only [List.nil_append] at h54 | simp only [List.cons_append] at h54 | simp only [List.set_cons_zero] at h54 | simp only [List.set_cons_succ] at h54 | simp only [List.eraseIdx_zero] at h54 | simp only [List.tail_cons] at h54 | simp only [List.eraseIdx_cons_zero] at h54 | simp only [List.eraseIdx_cons_succ] at h54 | simp only [List.setIfInBounds_toArray] at h54)
            refine wp_region_lit ?_
            iterate 4 (refine wpList_plainQ rfl (fun K Q' hK => ?_); go_simp; refine hK _ _ ?_; clear hK K; try clear Q')
            refine wpList_nil ?_
            show Code.wp _ _ _ _ _
            refine wp_seq ?_
            refine wp_seq ?_
            refine wp_region_lit ?_
            iterate 1 (refine wpList_plainQ rfl (fun K Q' hK => ?_); go_simp; refine hK _ _ ?_; clear hK K; try clear Q')
            -- stops at: eff:call (Go.Op.call {'callee': (Go.Callee.value (Go.Operand.func 15)), 'args': [(Go.Operand.tmp 207)], 'argTypes': [25]}) slot 208
            refine wpList_plainQ rfl (fun K Q' hK => ?_); go_simp
            refine (steps_ok _ _ bM _ _ (h54.pre_at (i := 0) rfl)).mono ?_
            rintro e wSt ⟨rfl, hpSt⟩
            rw [show IntKind.i64.wrap (c3 + (Hp.popC tA : Nat) + (d3 + (Hp.popD tA : Nat))) = sn2 from hsn2.out]
            have h55 := h54.call_at (i := 0) rfl hpSt
            refine hK _ _ ?_; clear hK K; try clear Q'
            iterate 2 (refine wpList_plainQ rfl (fun K Q' hK => ?_); go_simp; refine hK _ _ ?_; clear hK K; try clear Q')
            refine wpList_nil ?_
            show Code.wp _ _ _ _ _
            -- stops at: cond
            refine wp_cond_false (rfl) ?_
            refine wp_skip ?_
            show Code.wp _ _ _ _ _
            refine wp_seq ?_
            clear h54
            repeat (first | simp only [List.nil_append] at h55 | simp only [List.cons_append] at h55 | simp only [List.set_cons_zero] at h55 | simp only [List.set_cons_succ] at h55 | simp only [List.eraseIdx_zero] at h55 | simp only [List.tail_cons] at h55 | simp only [List.eraseIdx_cons_zero] at h55 | simp only [List.eraseIdx_cons_succ] at h55 | simp only [List.setIfInBounds_toArray] at h55)
            refine wp_region_lit ?_
            have c_1_0 := h55.cell 1 rfl 0 rfl
            iterate 2 (refine wpList_plainQ rfl (fun K Q' hK => ?_); go_simp; refine hK _ _ ?_; clear hK K; try clear Q')
            clear c_1_0
            refine wpList_plainQ rfl (fun K Q' hK => ?_); go_simp
            refine h55.k_alloc (fun w56 h56 => ?_)
            refine hK _ _ ?_; clear hK K; try clear Q'
            -- stops at: eff:Builtin.append (Go.Op.call {'callee': (Go.Callee.builtin Go.Builtin.append), 'args': [(Go.Operand.tmp 211), (Go.Operand.tmp 213)], 'argTypes': [30, 30]}) slot 214
            refine wpList_plainQ rfl (fun K Q' hK => ?_)
            refine h56.op_append 0 rfl rfl infoHp rfl [Value.pointer r1] rfl rfl (h56.newsAt 5 rfl) (by simp [Value.oneCell']) (by omega) (by unfold maxLen; omega) (fun v0 wY0 hY0 oY0 hnY0 => ?_)
            refine hK _ _ ?_; clear hK K; try clear Q'
            iterate 1 (refine wpList_plainQ rfl (fun K Q' hK => ?_); go_simp; refine hK _ _ ?_; clear hK K; try clear Q')
            refine wpList_nil ?_
            show Code.wp _ _ _ _ _
            clear h55 h56
            repeat (first | simp only [List.nil_append] at hY0 | simp only [List.cons_append] at hY0 | simp only [List.set_cons_zero] at hY0 | simp only [List.set_cons_succ] at hY0 | simp only [List.eraseIdx_zero] at hY0 | simp only [List.tail_cons] at hY0 | simp only [List.eraseIdx_cons_zero] at hY0 | simp only [List.eraseIdx_cons_succ] at hY0 | simp only [List.setIfInBounds_toArray] at hY0)
            refine wp_region_lit ?_
            have c_2_0 := hY0.cell 2 rfl 0 rfl
            have c_2_1 := hY0.cell 2 rfl 1 rfl
            have c_2_2 := hY0.cell 2 rfl 2 rfl
            have c_2_3 := hY0.cell 2 rfl 3 rfl
            iterate 2 (refine wpList_plainQ rfl (fun K Q' hK => ?_); go_simp; refine hK _ _ ?_; clear hK K; try clear Q')
            clear c_2_0 c_2_1 c_2_2 c_2_3
            refine wpList_plainQ rfl (fun K Q' hK => ?_); go_simp
            refine hY0.k_alloc (fun w57 h57 => ?_)
            refine hK _ _ ?_; clear hK K; try clear Q'
            -- stops at: eff:Builtin.append (Go.Op.call {'callee': (Go.Callee.builtin Go.Builtin.append), 'args': [(Go.Operand.tmp 215), (Go.Operand.tmp 217)], 'argTypes': [38, 38]}) slot 218
            refine wpList_plainQ rfl (fun K Q' hK => ?_)
            refine h57.op_append 1 rfl rfl infoW rfl [.bool bv, .int .i64 pv, .int .i64 zv, .slice av nv cv] rfl rfl (h57.newsAt 6 rfl) (by simp [Value.oneCell']) (by omega) (by unfold maxLen; omega) (fun v1 wY1 hY1 oY1 hnY1 => ?_)
            refine hK _ _ ?_; clear hK K; try clear Q'
            iterate 1 (refine wpList_plainQ rfl (fun K Q' hK => ?_); go_simp; refine hK _ _ ?_; clear hK K; try clear Q')
            refine wpList_nil ?_
            show Code.wp _ _ _ _ _
            clear h57
            repeat (first | simp only [List.nil_append] at hY1 | simp only [List.cons_append] at hY1 | simp only [List.set_cons_zero] at hY1 | simp only [List.set_cons_succ] at hY1 | simp only [List.eraseIdx_zero] at hY1 | simp only [List.tail_cons] at hY1 | simp only [List.eraseIdx_cons_zero] at hY1 | simp only [List.eraseIdx_cons_succ] at hY1 | simp only [List.setIfInBounds_toArray] at hY1)
            refine wp_region_lit ?_
            iterate 3 (refine wpList_plainQ rfl (fun K Q' hK => ?_); go_simp; refine hK _ _ ?_; clear hK K; try clear Q')
            refine wpList_nil ?_
            -- stops at: end ('roundend',)
            show _ ∧ _
            go_roundw
            case rel =>
              show PlaysInv _ _ _ _ _ _ _ _ _ _
              unfold PlaysInv
              refine ⟨k + 1, ps ++ [⟨r1, [.bool bv, .int .i64 pv, .int .i64 zv, .slice av nv cv], Hp.pop tA⟩], _, c3 + (Hp.popC tA : Nat), d3 + (Hp.popD tA : Nat), sn2, by omega, ?_, by simp, rfl, hsn2.out.symm, hle.trans (hpP.le.trans hpQ.le), (hheld.mono (hpP.le.trans hpQ.le)).snoc (hN1.mono hpQ.le) hN2 szN rfl, ?_⟩
              · show (ps ++ _).length = _
                have := hpl.out
                simp; omega
              · rw [List.length_append, List.map_append, List.flatMap_append]
                exact hY1.take 1
            case measure => simp [intOf]; omega
          · skip
            have q0 : ((kd : Int) == 0) = false := beq_eq_false_iff_ne.2 (by omega)
            have q1 : ((kd : Int) == 1) = false := beq_eq_false_iff_ne.2 (by omega)
            have q2 : ((kd : Int) == 2) = false := beq_eq_false_iff_ne.2 (by omega)
            have szN : Hp.size (Hp.ofL ll) ≤ 150 := by rw [Hp.size_ofL, hnl.out]; omega
            have hel' : SliceRep H 2 (.slice al nl cpl) nl (ll.flatMap elC) := by have h5 := hel; unfold ElRep at h5; rwa [hnl.out] at h5
            clear hk0 hk1 hk2
            iterate 2 (refine wpList_plainQ rfl (fun K Q' hK => ?_); go_simp; refine hK _ _ ?_; clear hK K; try clear Q')
            refine wpList_nil ?_
            show Code.wp _ _ _ _ _
            -- stops at: cond
            refine wp_cond_false (rfl) ?_
            refine wp_seq ?_
            refine wp_region_lit ?_
            iterate 2 (refine wpList_plainQ rfl (fun K Q' hK => ?_); go_simp; refine hK _ _ ?_; clear hK K; try clear Q')
            refine wpList_nil ?_
            show Code.wp _ _ _ _ _
            -- stops at: cond
            refine wp_cond_false (rfl) ?_
            refine wp_seq ?_
            refine wp_region_lit ?_
            iterate 2 (refine wpList_plainQ rfl (fun K Q' hK => ?_); go_simp; refine hK _ _ ?_; clear hK K; try clear Q')
            refine wpList_nil ?_
            show Code.wp _ _ _ _ _
            -- stops at: cond
            refine wp_cond_false (rfl) ?_
            refine wp_seq ?_
            refine wp_region_lit ?_
            iterate 5 (refine wpList_plainQ rfl (fun K Q' hK => ?_); go_simp; refine hK _ _ ?_; clear hK K; try clear Q')
            -- stops at: load (Go.Op.load 39 (Go.Operand.tmp 90)) slot 91
            have ce := cl6.out 5 _ (by omega) rfl _ (h9.fits.le h9.le)
            iterate 1 (refine wpList_plainQ rfl (fun K Q' hK => ?_); go_simp; refine hK _ _ ?_; clear hK K; try clear Q')
            clear ce
            -- stops at: eff:call (Go.Op.call {'callee': (Go.Callee.value (Go.Operand.func 14)), 'args': [(Go.Operand.tmp 86), (Go.Operand.tmp 91)], 'argTypes': [25, 39]}) slot 92
            refine wpList_plainQ rfl (fun K Q' hK => ?_); go_simp
            refine (hof_ok (m := some bM) (xs := ll) hef (h9.pre_at (i := 0) rfl) (by rw [hnl.out]; omega) (hel.mono h9.le)).mono ?_
            rintro e wP ⟨r1, H4, rfl, hpP, hN1⟩
            have h58 := h9.call_at (i := 0) rfl hpP
            refine hK _ _ ?_; clear hK K; try clear Q'
            have c_0 := h58.cell 1 rfl 0 rfl
            have f_0 := h58.free 1 rfl 0
            refine wpList_plainQ rfl (fun K Q' hK => ?_); go_simp
            clear c_0 f_0
            refine h58.k_set 1 rfl (fun w59 h59 => ?_)
            refine hK _ _ ?_; clear hK K; try clear Q'
            refine wpList_nil ?_
            show Code.wp _ _ _ _ _
            refine wp_seq ?_
            clear h9 h58
            repeat (first | simp only [List.nil_append] at h59 | simp only [List.cons_append] at h59 | simp only [List.set_cons_zero] at h59 | simp only [List.set_cons_succ] at h59 | simp only [List.eraseIdx_zero] at h59 | simp only [List.tail_cons] at h59 | simp only [List.eraseIdx_cons_zero] at h59 | simp only [List.eraseIdx_cons_succ] at h59 | simp only [List.setIfInBounds_toArray] at h59)
            refine wp_region_lit ?_
            iterate 1 (refine wpList_plainQ rfl (fun K Q' hK => ?_); go_simp; refine hK _ _ ?_; clear hK K; try clear Q')
            refine wpList_nil ?_
            show Code.wp _ _ _ _ _
            refine wp_block ?_
            -- stops at: loop
            go_loopw [14, 23] (fun v14 v23 wr => ∃ (j : Nat) (cs : List Value) (nn : Int) (H' : GH), j ≤ nl ∧ v23 = .int .i64 j ∧ v14 = .int .i64 nn ∧ Hid (nn = IntKind.i64.wrap ((Hp.ofC (ll.take j) : Nat) + (Hp.ofD (ll.take j) : Nat))) ∧ H4.le H' ∧ WvR H' cs (Hp.ofL (ll.take j)) ∧ St w H none 0 0 wr H' [(bM, meterObj (c3 + (Hp.ofC ll : Nat)) (d3 + (Hp.ofD ll : Nat))), (wA2.heap.size, .cells #[.pointer r1] 29), (w8.heap.size, .cells cs.toArray 37)] [⟨.slice (some ⟨g7, 0, none⟩) ps.length c7, 29, 1, ps.length, ps.map (fun a => .pointer a.p)⟩, ⟨.slice (some ⟨g8, 0, none⟩) ps.length c8, 37, 4, ps.length, ps.flatMap Duo.u⟩]) (fun _ v23 _ => nl - (intOf v23).toNat)
            case atStart => exact ⟨0, [.bool false, .int .i64 0, .int .i64 0, .slice none 0 0], 0, H4, by omega, rfl, rfl, rfl, GH.le_refl _, WvR.nil _, h59⟩
            case round =>
              obtain ⟨j, cs, nn, H5, hj, rfl, rfl, hnn, hle5, hW5, hs5⟩ := hrel
              obtain ⟨bj, pj, zj, aj, nj, cj, rfl⟩ := hW5.form
              by_cases hlt5 : j < nl
              · obtain ⟨b5, o5, _, e5', _⟩ := hel'.ne_nil (by omega)
                simp only [Value.slice.injEq, true_and] at e5'
                obtain ⟨rfl, rfl⟩ := e5'
                obtain ⟨y, hy⟩ : ∃ y, ll[j]? = some y := ⟨ll[j]'(by have := hnl.out; omega), by simp⟩
                have hyf : El.fits y := hef y (List.mem_of_getElem? hy)
                obtain ⟨cy1, cy2⟩ := elRep_cells hel' (k := j) (a := y) hy
                have htk : ll.take (j + 1) = ll.take j ++ [y] := by rw [List.take_add_one, hy]; rfl
                have hsz5 : Hp.size (Hp.ofL (ll.take j)) ≤ 40 := by rw [Hp.size_ofL, List.length_take]; omega
                obtain ⟨ic, hic⟩ : ∃ m, Hid (Hp.insC y (Hp.ofL (ll.take j)) + Hp.insD y (Hp.ofL (ll.take j)) = m) := ⟨_, show _ = _ from rfl⟩
                obtain ⟨nn2, hnn2⟩ : ∃ s, Hid (IntKind.i64.wrap ((Hp.ofC (ll.take (j + 1)) : Nat) + (Hp.ofD (ll.take (j + 1)) : Nat)) = s) := ⟨_, show _ = _ from rfl⟩
                have en : IntKind.i64.wrap (nn + (ic : Int)) = nn2 := by
                  rw [← hnn2.out, hnn.out, wrap_wrap_add, htk, Hp.ofC_snoc, Hp.ofD_snoc]
                  congr 1
                  have := hic.out
                  omega
                have ej : IntKind.i64.wrap ((j : Int) + 1) = (j : Int) + 1 := IntWalk.i64_in _ (by omega)
                refine wp_seq ?_
                refine wp_seq ?_
                clear h59
                repeat (first | simp only [List.nil_append] at hs5 | simp only [List.cons_append] at hs5 | simp only [List.set_cons_zero] at hs5 | simp only [List.set_cons_succ] at hs5 | simp only [List.eraseIdx_zero] at hs5 | simp only [List.tail_cons] at hs5 | simp only [List.eraseIdx_cons_zero] at hs5 | simp only [List.eraseIdx_cons_succ] at hs5 | simp only [List.setIfInBounds_toArray] at hs5)
                refine wp_region_lit ?_
                iterate 5 (refine wpList_plainQ rfl (fun K Q' hK => ?_); go_simp; refine hK _ _ ?_; clear hK K; try clear Q')
                -- stops at: load (Go.Op.load 39 (Go.Operand.tmp 97)) slot 98
                have ce := cl6.out 5 _ (by omega) rfl _ (hs5.fits.le hs5.le)
                iterate 1 (refine wpList_plainQ rfl (fun K Q' hK => ?_); go_simp; refine hK _ _ ?_; clear hK K; try clear Q')
                clear ce
                iterate 2 (refine wpList_plainQ rfl (fun K Q' hK => ?_); go_simp; refine hK _ _ ?_; clear hK K; try clear Q')
                refine wpList_nil ?_
                show Code.wp _ _ _ _ _
                -- stops at: cond
                refine wp_cond_true (rfl) ?_
                refine wp_skip ?_
                show Code.wp _ _ _ _ _
                refine wp_seq ?_
                refine wp_block ?_
                refine wp_seq ?_
                refine hs5.regionT [2] (.one 0 true (.one 1 true (.one 2 true (.one 3 true (.one 4 true (.one 5 true (.one 6 true (.one 7 true (.one 8 true (.two (.one 9 false (.one 10 true (.one 11 true (.one 12 true (.one 13 false (.one 14 false (.one 15 true .nil))))))) (.one 13 false (.one 9 false (.one 10 true (.one 11 true (.one 12 true (.one 14 false (.one 15 true .nil))))))))))))))))) (by as_aux_lemma => kernel_rfl) (by as_aux_lemma => kernel_rfl) (fun w60 h60 => ?_)
                refine wpT_hide (fun _ _ d _ _ h => by cases d <;> exact h) (fun QR hQn hQp => ?_)
                dsimp only [OT.ops, List.getD_cons_zero, List.getD_cons_succ]
                iterate 4 (refine wpT_quiet (v := ?_) rfl (fun _ _ _ => hQp _ _ _ _ _) ?_ ?_; rotate_left; (intro w' hS; (first | (go_simp; done) | (go_simp; with_reducible rfl))); simp only [Act.put, List.setIfInBounds_toArray])
                -- stops at: load (Go.Op.load 39 (Go.Operand.tmp 107)) slot 108
                iterate 1 (refine wpT_quiet (v := ?_) rfl (fun _ _ _ => hQp _ _ _ _ _) ?_ ?_; rotate_left; (intro w' hS; have ce := cl6.out 5 _ (by omega) rfl _ (hS.1.le h60.le); (first | (go_simp; done) | (go_simp; with_reducible rfl))); simp only [Act.put])
                iterate 2 (refine wpT_quiet (v := ?_) rfl (fun _ _ _ => hQp _ _ _ _ _) ?_ ?_; rotate_left; (intro w' hS; (first | (go_simp; done) | (go_simp; with_reducible rfl))); simp only [Act.put])
                -- stops at: load (Go.Op.load 32 (Go.Operand.tmp 110)) slot 111
                iterate 1 (refine wpT_quiet (v := ?_) rfl (fun _ _ _ => hQp _ _ _ _ _) ?_ ?_; rotate_left; (intro w' hS; have ce := cy1.out _ (hS.1.le h60.le); have ce2 := cy2.out _ (hS.1.le h60.le); (first | (go_simp; done) | (go_simp; with_reducible rfl))); simp only [Act.put])
                iterate 1 (refine wpT_quiet (v := ?_) rfl (fun _ _ _ => hQp _ _ _ _ _) ?_ ?_; rotate_left; (intro w' hS; have c_2_0 := hS.cell 0 rfl 0 rfl; have c_2_1 := hS.cell 0 rfl 1 rfl; have c_2_2 := hS.cell 0 rfl 2 rfl; have c_2_3 := hS.cell 0 rfl 3 rfl; (first | (go_simp; done) | (go_simp; with_reducible rfl))); simp only [Act.put])
                refine wpT_two ?_ ?_
                -- stops at: fork 
                · skip
                  -- stops at: eff:call (Go.Op.call {'callee': (Go.Callee.value (Go.Operand.func 9)), 'args': [(Go.Operand.tmp 111), (Go.Operand.tmp 112)], 'argTypes': [32, 37]}) slot 113
                  refine wpT_effQ rfl (fun K Q' hK => ?_); go_simp
                  refine (winsert_ok y h60.fits (by omega) hW5).mono ?_
                  rintro e wQ ⟨ds, HX9, rfl, hpQ, hN2⟩
                  obtain ⟨bv, pv, zv, av, nv, cv, rfl⟩ := hN2.form
                  rw [hic.out]
                  have h61 := h60.call0 hpQ
                  refine hK _ _ (h61.sat' hpQ.le [2] (sel_cons rfl rfl (sel_nil2 _ _))) ?_; clear hK K; try clear Q'
                  iterate 3 (refine wpT_quiet (v := ?_) rfl (fun _ _ _ => hQp _ _ _ _ _) ?_ ?_; rotate_left; (intro w' hS; (first | (go_simp; done) | (go_simp; with_reducible rfl))); simp only [Act.put, List.setIfInBounds_toArray])
                  refine wpT_effQ rfl (fun K Q' hK => ?_); go_simp
                  refine h61.k_alloc (fun w62 h62 => ?_)
                  refine hK _ _ (h62.sat' hpQ.le [2] (sel_cons rfl rfl (sel_nil2 _ _))) ?_; clear hK K; try clear Q'
                  have c_0 := h62.cell 3 rfl 0 rfl
                  have f_0 := h62.free 3 rfl 0
                  have c_1 := h62.cell 3 rfl 1 rfl
                  have f_1 := h62.free 3 rfl 1
                  have c_2 := h62.cell 3 rfl 2 rfl
                  have f_2 := h62.free 3 rfl 2
                  have c_3 := h62.cell 3 rfl 3 rfl
                  have f_3 := h62.free 3 rfl 3
                  refine wpT_effQ rfl (fun K Q' hK => ?_); go_simp
                  clear c_0 f_0 c_1 f_1 c_2 f_2 c_3 f_3
                  refine (((h62.set (i := 3) rfl 0 _).set (i := 3) rfl 1 _).set (i := 3) rfl 2 _).k_set 3 rfl (fun w63 h63 => ?_)
                  refine hK _ _ (h63.sat' hpQ.le [2] (sel_cons rfl rfl (sel_nil2 _ _))) ?_; clear hK K; try clear Q'
                  iterate 1 (refine wpT_quiet (v := ?_) rfl (fun _ _ _ => hQp _ _ _ _ _) ?_ ?_; rotate_left; (intro w' hS; (first | (go_simp; done) | (go_simp; with_reducible rfl))); simp only [Act.put, List.setIfInBounds_toArray])
                  refine wpT_nil (hQn _ _ ?_); clear hQn hQp QR
                  show Code.wp _ _ _ _ _
                  refine wp_seq ?_
                  clear h60 h61 h62
                  repeat (first | simp only [List.nil_append] at h63 | simp only [List.cons_append] at h63 | simp only [List.set_cons_zero] at h63 | simp only [List.set_cons_succ] at h63 | simp only [List.eraseIdx_zero] at h63 | simp only [List.tail_cons] at h63 | simp only [List.eraseIdx_cons_zero] at h63 | simp only [List.eraseIdx_cons_succ] at h63 | simp only [List.setIfInBounds_toArray] at h63)
                  refine wp_region_lit ?_
                  have c_3_0 := h63.cell 3 rfl 0 rfl
                  have c_3_1 := h63.cell 3 rfl 1 rfl
                  have c_3_2 := h63.cell 3 rfl 2 rfl
                  have c_3_3 := h63.cell 3 rfl 3 rfl
                  iterate 1 (refine wpList_plainQ rfl (fun K Q' hK => ?_); go_simp; refine hK _ _ ?_; clear hK K; try clear Q')
                  clear c_3_0 c_3_1 c_3_2 c_3_3
                  have c_0 := h63.cell 2 rfl 0 rfl
                  have f_0 := h63.free 2 rfl 0
                  have c_1 := h63.cell 2 rfl 1 rfl
                  have f_1 := h63.free 2 rfl 1
                  have c_2 := h63.cell 2 rfl 2 rfl
                  have f_2 := h63.free 2 rfl 2
                  have c_3 := h63.cell 2 rfl 3 rfl
                  have f_3 := h63.free 2 rfl 3
                  refine wpList_plainQ rfl (fun K Q' hK => ?_); go_simp
                  clear c_0 f_0 c_1 f_1 c_2 f_2 c_3 f_3
                  refine (((h63.set (i := 2) rfl 0 _).set (i := 2) rfl 1 _).set (i := 2) rfl 2 _).k_set 2 rfl (fun w64 h64 => ?_)
                  refine hK _ _ ?_; clear hK K; try clear Q'
                  refine wpList_nil ?_
                  show Code.wp _ _ _ _ _
                  clear h63
                  repeat (first | simp only [List.nil_append] at h64 | simp only [List.cons_append] at h64 | simp only [List.set_cons_zero] at h64 | simp only [List.set_cons_succ] at h64 | simp only [List.eraseIdx_zero] at h64 | simp only [List.tail_cons] at h64 | simp only [List.eraseIdx_cons_zero] at h64 | simp only [List.eraseIdx_cons_succ] at h64 | simp only [List.setIfInBounds_toArray] at h64)
                  refine wp_region_lit ?_
                  iterate 4 (refine wpList_plainQ rfl (fun K Q' hK => ?_); go_simp; refine hK _ _ ?_; clear hK K; try clear Q')
                  refine wpList_nil ?_
                  show Code.wp _ _ _ _ _
                  refine wp_region_lit ?_
                  iterate 3 (refine wpList_plainQ rfl (fun K Q' hK => ?_); go_simp; refine hK _ _ ?_; clear hK K; try clear Q')
                  refine wpList_nil ?_
                  -- stops at: end ('roundend',)
                  show _ ∧ _
                  go_roundw
                  case rel => exact ⟨j + 1, [.bool bv, .int .i64 pv, .int .i64 zv, .slice av nv cv], nn2, HX9, by omega, by simp, rfl, hnn2.out.symm, hle5.trans hpQ.le, by rw [htk, Hp.ofL_snoc]; exact hN2, h64.take 3⟩
                  case measure => simp [intOf]; omega
                · skip
                  refine wpT_effQ rfl (fun K Q' hK => ?_); go_simp
                  refine h60.k_alloc (fun w65 h65 => ?_)
                  refine hK _ _ (h65.sat' (GH.le_refl _) [2] (sel_cons rfl rfl (sel_nil2 _ _))) ?_; clear hK K; try clear Q'
                  -- stops at: eff:call (Go.Op.call {'callee': (Go.Callee.value (Go.Operand.func 9)), 'args': [(Go.Operand.tmp 111), (Go.Operand.tmp 112)], 'argTypes': [32, 37]}) slot 113
                  refine wpT_effQ rfl (fun K Q' hK => ?_); go_simp
                  refine (winsert_ok y h65.fits (by omega) hW5).mono ?_
                  rintro e wQ ⟨ds, HX9, rfl, hpQ, hN2⟩
                  obtain ⟨bv, pv, zv, av, nv, cv, rfl⟩ := hN2.form
                  rw [hic.out]
                  have h66 := h65.call0 hpQ
                  refine hK _ _ (h66.sat' hpQ.le [2] (sel_cons rfl rfl (sel_nil2 _ _))) ?_; clear hK K; try clear Q'
                  iterate 3 (refine wpT_quiet (v := ?_) rfl (fun _ _ _ => hQp _ _ _ _ _) ?_ ?_; rotate_left; (intro w' hS; (first | (go_simp; done) | (go_simp; with_reducible rfl))); simp only [Act.put, List.setIfInBounds_toArray])
                  have c_0 := h66.cell 3 rfl 0 rfl
                  have f_0 := h66.free 3 rfl 0
                  have c_1 := h66.cell 3 rfl 1 rfl
                  have f_1 := h66.free 3 rfl 1
                  have c_2 := h66.cell 3 rfl 2 rfl
                  have f_2 := h66.free 3 rfl 2
                  have c_3 := h66.cell 3 rfl 3 rfl
                  have f_3 := h66.free 3 rfl 3
                  refine wpT_effQ rfl (fun K Q' hK => ?_); go_simp
                  clear c_0 f_0 c_1 f_1 c_2 f_2 c_3 f_3
                  refine (((h66.set (i := 3) rfl 0 _).set (i := 3) rfl 1 _).set (i := 3) rfl 2 _).k_set 3 rfl (fun w67 h67 => ?_)
                  refine hK _ _ (h67.sat' hpQ.le [2] (sel_cons rfl rfl (sel_nil2 _ _))) ?_; clear hK K; try clear Q'
                  iterate 1 (refine wpT_quiet (v := ?_) rfl (fun _ _ _ => hQp _ _ _ _ _) ?_ ?_; rotate_left; (intro w' hS; (first | (go_simp; done) | (go_simp; with_reducible rfl))); simp only [Act.put, List.setIfInBounds_toArray])
                  refine wpT_nil (hQn _ _ ?_); clear hQn hQp QR
                  show Code.wp _ _ _ _ _
                  refine wp_seq ?_
                  clear h60 h65 h66
                  repeat (first | simp only [List.nil_append] at h67 | simp only [List.cons_append] at h67 | simp only [List.set_cons_zero] at h67 | simp only [List.set_cons_succ] at h67 | simp only [List.eraseIdx_zero] at h67 | simp only [List.tail_cons] at h67 | simp only [List.eraseIdx_cons_zero] at h67 | simp only [List.eraseIdx_cons_succ] at h67 | simp only [List.setIfInBounds_toArray] at h67)
                  refine wp_region_lit ?_
                  have c_3_0 := h67.cell 3 rfl 0 rfl
                  have c_3_1 := h67.cell 3 rfl 1 rfl
                  have c_3_2 := h67.cell 3 rfl 2 rfl
                  have c_3_3 := h67.cell 3 rfl 3 rfl
                  iterate 1 (refine wpList_plainQ rfl (fun K Q' hK => ?_); go_simp; refine hK _ _ ?_; clear hK K; try clear Q')
                  clear c_3_0 c_3_1 c_3_2 c_3_3
                  have c_0 := h67.cell 2 rfl 0 rfl
                  have f_0 := h67.free 2 rfl 0
                  have c_1 := h67.cell 2 rfl 1 rfl
                  have f_1 := h67.free 2 rfl 1
                  have c_2 := h67.cell 2 rfl 2 rfl
                  have f_2 := h67.free 2 rfl 2
                  have c_3 := h67.cell 2 rfl 3 rfl
                  have f_3 := h67.free 2 rfl 3
                  refine wpList_plainQ rfl (fun K Q' hK => ?_); go_simp
                  clear c_0 f_0 c_1 f_1 c_2 f_2 c_3 f_3
                  refine (((h67.set (i := 2) rfl 0 _).set (i := 2) rfl 1 _).set (i := 2) rfl 2 _).k_set 2 rfl (fun w68 h68 => ?_)
                  refine hK _ _ ?_; clear hK K; try clear Q'
                  refine wpList_nil ?_
                  show Code.wp _ _ _ _ _
                  clear h67
                  repeat (first | simp only [List.nil_append] at h68 | simp only [List.cons_append] at h68 | simp only [List.set_cons_zero] at h68 | simp only [List.set_cons_succ] at h68 | simp only [List.eraseIdx_zero] at h68 | simp only [List.tail_cons] at h68 | simp only [List.eraseIdx_cons_zero] at h68 | simp only [List.eraseIdx_cons_succ] at h68 | simp only [List.setIfInBounds_toArray] at h68)
                  refine wp_region_lit ?_
                  iterate 4 (refine wpList_plainQ rfl (fun K Q' hK => ?_); go_simp; refine hK _ _ ?_; clear hK K; try clear Q')
                  refine wpList_nil ?_
                  show Code.wp _ _ _ _ _
                  refine wp_region_lit ?_
                  iterate 3 (refine wpList_plainQ rfl (fun K Q' hK => ?_); go_simp; refine hK _ _ ?_; clear hK K; try clear Q')
                  refine wpList_nil ?_
                  -- stops at: end ('roundend',)
                  show _ ∧ _
                  go_roundw
                  case rel => exact ⟨j + 1, [.bool bv, .int .i64 pv, .int .i64 zv, .slice av nv cv], nn2, HX9, by omega, by simp, rfl, hnn2.out.symm, hle5.trans hpQ.le, by rw [htk, Hp.ofL_snoc]; exact hN2, h68.take 3⟩
                  case measure => simp [intOf]; omega
              · obtain rfl : j = nl := by omega
                rw [List.take_of_length_le (by rw [hnl.out]; omega)] at hnn hW5
                refine wp_seq ?_
                refine wp_seq ?_
                clear h59
                repeat (first | simp only [List.nil_append] at hs5 | simp only [List.cons_append] at hs5 | simp only [List.set_cons_zero] at hs5 | simp only [List.set_cons_succ] at hs5 | simp only [List.eraseIdx_zero] at hs5 | simp only [List.tail_cons] at hs5 | simp only [List.eraseIdx_cons_zero] at hs5 | simp only [List.eraseIdx_cons_succ] at hs5 | simp only [List.setIfInBounds_toArray] at hs5)
                refine wp_region_lit ?_
                iterate 5 (refine wpList_plainQ rfl (fun K Q' hK => ?_); go_simp; refine hK _ _ ?_; clear hK K; try clear Q')
                -- stops at: load (Go.Op.load 39 (Go.Operand.tmp 97)) slot 98
                have ce := cl6.out 5 _ (by omega) rfl _ (hs5.fits.le hs5.le)
                iterate 1 (refine wpList_plainQ rfl (fun K Q' hK => ?_); go_simp; refine hK _ _ ?_; clear hK K; try clear Q')
                clear ce
                iterate 2 (refine wpList_plainQ rfl (fun K Q' hK => ?_); go_simp; refine hK _ _ ?_; clear hK K; try clear Q')
                refine wpList_nil ?_
                show Code.wp _ _ _ _ _
                -- stops at: cond
                refine wp_cond_false (rfl) ?_
                as_aux_lemma =>
                obtain ⟨sn2, hsn2⟩ : ∃ s, Hid (IntKind.i64.wrap ((c3 + (Hp.ofC ll : Nat)) + (d3 + (Hp.ofD ll : Nat))) = s) := ⟨_, show _ = _ from rfl⟩
                have esn : IntKind.i64.wrap (sn + nn) = sn2 := by rw [← hsn2.out, hsn.out, wrap_wrap_add]; rw [hnn.out, Int.add_comm, wrap_wrap_add]; congr 1; omega
                refine wp_exit ?_
                show Code.wp _ _ _ _ _
                refine wp_seq ?_
                refine wp_region_lit ?_
                iterate 4 (refine wpList_plainQ rfl (fun K Q' hK => ?_); go_simp; refine hK _ _ ?_; clear hK K; try clear Q')
                refine wpList_nil ?_
                show Code.wp _ _ _ _ _
                refine wp_seq ?_
                refine wp_seq ?_
                refine wp_region_lit ?_
                iterate 1 (refine wpList_plainQ rfl (fun K Q' hK => ?_); go_simp; refine hK _ _ ?_; clear hK K; try clear Q')
                -- stops at: eff:call (Go.Op.call {'callee': (Go.Callee.value (Go.Operand.func 15)), 'args': [(Go.Operand.tmp 207)], 'argTypes': [25]}) slot 208
                refine wpList_plainQ rfl (fun K Q' hK => ?_); go_simp
                refine (steps_ok _ _ bM _ _ (hs5.pre_at (i := 0) rfl)).mono ?_
                rintro e wSt ⟨rfl, hpSt⟩
                rw [show IntKind.i64.wrap (c3 + (Hp.ofC ll : Nat) + (d3 + (Hp.ofD ll : Nat))) = sn2 from hsn2.out]
                have h69 := hs5.call_at (i := 0) rfl hpSt
                refine hK _ _ ?_; clear hK K; try clear Q'
                iterate 2 (refine wpList_plainQ rfl (fun K Q' hK => ?_); go_simp; refine hK _ _ ?_; clear hK K; try clear Q')
                refine wpList_nil ?_
                show Code.wp _ _ _ _ _
                -- stops at: cond
                refine wp_cond_false (rfl) ?_
                refine wp_skip ?_
                show Code.wp _ _ _ _ _
                refine wp_seq ?_
                repeat (first | simp only [List.nil_append] at h69 | simp only [List.cons_append] at h69 | simp only [List.set_cons_zero] at h69 | simp only [List.set_cons_succ] at h69 | simp only [List.eraseIdx_zero] at h69 | simp only [List.tail_cons] at h69 | simp only [List.eraseIdx_cons_zero] at h69 | simp only [List.eraseIdx_cons_succ] at h69 | simp only [List.setIfInBounds_toArray] at h69)
                refine wp_region_lit ?_
                have c_1_0 := h69.cell 1 rfl 0 rfl
                iterate 2 (refine wpList_plainQ rfl (fun K Q' hK => ?_); go_simp; refine hK _ _ ?_; clear hK K; try clear Q')
                clear c_1_0
                refine wpList_plainQ rfl (fun K Q' hK => ?_); go_simp
                refine h69.k_alloc (fun w70 h70 => ?_)
                refine hK _ _ ?_; clear hK K; try clear Q'
                -- stops at: eff:Builtin.append (Go.Op.call {'callee': (Go.Callee.builtin Go.Builtin.append), 'args': [(Go.Operand.tmp 211), (Go.Operand.tmp 213)], 'argTypes': [30, 30]}) slot 214
                refine wpList_plainQ rfl (fun K Q' hK => ?_)
                refine h70.op_append 0 rfl rfl infoHp rfl [Value.pointer r1] rfl rfl (h70.newsAt 3 rfl) (by simp [Value.oneCell']) (by omega) (by unfold maxLen; omega) (fun v0 wY0 hY0 oY0 hnY0 => ?_)
                refine hK _ _ ?_; clear hK K; try clear Q'
                iterate 1 (refine wpList_plainQ rfl (fun K Q' hK => ?_); go_simp; refine hK _ _ ?_; clear hK K; try clear Q')
                refine wpList_nil ?_
                show Code.wp _ _ _ _ _
                clear h69 h70
                repeat (first | simp only [List.nil_append] at hY0 | simp only [List.cons_append] at hY0 | simp only [List.set_cons_zero] at hY0 | simp only [List.set_cons_succ] at hY0 | simp only [List.eraseIdx_zero] at hY0 | simp only [List.tail_cons] at hY0 | simp only [List.eraseIdx_cons_zero] at hY0 | simp only [List.eraseIdx_cons_succ] at hY0 | simp only [List.setIfInBounds_toArray] at hY0)
                refine wp_region_lit ?_
                have c_2_0 := hY0.cell 2 rfl 0 rfl
                have c_2_1 := hY0.cell 2 rfl 1 rfl
                have c_2_2 := hY0.cell 2 rfl 2 rfl
                have c_2_3 := hY0.cell 2 rfl 3 rfl
                iterate 2 (refine wpList_plainQ rfl (fun K Q' hK => ?_); go_simp; refine hK _ _ ?_; clear hK K; try clear Q')
                clear c_2_0 c_2_1 c_2_2 c_2_3
                refine wpList_plainQ rfl (fun K Q' hK => ?_); go_simp
                refine hY0.k_alloc (fun w71 h71 => ?_)
                refine hK _ _ ?_; clear hK K; try clear Q'
                -- stops at: eff:Builtin.append (Go.Op.call {'callee': (Go.Callee.builtin Go.Builtin.append), 'args': [(Go.Operand.tmp 215), (Go.Operand.tmp 217)], 'argTypes': [38, 38]}) slot 218
                refine wpList_plainQ rfl (fun K Q' hK => ?_)
                refine h71.op_append 1 rfl rfl infoW rfl [.bool bj, .int .i64 pj, .int .i64 zj, .slice aj nj cj] rfl rfl (h71.newsAt 4 rfl) (by simp [Value.oneCell']) (by omega) (by unfold maxLen; omega) (fun v1 wY1 hY1 oY1 hnY1 => ?_)
                refine hK _ _ ?_; clear hK K; try clear Q'
                iterate 1 (refine wpList_plainQ rfl (fun K Q' hK => ?_); go_simp; refine hK _ _ ?_; clear hK K; try clear Q')
                refine wpList_nil ?_
                show Code.wp _ _ _ _ _
                clear h71
                repeat (first | simp only [List.nil_append] at hY1 | simp only [List.cons_append] at hY1 | simp only [List.set_cons_zero] at hY1 | simp only [List.set_cons_succ] at hY1 | simp only [List.eraseIdx_zero] at hY1 | simp only [List.tail_cons] at hY1 | simp only [List.eraseIdx_cons_zero] at hY1 | simp only [List.eraseIdx_cons_succ] at hY1 | simp only [List.setIfInBounds_toArray] at hY1)
                refine wp_region_lit ?_
                iterate 3 (refine wpList_plainQ rfl (fun K Q' hK => ?_); go_simp; refine hK _ _ ?_; clear hK K; try clear Q')
                refine wpList_nil ?_
                -- stops at: end ('roundend',)
                show _ ∧ _
                go_roundw
                case rel =>
                  show PlaysInv _ _ _ _ _ _ _ _ _ _
                  unfold PlaysInv
                  refine ⟨k + 1, ps ++ [⟨r1, [.bool bj, .int .i64 pj, .int .i64 zj, .slice aj nj cj], Hp.ofL ll⟩], _, c3 + (Hp.ofC ll : Nat), d3 + (Hp.ofD ll : Nat), sn2, by omega, ?_, by simp, rfl, hsn2.out.symm, hle.trans (hpP.le.trans hle5), (hheld.mono (hpP.le.trans hle5)).snoc (hN1.mono hle5) hW5 szN rfl, ?_⟩
                  · show (ps ++ _).length = _
                    have := hpl.out
                    simp; omega
                  · rw [List.length_append, List.map_append, List.flatMap_append]
                    exact hY1.take 1
                case measure => simp [intOf]; omega
        · have d1 : decide ((120 : Int) < (nab : Int)) = true := decide_eq_true (by omega)
          refine wp_cond_true (congrArg Value.bool d1) ?_
          refine wp_seq ?_
          clear h5 h6
          repeat (first | simp only [List.nil_append] at h7 | simp only [List.cons_append] at h7 | simp only [List.set_cons_zero] at h7 | simp only [List.set_cons_succ] at h7 | simp only [List.eraseIdx_zero] at h7 | simp only [List.tail_cons] at h7 | simp only [List.eraseIdx_cons_zero] at h7 | simp only [List.eraseIdx_cons_succ] at h7 | simp only [List.setIfInBounds_toArray] at h7)
          refine wp_region_lit ?_
          iterate 1 (refine wpList_plainQ rfl (fun K Q' hK => ?_); go_simp; refine hK _ _ ?_; clear hK K; try clear Q')
          refine wpList_nil ?_
          show Code.wp _ _ _ _ _
          -- stops at: ret
          refine wp_ret ?_
          go_ret
          exact ⟨rfl, h7.post.keep⟩
      · obtain rfl : k = ls.length := by omega
        as_aux_lemma =>
        have hp31 : ps.length ≤ 31 := by have := hpl.out; omega
        refine wp_seq ?_
        refine wp_seq ?_
        clear h4
        repeat (first | simp only [List.nil_append] at hs1 | simp only [List.cons_append] at hs1 | simp only [List.set_cons_zero] at hs1 | simp only [List.set_cons_succ] at hs1 | simp only [List.eraseIdx_zero] at hs1 | simp only [List.tail_cons] at hs1 | simp only [List.eraseIdx_cons_zero] at hs1 | simp only [List.eraseIdx_cons_succ] at hs1 | simp only [List.setIfInBounds_toArray] at hs1)
        refine wp_region_lit ?_
        iterate 4 (refine wpList_plainQ rfl (fun K Q' hK => ?_); go_simp; refine hK _ _ ?_; clear hK K; try clear Q')
        refine wpList_nil ?_
        show Code.wp _ _ _ _ _
        -- stops at: cond
        refine wp_cond_false (rfl) ?_
        refine wp_exit ?_
        show Code.wp _ _ _ _ _
        refine wp_seq ?_
        refine wp_seq ?_
        refine wp_region_lit ?_
        iterate 1 (refine wpList_plainQ rfl (fun K Q' hK => ?_); go_simp; refine hK _ _ ?_; clear hK K; try clear Q')
        refine wpList_nil ?_
        show Code.wp _ _ _ _ _
        refine wp_block ?_
        -- stops at: loop
        go_loopw [26] (fun v26 wr => PlaysInv2 w H H3 bM ps (.slice (some ⟨g7, 0, none⟩) ps.length c7) (.slice (some ⟨g8, 0, none⟩) ps.length c8) v26 wr) (fun v26 _ => ps.length - (intOf v26).toNat)
        case atStart =>
          show PlaysInv2 _ _ _ _ _ _ _ _ _
          unfold PlaysInv2
          exact ⟨0, H3, c3, d3, by omega, rfl, GH.le_refl _, hs1⟩
        case round =>
          obtain ⟨j, H8, c8', d8, hj, rfl, hle8, hs8⟩ := hrel
          by_cases hlt : j < ps.length
          · obtain ⟨⟨qj, uj, tj⟩, hpj⟩ : ∃ p, ps[j]? = some p := ⟨ps[j], by simp [hlt]⟩
            obtain ⟨hqj, hwj, hzj, _⟩ := hheld _ (List.mem_of_getElem? hpj)
            simp only at hqj hwj hzj
            obtain ⟨bj, pj, zj, aj, nj, cj, rfl⟩ := hwj.form
            have gj : (ps.map (fun a => Value.pointer a.p))[j]? = some (.pointer qj) := by simp [hpj]
            have fj0 := (duo_get hul hpj (i := 0) (by omega)).trans (rfl : _ = some _)
            rw [Nat.add_zero] at fj0
            have fj1 := (duo_get hul hpj (i := 1) (by omega)).trans (rfl : _ = some _)
            have fj2 := (duo_get hul hpj (i := 2) (by omega)).trans (rfl : _ = some _)
            have fj3 := (duo_get hul hpj (i := 3) (by omega)).trans (rfl : _ = some _)
            obtain ⟨nj, hnj⟩ : ∃ n, Hid (Hp.size tj = n) := ⟨_, show _ = _ from rfl⟩
            have hiso : Hid ((Hp.min? tj).isSome = decide (0 < nj)) := by show _ = _; rw [Hp.isSome_iff hqj.ok, hnj.out]
            obtain ⟨mx, hmx⟩ : ∃ x, Hid ((Hp.min? tj).getD (0, 0) = x) := ⟨_, show _ = _ from rfl⟩
            obtain ⟨mc, hmc⟩ : ∃ n, Hid (Hp.minC tj = n) := ⟨_, show _ = _ from rfl⟩
            have hmcl : mc ≤ 150 := by have := Hp.minC_le tj; have := hmc.out; omega
            obtain ⟨tx, htx⟩ : ∃ t, Hid (Hp.text tj = t) := ⟨_, show _ = _ from rfl⟩
            obtain ⟨s1, hs1'⟩ : ∃ s, Hid (IntKind.i64.wrap (c8' + d8) = s) := ⟨_, show _ = _ from rfl⟩
            have ew : Hid (IntKind.i64.wrap (IntKind.i64.wrap (c8' + (mc : Int) + d8) - s1) = (mc : Int)) := by show _ = _; rw [← hs1'.out]; simp only [IntKind.wrap_i64]; omega
            have e5 : IntKind.i64.wrap ((j : Int) + 1) = (j : Int) + 1 := IntWalk.i64_in _ (by omega)
            refine wp_seq ?_
            refine wp_seq ?_
            repeat (first | simp only [List.nil_append] at hs8 | simp only [List.cons_append] at hs8 | simp only [List.set_cons_zero] at hs8 | simp only [List.set_cons_succ] at hs8 | simp only [List.eraseIdx_zero] at hs8 | simp only [List.tail_cons] at hs8 | simp only [List.eraseIdx_cons_zero] at hs8 | simp only [List.eraseIdx_cons_succ] at hs8 | simp only [List.setIfInBounds_toArray] at hs8)
            refine wp_region_lit ?_
            iterate 4 (refine wpList_plainQ rfl (fun K Q' hK => ?_); go_simp; refine hK _ _ ?_; clear hK K; try clear Q')
            refine wpList_nil ?_
            show Code.wp _ _ _ _ _
            -- stops at: cond
            refine wp_cond_true (rfl) ?_
            refine wp_skip ?_
            show Code.wp _ _ _ _ _
            refine wp_seq ?_
            refine wp_block ?_
            refine wp_seq ?_
            refine wp_region_lit ?_
            iterate 1 (refine wpList_plainQ rfl (fun K Q' hK => ?_); go_simp; refine hK _ _ ?_; clear hK K; try clear Q')
            -- stops at: eff:call (Go.Op.call {'callee': (Go.Callee.value (Go.Operand.func 15)), 'args': [(Go.Operand.tmp 225)], 'argTypes': [25]}) slot 226
            refine wpList_plainQ rfl (fun K Q' hK => ?_); go_simp
            refine (steps_ok _ _ bM _ _ (hs8.pre_at (i := 0) rfl)).mono ?_
            rintro e wSt ⟨rfl, hpSt⟩
            rw [hs1'.out]
            have h72 := hs8.call_at (i := 0) rfl hpSt
            refine hK _ _ ?_; clear hK K; try clear Q'
            iterate 1 (refine wpList_plainQ rfl (fun K Q' hK => ?_); go_simp; refine hK _ _ ?_; clear hK K; try clear Q')
            refine wpList_nil ?_
            show Code.wp _ _ _ _ _
            refine wp_seq ?_
            repeat (first | simp only [List.nil_append] at h72 | simp only [List.cons_append] at h72 | simp only [List.set_cons_zero] at h72 | simp only [List.set_cons_succ] at h72 | simp only [List.eraseIdx_zero] at h72 | simp only [List.tail_cons] at h72 | simp only [List.eraseIdx_cons_zero] at h72 | simp only [List.eraseIdx_cons_succ] at h72 | simp only [List.setIfInBounds_toArray] at h72)
            refine wp_region_lit ?_
            iterate 3 (refine wpList_plainQ rfl (fun K Q' hK => ?_); go_simp; refine hK _ _ ?_; clear hK K; try clear Q')
            -- stops at: load (Go.Op.load 29 (Go.Operand.tmp 230)) slot 231
            have ce := h72.rowcell 0 rfl j gj
            iterate 1 (refine wpList_plainQ rfl (fun K Q' hK => ?_); go_simp; refine hK _ _ ?_; clear hK K; try clear Q')
            clear ce
            iterate 1 (refine wpList_plainQ rfl (fun K Q' hK => ?_); go_simp; refine hK _ _ ?_; clear hK K; try clear Q')
            -- stops at: eff:call (Go.Op.call {'callee': (Go.Callee.value (Go.Operand.func 16)), 'args': [(Go.Operand.tmp 231), (Go.Operand.tmp 232)], 'argTypes': [29, 25]}) slot 233
            refine wpList_plainQ rfl (fun K Q' hK => ?_); go_simp
            refine (hmin_ok (m := some bM) (h72.pre_at (i := 0) rfl) (by omega) (hqj.mono hle8)).mono ?_
            rintro e wMi ⟨HM, rfl, hpMi⟩
            rw [hmc.out] at hpMi
            rw [hmx.out, hiso.out]
            have h73 := h72.call_at (i := 0) rfl hpMi
            refine hK _ _ ?_; clear hK K; try clear Q'
            iterate 3 (refine wpList_plainQ rfl (fun K Q' hK => ?_); go_simp; refine hK _ _ ?_; clear hK K; try clear Q')
            refine wpList_plainQ rfl (fun K Q' hK => ?_); go_simp
            refine h73.k_alloc (fun w74 h74 => ?_)
            refine hK _ _ ?_; clear hK K; try clear Q'
            have c_0 := h74.cell 1 rfl 0 rfl
            have f_0 := h74.free 1 rfl 0
            have c_1 := h74.cell 1 rfl 1 rfl
            have f_1 := h74.free 1 rfl 1
            refine wpList_plainQ rfl (fun K Q' hK => ?_); go_simp
            clear c_0 f_0 c_1 f_1
            refine (h74.set (i := 1) rfl 0 _).k_set 1 rfl (fun w75 h75 => ?_)
            refine hK _ _ ?_; clear hK K; try clear Q'
            iterate 1 (refine wpList_plainQ rfl (fun K Q' hK => ?_); go_simp; refine hK _ _ ?_; clear hK K; try clear Q')
            refine wpList_nil ?_
            show Code.wp _ _ _ _ _
            refine wp_seq ?_
            clear h72 h73 h74
            repeat (first | simp only [List.nil_append] at h75 | simp only [List.cons_append] at h75 | simp only [List.set_cons_zero] at h75 | simp only [List.set_cons_succ] at h75 | simp only [List.eraseIdx_zero] at h75 | simp only [List.tail_cons] at h75 | simp only [List.eraseIdx_cons_zero] at h75 | simp only [List.eraseIdx_cons_succ] at h75 | simp only [List.setIfInBounds_toArray] at h75)
            refine wp_region_lit ?_
            iterate 3 (refine wpList_plainQ rfl (fun K Q' hK => ?_); go_simp; refine hK _ _ ?_; clear hK K; try clear Q')
            -- stops at: load (Go.Op.load 37 (Go.Operand.tmp 239)) slot 240
            have ce0 := h75.rowcell 1 rfl (j * 4) fj0
            have ce1 := h75.rowcell 1 rfl (j * 4 + 1) fj1
            have ce2 := h75.rowcell 1 rfl (j * 4 + 2) fj2
            have ce3 := h75.rowcell 1 rfl (j * 4 + 3) fj3
            iterate 1 (refine wpList_plainQ rfl (fun K Q' hK => ?_); go_simp; refine hK _ _ ?_; clear hK K; try clear Q')
            clear ce0 ce1 ce2 ce3
            -- stops at: eff:call (Go.Op.call {'callee': (Go.Callee.value (Go.Operand.func 17)), 'args': [(Go.Operand.tmp 240)], 'argTypes': [37]}) slot 241
            refine wpList_plainQ rfl (fun K Q' hK => ?_); go_simp
            refine (wmin_ok h75.fits (by omega) ((hwj.mono hle8).mono hpMi.le)).mono ?_
            rintro e wN ⟨rfl, hkN⟩
            rw [hmx.out, hmc.out]
            have h76 := h75.callk hkN
            refine hK _ _ ?_; clear hK K; try clear Q'
            iterate 3 (refine wpList_plainQ rfl (fun K Q' hK => ?_); go_simp; refine hK _ _ ?_; clear hK K; try clear Q')
            refine wpList_plainQ rfl (fun K Q' hK => ?_); go_simp
            refine h76.k_alloc (fun w77 h77 => ?_)
            refine hK _ _ ?_; clear hK K; try clear Q'
            have c_0 := h77.cell 2 rfl 0 rfl
            have f_0 := h77.free 2 rfl 0
            have c_1 := h77.cell 2 rfl 1 rfl
            have f_1 := h77.free 2 rfl 1
            refine wpList_plainQ rfl (fun K Q' hK => ?_); go_simp
            clear c_0 f_0 c_1 f_1
            refine (h77.set (i := 2) rfl 0 _).k_set 2 rfl (fun w78 h78 => ?_)
            refine hK _ _ ?_; clear hK K; try clear Q'
            iterate 1 (refine wpList_plainQ rfl (fun K Q' hK => ?_); go_simp; refine hK _ _ ?_; clear hK K; try clear Q')
            refine wpList_nil ?_
            show Code.wp _ _ _ _ _
            refine wp_seq ?_
            clear h75 h76 h77
            repeat (first | simp only [List.nil_append] at h78 | simp only [List.cons_append] at h78 | simp only [List.set_cons_zero] at h78 | simp only [List.set_cons_succ] at h78 | simp only [List.eraseIdx_zero] at h78 | simp only [List.tail_cons] at h78 | simp only [List.eraseIdx_cons_zero] at h78 | simp only [List.eraseIdx_cons_succ] at h78 | simp only [List.setIfInBounds_toArray] at h78)
            refine wp_region_lit ?_
            iterate 3 (refine wpList_plainQ rfl (fun K Q' hK => ?_); go_simp; refine hK _ _ ?_; clear hK K; try clear Q')
            -- stops at: load (Go.Op.load 37 (Go.Operand.tmp 246)) slot 247
            have ce0 := h78.rowcell 1 rfl (j * 4) fj0
            have ce1 := h78.rowcell 1 rfl (j * 4 + 1) fj1
            have ce2 := h78.rowcell 1 rfl (j * 4 + 2) fj2
            have ce3 := h78.rowcell 1 rfl (j * 4 + 3) fj3
            iterate 1 (refine wpList_plainQ rfl (fun K Q' hK => ?_); go_simp; refine hK _ _ ?_; clear hK K; try clear Q')
            clear ce0 ce1 ce2 ce3
            -- stops at: eff:call (Go.Op.call {'callee': (Go.Callee.value (Go.Operand.func 7)), 'args': [(Go.Operand.tmp 247)], 'argTypes': [37]}) slot 248
            refine wpList_plainQ rfl (fun K Q' hK => ?_); go_simp
            refine (wsize_ok h78.fits (by omega) ((hwj.mono hle8).mono hpMi.le)).mono ?_
            rintro e wZ ⟨rfl, hkZ⟩
            rw [hnj.out]
            have h79 := h78.callk hkZ
            refine hK _ _ ?_; clear hK K; try clear Q'
            iterate 1 (refine wpList_plainQ rfl (fun K Q' hK => ?_); go_simp; refine hK _ _ ?_; clear hK K; try clear Q')
            refine wpList_nil ?_
            show Code.wp _ _ _ _ _
            refine wp_seq ?_
            clear h78
            repeat (first | simp only [List.nil_append] at h79 | simp only [List.cons_append] at h79 | simp only [List.set_cons_zero] at h79 | simp only [List.set_cons_succ] at h79 | simp only [List.eraseIdx_zero] at h79 | simp only [List.tail_cons] at h79 | simp only [List.eraseIdx_cons_zero] at h79 | simp only [List.eraseIdx_cons_succ] at h79 | simp only [List.setIfInBounds_toArray] at h79)
            refine h79.regionR [1, 2] [0, 1] [(0, true), (1, true), (2, true), (3, true), (5, true), (6, true), (7, true), (8, true), (4, false), (9, false), (10, true), (11, true), (12, true), (13, true), (14, true), (15, true), (17, true), (16, false), (18, true), (19, true), (20, true), (21, true), (22, true), (23, true), (24, true), (25, true), (26, true), (27, true), (28, true), (29, true), (30, true), (31, true), (32, true), (33, true), (35, true), (34, false), (36, true), (37, true)] (by kernel_rfl) (by kernel_rfl) (fun w80 h80 => ?_)
            refine wpOrd_hide (fun _ _ d _ _ h => by cases d <;> exact h) (fun QR hQn hQp => ?_)
            simp only [ordOps, List.map_cons, List.map_nil, List.getD_cons_zero, List.getD_cons_succ]
            iterate 3 (refine wpOrd_quiet (v := ?_) rfl (fun _ _ _ => hQp _ _ _ _ _) ?_ ?_; rotate_left; (intro w' hS; (first | (go_simp; done) | (go_simp; with_reducible rfl))); simp only [Act.put, List.setIfInBounds_toArray, List.set_cons_zero, List.set_cons_succ])
            -- stops at: load (Go.Op.load 29 (Go.Operand.tmp 251)) slot 252
            iterate 1 (refine wpOrd_quiet (v := ?_) rfl (fun _ _ _ => hQp _ _ _ _ _) ?_ ?_; rotate_left; (intro w' hS; have ce := hS.rowcell 0 rfl j gj; (first | (go_simp; done) | (go_simp; with_reducible rfl))); simp only [Act.put, List.setIfInBounds_toArray, List.set_cons_zero, List.set_cons_succ])
            iterate 3 (refine wpOrd_quiet (v := ?_) rfl (fun _ _ _ => hQp _ _ _ _ _) ?_ ?_; rotate_left; (intro w' hS; (first | (go_simp; done) | (go_simp; with_reducible rfl))); simp only [Act.put, List.setIfInBounds_toArray, List.set_cons_zero, List.set_cons_succ])
            -- stops at: load (Go.Op.load 37 (Go.Operand.tmp 256)) slot 257
            iterate 1 (refine wpOrd_quiet (v := ?_) rfl (fun _ _ _ => hQp _ _ _ _ _) ?_ ?_; rotate_left; (intro w' hS; have ce0 := hS.rowcell 1 rfl (j * 4) fj0; have ce1 := hS.rowcell 1 rfl (j * 4 + 1) fj1; have ce2 := hS.rowcell 1 rfl (j * 4 + 2) fj2; have ce3 := hS.rowcell 1 rfl (j * 4 + 3) fj3; (first | (go_simp; done) | (go_simp; with_reducible rfl))); simp only [Act.put, List.setIfInBounds_toArray, List.set_cons_zero, List.set_cons_succ])
            -- stops at: eff:call (Go.Op.call {'callee': (Go.Callee.value (Go.Operand.func 18)), 'args': [(Go.Operand.tmp 252)], 'argTypes': [29]}) slot 253
            refine wpOrd_effQ rfl (fun K Q' hK => ?_); go_simp
            refine (hshow_ok (htab.mono h80.le) h80.fits (by omega) (hqj.mono (hle8.trans hpMi.le))).mono ?_
            rintro e wS1 ⟨HS1, rfl, hpS1⟩
            rw [htx.out]
            have h81 := h80.call0 hpS1
            refine hK _ _ (h81.satR' hpS1.le [1, 2] [0, 1] (sel_cons rfl rfl (sel_cons rfl rfl (sel_nil2 _ _))) (by kernel_rfl)) ?_; clear hK K; try clear Q'
            -- stops at: eff:call (Go.Op.call {'callee': (Go.Callee.value (Go.Operand.func 19)), 'args': [(Go.Operand.tmp 257)], 'argTypes': [37]}) slot 258
            refine wpOrd_effQ rfl (fun K Q' hK => ?_); go_simp
            refine (wshow_ok h81.fits (by omega) hqj.fit (hwj.mono (hle8.trans (hpMi.le.trans hpS1.le)))).mono ?_
            rintro e wS2 ⟨rfl, hkS2⟩
            rw [htx.out]
            have h82 := h81.callk hkS2
            refine hK _ _ (h82.satR' hpS1.le [1, 2] [0, 1] (sel_cons rfl rfl (sel_cons rfl rfl (sel_nil2 _ _))) (by kernel_rfl)) ?_; clear hK K; try clear Q'
            iterate 2 (refine wpOrd_quiet (v := ?_) rfl (fun _ _ _ => hQp _ _ _ _ _) ?_ ?_; rotate_left; (intro w' hS; (first | (go_simp; done) | (go_simp; with_reducible rfl))); simp only [Act.put, List.setIfInBounds_toArray, List.set_cons_zero, List.set_cons_succ])
            iterate 3 (refine wpOrd_quiet (v := ?_) (by kernel_rfl) (fun _ _ _ => hQp _ _ _ _ _) ?_ ?_; rotate_left; (intro w' hS; (first | (go_simp; done) | (go_simp; with_reducible rfl))); simp only [Act.put, List.setIfInBounds_toArray, List.set_cons_zero, List.set_cons_succ])
            -- stops at: load (Go.Op.load 29 (Go.Operand.tmp 263)) slot 264
            iterate 1 (refine wpOrd_quiet (v := ?_) (by kernel_rfl) (fun _ _ _ => hQp _ _ _ _ _) ?_ ?_; rotate_left; (intro w' hS; have ce := hS.rowcell 0 rfl j gj; (first | (go_simp; done) | (go_simp; with_reducible rfl))); simp only [Act.put, List.setIfInBounds_toArray, List.set_cons_zero, List.set_cons_succ])
            iterate 1 (refine wpOrd_quiet (v := ?_) (by kernel_rfl) (fun _ _ _ => hQp _ _ _ _ _) ?_ ?_; rotate_left; (intro w' hS; (first | (go_simp; done) | (go_simp; with_reducible rfl))); simp only [Act.put, List.setIfInBounds_toArray, List.set_cons_zero, List.set_cons_succ])
            -- stops at: eff:call (Go.Op.call {'callee': (Go.Callee.value (Go.Operand.func 20)), 'args': [(Go.Operand.tmp 264)], 'argTypes': [29]}) slot 265
            refine wpOrd_effQ (by kernel_rfl) (fun K Q' hK => ?_); go_simp
            refine (hsize_ok h82.fits (by omega) (hqj.mono (hle8.trans (hpMi.le.trans hpS1.le)))).mono ?_
            rintro e wZ2 ⟨HZ2, rfl, hpZ2⟩
            rw [hnj.out]
            have h83 := h82.call0 hpZ2
            refine hK _ _ (h83.satR' (GH.le.trans hpS1.le hpZ2.le) [1, 2] [0, 1] (sel_cons rfl rfl (sel_cons rfl rfl (sel_nil2 _ _))) (by kernel_rfl)) ?_; clear hK K; try clear Q'
            iterate 1 (refine wpOrd_quiet (v := ?_) (by kernel_rfl) (fun _ _ _ => hQp _ _ _ _ _) ?_ ?_; rotate_left; (intro w' hS; (first | (go_simp; done) | (go_simp; with_reducible rfl))); simp only [Act.put, List.setIfInBounds_toArray, List.set_cons_zero, List.set_cons_succ])
            iterate 2 (refine wpOrd_quiet (v := ?_) rfl (fun _ _ _ => hQp _ _ _ _ _) ?_ ?_; rotate_left; (intro w' hS; (first | (go_simp; done) | (go_simp; with_reducible rfl))); simp only [Act.put, List.setIfInBounds_toArray, List.set_cons_zero, List.set_cons_succ])
            iterate 4 (refine wpOrd_quiet (v := ?_) (by kernel_rfl) (fun _ _ _ => hQp _ _ _ _ _) ?_ ?_; rotate_left; (intro w' hS; (first | (go_simp; done) | (go_simp; with_reducible rfl))); simp only [Act.put, List.setIfInBounds_toArray, List.set_cons_zero, List.set_cons_succ])
            iterate 2 (refine wpOrd_quiet (v := ?_) rfl (fun _ _ _ => hQp _ _ _ _ _) ?_ ?_; rotate_left; (intro w' hS; (first | (go_simp; done) | (go_simp; with_reducible rfl))); simp only [Act.put, List.setIfInBounds_toArray, List.set_cons_zero, List.set_cons_succ])
            iterate 3 (refine wpOrd_quiet (v := ?_) (by kernel_rfl) (fun _ _ _ => hQp _ _ _ _ _) ?_ ?_; rotate_left; (intro w' hS; have c_1_0 := hS.cell 0 rfl 0 rfl; have c_1_1 := hS.cell 0 rfl 1 rfl; have c_2_0 := hS.cell 1 rfl 0 rfl; have c_2_1 := hS.cell 1 rfl 1 rfl; (first | (go_simp; done) | (go_simp; with_reducible rfl))); simp only [Act.put, List.setIfInBounds_toArray, List.set_cons_zero, List.set_cons_succ])
            iterate 2 (refine wpOrd_quiet (v := ?_) rfl (fun _ _ _ => hQp _ _ _ _ _) ?_ ?_; rotate_left; (intro w' hS; (first | (go_simp; done) | (go_simp; with_reducible rfl))); simp only [Act.put, List.setIfInBounds_toArray, List.set_cons_zero, List.set_cons_succ])
            iterate 3 (refine wpOrd_quiet (v := ?_) (by kernel_rfl) (fun _ _ _ => hQp _ _ _ _ _) ?_ ?_; rotate_left; (intro w' hS; (first | (go_simp; done) | (go_simp; with_reducible rfl))); simp only [Act.put, List.setIfInBounds_toArray, List.set_cons_zero, List.set_cons_succ])
            -- stops at: eff:call (Go.Op.call {'callee': (Go.Callee.value (Go.Operand.func 21)), 'args': [(Go.Operand.tmp 281), (Go.Operand.tmp 282)], 'argTypes': [25, 3]}) slot 283
            refine wpOrd_effQ (by kernel_rfl) (fun K Q' hK => ?_); go_simp
            refine (since_ok _ _ bM _ _ _ (h83.pre_at (i := 0) rfl)).mono ?_
            rintro e wSi ⟨rfl, hpSi⟩
            rw [ew.out]
            have h84 := h83.call_at (i := 0) rfl hpSi
            refine hK _ _ (h84.satR' (GH.le.trans (GH.le.trans hpS1.le hpZ2.le) hpSi.le) [1, 2] [0, 1] (sel_cons rfl rfl (sel_cons rfl rfl (sel_nil2 _ _))) (by kernel_rfl)) ?_; clear hK K; try clear Q'
            iterate 1 (refine wpOrd_quiet (v := ?_) (by kernel_rfl) (fun _ _ _ => hQp _ _ _ _ _) ?_ ?_; rotate_left; (intro w' hS; (first | (go_simp; done) | (go_simp; with_reducible rfl))); simp only [Act.put, List.setIfInBounds_toArray, List.set_cons_zero, List.set_cons_succ])
            iterate 1 (refine wpOrd_quiet (v := ?_) rfl (fun _ _ _ => hQp _ _ _ _ _) ?_ ?_; rotate_left; (intro w' hS; (first | (go_simp; done) | (go_simp; with_reducible rfl))); simp only [Act.put, List.setIfInBounds_toArray, List.set_cons_zero, List.set_cons_succ])
            refine wpOrd_nil (hQn _ _ ?_); clear hQn hQp QR
            show Code.wp _ _ _ _ _
            -- stops at: cond
            refine wp_cond_false (rfl) ?_
            refine wp_skip ?_
            show Code.wp _ _ _ _ _
            clear h80 h81 h82 h83
            repeat (first | simp only [List.nil_append] at h84 | simp only [List.cons_append] at h84 | simp only [List.set_cons_zero] at h84 | simp only [List.set_cons_succ] at h84 | simp only [List.eraseIdx_zero] at h84 | simp only [List.tail_cons] at h84 | simp only [List.eraseIdx_cons_zero] at h84 | simp only [List.eraseIdx_cons_succ] at h84 | simp only [List.setIfInBounds_toArray] at h84)
            refine wp_region_lit ?_
            iterate 3 (refine wpList_plainQ rfl (fun K Q' hK => ?_); go_simp; refine hK _ _ ?_; clear hK K; try clear Q')
            refine wpList_nil ?_
            -- stops at: end ('roundend',)
            show _ ∧ _
            go_roundw
            case rel =>
              show PlaysInv2 _ _ _ _ _ _ _ _ _
              unfold PlaysInv2
              exact ⟨j + 1, HZ2, _, d8, by omega, by simp, hle8.trans (hpMi.le.trans (hpS1.le.trans hpZ2.le)), h84.take 1⟩
            case measure => simp [intOf]; omega
          · obtain rfl : j = ps.length := by omega
            refine wp_seq ?_
            refine wp_seq ?_
            repeat (first | simp only [List.nil_append] at hs8 | simp only [List.cons_append] at hs8 | simp only [List.set_cons_zero] at hs8 | simp only [List.set_cons_succ] at hs8 | simp only [List.eraseIdx_zero] at hs8 | simp only [List.tail_cons] at hs8 | simp only [List.eraseIdx_cons_zero] at hs8 | simp only [List.eraseIdx_cons_succ] at hs8 | simp only [List.setIfInBounds_toArray] at hs8)
            refine wp_region_lit ?_
            iterate 4 (refine wpList_plainQ rfl (fun K Q' hK => ?_); go_simp; refine hK _ _ ?_; clear hK K; try clear Q')
            refine wpList_nil ?_
            show Code.wp _ _ _ _ _
            -- stops at: cond
            refine wp_cond_false (rfl) ?_
            refine wp_exit ?_
            show Code.wp _ _ _ _ _
            refine wp_seq ?_
            refine wp_region_lit ?_
            iterate 1 (refine wpList_plainQ rfl (fun K Q' hK => ?_); go_simp; refine hK _ _ ?_; clear hK K; try clear Q')
            refine wpList_nil ?_
            show Code.wp _ _ _ _ _
            -- stops at: ret
            refine wp_ret ?_
            go_ret
            exact ⟨rfl, hs8.post.keep⟩
end Go.Proofs.YteigmfkkeofcaaaGreatDoor
