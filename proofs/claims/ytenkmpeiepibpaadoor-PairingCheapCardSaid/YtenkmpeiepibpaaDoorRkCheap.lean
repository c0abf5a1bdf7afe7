/-
PairingCheap: its walk (pairing heaps' own law).
-/
import Derived.Test.YtenkmpeiepibpaaDoorQbPlain
namespace Go.Proofs.YtenkmpeiepibpaaDoor
open Go Go.RowKit
set_option linter.unusedVariables false

theorem PT.pairN_le (t : PT) : PT.pairN t ≤ PT.len t := by
  induction t using PT.pair.induct with
  | case1 => exact Nat.le_refl _
  | case2 => simp [PT.pairN]
  | case3 x k y j n ih =>
    unfold PT.pairN
    have h : PT.meldN (PT.meld (.node x k .nil) (.node y j .nil)) (PT.pair n) ≤ 1 := by
      generalize PT.meld (.node x k .nil) (.node y j .nil) = s
      generalize PT.pair n = t
      cases s <;> cases t <;> simp [PT.meldN]
    simp only [PT.len]
    omega
theorem PT.popN_le (t : PT) (ht : PT.one t) : PT.popN t ≤ PT.size (PT.pop t) := by
  rcases PT.one_cases ht with rfl | ⟨x, k, rfl⟩
  · exact Nat.le_refl _
  · show PT.pairN k ≤ PT.size (PT.pair k)
    rw [PT.pair_size]
    exact Nat.le_trans (PT.pairN_le k) (len_le_size k)
theorem PT.meldN_eq (s t : PT) : PT.meldN s t = if PT.size s = 0 ∨ PT.size t = 0 then 0 else 1 := by
  cases s <;> cases t <;> simp [PT.meldN, PT.size, PT.els]


set_option maxRecDepth 100000 in
set_option maxHeartbeats 16000000 in
theorem cheap_walk (H : GH) (w : World) (v : Value) (a : List El) (u : Value) (b : List El) (x : El) (hf : Fits w H) (htab : TabH H) (ha : ElRep H v a) (fa : ∀ x ∈ a, El.fits x) (hb : ElRep H u b) (fb : ∀ x ∈ b, El.fits x) (fx : El.fits x) :
    Calls Tryd.prog 5 #[v, u, elV x] w fun e w' => e = .returned (.bool true) ∧ Keep none w w' := by
  have hpre : Pre w H none 0 0 := Pre.none hf 0 0
  obtain ⟨la, hla⟩ : ∃ n, Hid (a.length = n) := ⟨_, show _ = _ from rfl⟩
  obtain ⟨lb, hlb⟩ : ∃ n, Hid (b.length = n) := ⟨_, show _ = _ from rfl⟩
  obtain ⟨aa, ca, hv, _, _⟩ := ha.nil_or
  rw [hla.out] at hv
  subst hv
  obtain ⟨ab, cb, hv, _, _⟩ := hb.nil_or
  rw [hlb.out] at hv
  subst hv
  by_cases hl : la ≤ 100
  · have hl1 : decide ((100 : Int) < (la : Int)) = false := by simp; omega
    have hla1 : a.length ≤ 100 := by have := hla.out; omega
    by_cases hm : lb ≤ 100
    · have hl2 : decide ((100 : Int) < (lb : Int)) = false := by simp; omega
      have hlb1 : b.length ≤ 100 := by have := hlb.out; omega
      obtain ⟨sz, hsz⟩ : ∃ n, Hid (la + lb = n) := ⟨_, show _ = _ from rfl⟩
      have hszl : sz ≤ 200 := by have := hsz.out; omega
      have wr1 : IntKind.i64.wrap 1 = 1 := IntWalk.i64_in _ (by omega)
      have wr2 : IntKind.i64.wrap 2 = 2 := IntWalk.i64_in _ (by omega)
      have wr3 : IntKind.i64.wrap 3 = 3 := IntWalk.i64_in _ (by omega)
      have wr0 : IntKind.i64.wrap 0 = 0 := IntWalk.i64_in _ (by omega)
      have e1 : IntKind.i64.wrap ((la : Int) + (lb : Int)) = (sz : Int) := by rw [← hsz.out]; exact IntWalk.i64_in _ (by omega)
      by_cases h0 : la = 0
      · have z1 : ((la : Int) == 0) = true := by simp [h0]
        have Hz : Hid (la = 0 ∨ lb = 0) := .inl h0
        by_cases hsz0 : sz = 0
        · have Hs : Hid (1 = 0 ∨ sz = 0) := .inr hsz0
          have hmn : min (sz : Int) 1 = 0 := by omega
          clear h0 hsz0
          go_enter Tryd.func5, Tryd.ntmps5
          have h0 := St.start hpre
          refine wp_seq ?_
          try simp only [List.nil_append] at h0
          try simp only [List.cons_append] at h0
          try simp only [List.eraseIdx_zero] at h0
          try simp only [List.tail_cons] at h0
          try simp only [List.eraseIdx_cons_succ] at h0
          try simp only [List.eraseIdx_cons_zero] at h0
          try simp only [List.set_cons_succ] at h0
          try simp only [List.set_cons_zero] at h0
          try simp only [List.set_cons_succ] at h0
          try simp only [List.set_cons_zero] at h0
          try simp only [List.setIfInBounds_toArray] at h0
          try simp only [List.set_cons_succ] at h0
          try simp only [List.set_cons_zero] at h0
          try simp only [List.set_cons_succ] at h0
          try simp only [List.set_cons_zero] at h0
          refine wp_region_lit ?_
          refine wpList_plainQ rfl (fun K Q' hK => ?_); go_simp
          refine h0.k_alloc (fun w1 h1 => ?_)
          refine hK _ _ ?_; clear hK K; try clear Q'
          iterate 1 (refine wpList_plainQ rfl (fun K Q' hK => ?_); go_simp; refine hK _ _ ?_; clear hK K; try clear Q')
          refine wpList_nil ?_
          show Code.wp _ _ _ _ _
          refine wp_seq ?_
          try simp only [List.nil_append] at h1
          try simp only [List.cons_append] at h1
          try simp only [List.eraseIdx_zero] at h1
          try simp only [List.tail_cons] at h1
          try simp only [List.eraseIdx_cons_succ] at h1
          try simp only [List.eraseIdx_cons_zero] at h1
          try simp only [List.set_cons_succ] at h1
          try simp only [List.set_cons_zero] at h1
          try simp only [List.set_cons_succ] at h1
          try simp only [List.set_cons_zero] at h1
          try simp only [List.setIfInBounds_toArray] at h1
          try simp only [List.set_cons_succ] at h1
          try simp only [List.set_cons_zero] at h1
          try simp only [List.set_cons_succ] at h1
          try simp only [List.set_cons_zero] at h1
          refine wp_region_lit ?_
          -- stops at: eff:call (Go.Op.call {'callee': (Go.Callee.value (Go.Operand.func 14)), 'args': [], 'argTypes': []}) slot 16
          refine wpList_plainQ rfl (fun K Q' hK => ?_); go_simp
          refine (awake_ok H _ h1.fits htab).mono ?_
          rintro e wAw ⟨HAw, rfl, hpAw⟩
          have h2 := h1.call0 hpAw
          have htab_2 := htab.mono hpAw.le
          have ha_2 := ha.mono hpAw.le
          have hb_2 := hb.mono hpAw.le
          refine hK _ _ ?_; clear hK K; try clear Q'
          iterate 1 (refine wpList_plainQ rfl (fun K Q' hK => ?_); go_simp; refine hK _ _ ?_; clear hK K; try clear Q')
          refine wpList_nil ?_
          show Code.wp _ _ _ _ _
          refine wp_seq ?_
          refine wp_seq ?_
          try simp only [List.nil_append] at h2
          try simp only [List.cons_append] at h2
          try simp only [List.eraseIdx_zero] at h2
          try simp only [List.tail_cons] at h2
          try simp only [List.eraseIdx_cons_succ] at h2
          try simp only [List.eraseIdx_cons_zero] at h2
          try simp only [List.set_cons_succ] at h2
          try simp only [List.set_cons_zero] at h2
          try simp only [List.set_cons_succ] at h2
          try simp only [List.set_cons_zero] at h2
          try simp only [List.setIfInBounds_toArray] at h2
          try simp only [List.set_cons_succ] at h2
          try simp only [List.set_cons_zero] at h2
          try simp only [List.set_cons_succ] at h2
          try simp only [List.set_cons_zero] at h2
          refine wp_region_lit ?_
          iterate 2 (refine wpList_plainQ rfl (fun K Q' hK => ?_); go_simp; refine hK _ _ ?_; clear hK K; try clear Q')
          refine wpList_nil ?_
          show Code.wp _ _ _ _ _
          -- stops at: cond
          refine wp_cond_false (rfl) ?_
          refine wp_skip ?_
          show Code.wp _ _ _ _ _
          refine wp_seq ?_
          refine wp_seq ?_
          refine wp_region_lit ?_
          iterate 4 (refine wpList_plainQ rfl (fun K Q' hK => ?_); go_simp; refine hK _ _ ?_; clear hK K; try clear Q')
          first | go_skip | (iterate 3 (refine wpList_stepQ (o := { dst := _, op := _, type := _, pos := _, after := _, guard := some (3, false) }) (fun K Q' hK => ?_); go_simp; refine hK _ _ ?_; clear hK K; try clear Q')) | skip
          iterate 1 (refine wpList_plainQ rfl (fun K Q' hK => ?_); go_simp; refine hK _ _ ?_; clear hK K; try clear Q')
          refine wpList_nil ?_
          show Code.wp _ _ _ _ _
          -- stops at: cond
          refine wp_cond_false (rfl) ?_
          refine wp_skip ?_
          show Code.wp _ _ _ _ _
          refine wp_seq ?_
          refine wp_region_lit ?_
          iterate 1 (refine wpList_plainQ rfl (fun K Q' hK => ?_); go_simp; refine hK _ _ ?_; clear hK K; try clear Q')
          -- stops at: eff:call (Go.Op.call {'callee': (Go.Callee.value (Go.Operand.func 15)), 'args': [(Go.Operand.const (Go.Value.pointer none)), (Go.Operand.tmp 27)], 'argTypes': [36, 22]}) slot 28
          refine wpList_plainQ rfl (fun K Q' hK => ?_); go_simp
          refine (hof_ok (m := none) (xs := a) fa h2.pre (by omega) ha_2).mono ?_
          rintro e wXp ⟨rXp, HXp, rfl, hpXp, hXp⟩
          obtain ⟨Xp, eXp⟩ : ∃ hp0, Hid (Hp.ofL a = hp0) := ⟨_, show _ = _ from rfl⟩
          rw [eXp.out] at hXp
          have oXp := hXp.ok
          have pXp : Hid ((Hp.els Xp).Perm (a)) := by rw [← eXp.out]; exact Hp.els_ofL _
          have sXp : Hp.size Xp = (a).length := pXp.out.length_eq
          have h3 := h2.call0 hpXp
          have htab_3 := htab_2.mono hpXp.le
          have ha_3 := ha_2.mono hpXp.le
          have hb_3 := hb_2.mono hpXp.le
          refine hK _ _ ?_; clear hK K; try clear Q'
          refine wpList_plainQ rfl (fun K Q' hK => ?_); go_simp
          refine h3.k_alloc (fun w4 h4 => ?_)
          refine hK _ _ ?_; clear hK K; try clear Q'
          have c_0 := h4.cell 1 rfl 0 rfl
          have f_0 := h4.free 1 rfl 0
          refine wpList_plainQ rfl (fun K Q' hK => ?_); go_simp
          clear c_0 f_0
          refine h4.k_set 1 rfl (fun w5 h5 => ?_)
          refine hK _ _ ?_; clear hK K; try clear Q'
          refine wpList_nil ?_
          show Code.wp _ _ _ _ _
          refine wp_seq ?_
          try simp only [List.nil_append] at h5
          try simp only [List.cons_append] at h5
          try simp only [List.eraseIdx_zero] at h5
          try simp only [List.tail_cons] at h5
          try simp only [List.eraseIdx_cons_succ] at h5
          try simp only [List.eraseIdx_cons_zero] at h5
          try simp only [List.set_cons_succ] at h5
          try simp only [List.set_cons_zero] at h5
          try simp only [List.set_cons_succ] at h5
          try simp only [List.set_cons_zero] at h5
          try simp only [List.setIfInBounds_toArray] at h5
          try simp only [List.set_cons_succ] at h5
          try simp only [List.set_cons_zero] at h5
          try simp only [List.set_cons_succ] at h5
          try simp only [List.set_cons_zero] at h5
          refine wp_region_lit ?_
          iterate 1 (refine wpList_plainQ rfl (fun K Q' hK => ?_); go_simp; refine hK _ _ ?_; clear hK K; try clear Q')
          -- stops at: eff:call (Go.Op.call {'callee': (Go.Callee.value (Go.Operand.func 15)), 'args': [(Go.Operand.const (Go.Value.pointer none)), (Go.Operand.tmp 29)], 'argTypes': [36, 22]}) slot 30
          refine wpList_plainQ rfl (fun K Q' hK => ?_); go_simp
          refine (hof_ok (m := none) (xs := b) fb h5.pre (by omega) hb_3).mono ?_
          rintro e wXq ⟨rXq, HXq, rfl, hpXq, hXq⟩
          obtain ⟨Xq, eXq⟩ : ∃ hp0, Hid (Hp.ofL b = hp0) := ⟨_, show _ = _ from rfl⟩
          rw [eXq.out] at hXq
          have oXq := hXq.ok
          have pXq : Hid ((Hp.els Xq).Perm (b)) := by rw [← eXq.out]; exact Hp.els_ofL _
          have sXq : Hp.size Xq = (b).length := pXq.out.length_eq
          have h6 := h5.call0 hpXq
          have htab_6 := htab_3.mono hpXq.le
          have ha_6 := ha_3.mono hpXq.le
          have hb_6 := hb_3.mono hpXq.le
          have hXp_6 := hXp.mono hpXq.le
          refine hK _ _ ?_; clear hK K; try clear Q'
          refine wpList_plainQ rfl (fun K Q' hK => ?_); go_simp
          refine h6.k_alloc (fun w7 h7 => ?_)
          refine hK _ _ ?_; clear hK K; try clear Q'
          have c_0 := h7.cell 2 rfl 0 rfl
          have f_0 := h7.free 2 rfl 0
          refine wpList_plainQ rfl (fun K Q' hK => ?_); go_simp
          clear c_0 f_0
          refine h7.k_set 2 rfl (fun w8 h8 => ?_)
          refine hK _ _ ?_; clear hK K; try clear Q'
          refine wpList_nil ?_
          show Code.wp _ _ _ _ _
          refine wp_seq ?_
          try simp only [List.nil_append] at h8
          try simp only [List.cons_append] at h8
          try simp only [List.eraseIdx_zero] at h8
          try simp only [List.tail_cons] at h8
          try simp only [List.eraseIdx_cons_succ] at h8
          try simp only [List.eraseIdx_cons_zero] at h8
          try simp only [List.set_cons_succ] at h8
          try simp only [List.set_cons_zero] at h8
          try simp only [List.set_cons_succ] at h8
          try simp only [List.set_cons_zero] at h8
          try simp only [List.setIfInBounds_toArray] at h8
          try simp only [List.set_cons_succ] at h8
          try simp only [List.set_cons_zero] at h8
          try simp only [List.set_cons_succ] at h8
          try simp only [List.set_cons_zero] at h8
          refine wp_region_lit ?_
          -- stops at: eff:call (Go.Op.call {'callee': (Go.Callee.value (Go.Operand.func 23)), 'args': [], 'argTypes': []}) slot 31
          rw [hla.out] at sXp
          rw [hlb.out] at sXq
          refine wpList_plainQ rfl (fun K Q' hK => ?_); go_simp
          refine (new_ok _ _ h8.fits).mono ?_
          rintro e wM1 ⟨bM1, rfl, hkM1, hbM1, hoM1⟩
          have hCM1 := h8.callnew hkM1 hbM1 hoM1 rfl
          refine hK _ _ ?_; clear hK K; try clear Q'
          iterate 1 (refine wpList_plainQ rfl (fun K Q' hK => ?_); go_simp; refine hK _ _ ?_; clear hK K; try clear Q')
          refine wpList_nil ?_
          show Code.wp _ _ _ _ _
          refine wp_seq ?_
          try simp only [List.nil_append] at hCM1
          try simp only [List.cons_append] at hCM1
          try simp only [List.eraseIdx_zero] at hCM1
          try simp only [List.tail_cons] at hCM1
          try simp only [List.eraseIdx_cons_succ] at hCM1
          try simp only [List.eraseIdx_cons_zero] at hCM1
          try simp only [List.set_cons_succ] at hCM1
          try simp only [List.set_cons_zero] at hCM1
          try simp only [List.set_cons_succ] at hCM1
          try simp only [List.set_cons_zero] at hCM1
          try simp only [List.setIfInBounds_toArray] at hCM1
          try simp only [List.set_cons_succ] at hCM1
          try simp only [List.set_cons_zero] at hCM1
          try simp only [List.set_cons_succ] at hCM1
          try simp only [List.set_cons_zero] at hCM1
          refine wp_region_lit ?_
          have c_1_0 := hCM1.cell 1 rfl 0 rfl
          have c_2_0 := hCM1.cell 2 rfl 0 rfl
          iterate 3 (refine wpList_plainQ rfl (fun K Q' hK => ?_); go_simp; refine hK _ _ ?_; clear hK K; try clear Q')
          clear c_1_0 c_2_0
          -- stops at: eff:call (Go.Op.call {'callee': (Go.Callee.value (Go.Operand.func 16)), 'args': [(Go.Operand.tmp 32), (Go.Operand.tmp 33), (Go.Operand.tmp 34)], 'argTypes': [26, 36, 26] slot 35
          refine wpList_plainQ rfl (fun K Q' hK => ?_); go_simp
          refine (hmeld_ok (m := some bM1) (hCM1.pre_at (i := 3) rfl) (by omega) hXp_6 hXq).mono ?_
          rintro e wXz ⟨rXz, HXz, rfl, hpXz, hXz⟩
          have sXz : Hp.size (Hp.meld Xp Xq) = _ := Hp.size_meld oXp oXq
          have st1 : IntKind.i64.wrap (0 + ((Hp.meldC Xp Xq : Nat) : Int) + (0 + ((Hp.meldD Xp Xq : Nat) : Int))) = 0 := by
            have h1 := PT.meldN_eq Xp Xq
            rw [show PT.size Xp = la from sXp, show PT.size Xq = lb from sXq, if_pos Hz.out] at h1
            unfold Hp.meldC Hp.meldD
            rw [h1]
            exact IntWalk.i64_in _ (by omega)
          obtain ⟨Xz, eXz⟩ : ∃ hp0, Hid (Hp.meld Xp Xq = hp0) := ⟨_, show _ = _ from rfl⟩
          rw [eXz.out] at hXz
          have oXz := hXz.ok
          rw [eXz.out, sXp, sXq, hsz.out] at sXz
          have h9 := hCM1.call_at (i := 3) rfl hpXz
          have htab_9 := htab_6.mono hpXz.le
          have ha_9 := ha_6.mono hpXz.le
          have hb_9 := hb_6.mono hpXz.le
          have hXp_9 := hXp_6.mono hpXz.le
          have hXq_9 := hXq.mono hpXz.le
          refine hK _ _ ?_; clear hK K; try clear Q'
          refine wpList_plainQ rfl (fun K Q' hK => ?_); go_simp
          refine h9.k_alloc (fun w10 h10 => ?_)
          refine hK _ _ ?_; clear hK K; try clear Q'
          have c_0 := h10.cell 4 rfl 0 rfl
          have f_0 := h10.free 4 rfl 0
          refine wpList_plainQ rfl (fun K Q' hK => ?_); go_simp
          clear c_0 f_0
          refine h10.k_set 4 rfl (fun w11 h11 => ?_)
          refine hK _ _ ?_; clear hK K; try clear Q'
          refine wpList_nil ?_
          show Code.wp _ _ _ _ _
          refine wp_seq ?_
          try simp only [List.nil_append] at h11
          try simp only [List.cons_append] at h11
          try simp only [List.eraseIdx_zero] at h11
          try simp only [List.tail_cons] at h11
          try simp only [List.eraseIdx_cons_succ] at h11
          try simp only [List.eraseIdx_cons_zero] at h11
          try simp only [List.set_cons_succ] at h11
          try simp only [List.set_cons_zero] at h11
          try simp only [List.set_cons_succ] at h11
          try simp only [List.set_cons_zero] at h11
          try simp only [List.setIfInBounds_toArray] at h11
          try simp only [List.set_cons_succ] at h11
          try simp only [List.set_cons_zero] at h11
          try simp only [List.set_cons_succ] at h11
          try simp only [List.set_cons_zero] at h11
          refine wp_region_lit ?_
          iterate 1 (refine wpList_plainQ rfl (fun K Q' hK => ?_); go_simp; refine hK _ _ ?_; clear hK K; try clear Q')
          refine wpList_nil ?_
          show Code.wp _ _ _ _ _
          refine wp_seq ?_
          refine wp_seq ?_
          refine wp_region_lit ?_
          iterate 4 (refine wpList_plainQ rfl (fun K Q' hK => ?_); go_simp; refine hK _ _ ?_; clear hK K; try clear Q')
          first | go_skip | (iterate 3 (refine wpList_stepQ (o := { dst := _, op := _, type := _, pos := _, after := _, guard := some (3, false) }) (fun K Q' hK => ?_); go_simp; refine hK _ _ ?_; clear hK K; try clear Q')) | skip
          iterate 1 (refine wpList_plainQ rfl (fun K Q' hK => ?_); go_simp; refine hK _ _ ?_; clear hK K; try clear Q')
          refine wpList_nil ?_
          show Code.wp _ _ _ _ _
          -- stops at: cond
          refine wp_cond_true (rfl) ?_
          refine wp_region_lit ?_
          iterate 1 (refine wpList_plainQ rfl (fun K Q' hK => ?_); go_simp; refine hK _ _ ?_; clear hK K; try clear Q')
          refine wpList_nil ?_
          show Code.wp _ _ _ _ _
          refine wp_seq ?_
          refine wp_seq ?_
          refine wp_region_lit ?_
          iterate 1 (refine wpList_plainQ rfl (fun K Q' hK => ?_); go_simp; refine hK _ _ ?_; clear hK K; try clear Q')
          -- stops at: eff:call (Go.Op.call {'callee': (Go.Callee.value (Go.Operand.func 28)), 'args': [(Go.Operand.tmp 44)], 'argTypes': [36]}) slot 45
          refine wpList_plainQ rfl (fun K Q' hK => ?_); go_simp
          refine (steps_ok _ _ bM1 _ _ (h11.pre_at (i := 3) rfl)).mono ?_
          rintro e wS1 ⟨rfl, hpS1⟩
          rw [st1]
          have h12 := h11.call_at (i := 3) rfl hpS1
          have htab_12 := htab_9.mono hpS1.le
          have ha_12 := ha_9.mono hpS1.le
          have hb_12 := hb_9.mono hpS1.le
          have hXp_12 := hXp_9.mono hpS1.le
          have hXq_12 := hXq_9.mono hpS1.le
          have hXz_12 := hXz.mono hpS1.le
          refine hK _ _ ?_; clear hK K; try clear Q'
          iterate 2 (refine wpList_plainQ rfl (fun K Q' hK => ?_); go_simp; refine hK _ _ ?_; clear hK K; try clear Q')
          refine wpList_nil ?_
          show Code.wp _ _ _ _ _
          -- stops at: cond
          refine wp_cond_false (rfl) ?_
          refine wp_skip ?_
          show Code.wp _ _ _ _ _
          refine wp_seq ?_
          try simp only [List.nil_append] at h12
          try simp only [List.cons_append] at h12
          try simp only [List.eraseIdx_zero] at h12
          try simp only [List.tail_cons] at h12
          try simp only [List.eraseIdx_cons_succ] at h12
          try simp only [List.eraseIdx_cons_zero] at h12
          try simp only [List.set_cons_succ] at h12
          try simp only [List.set_cons_zero] at h12
          try simp only [List.set_cons_succ] at h12
          try simp only [List.set_cons_zero] at h12
          try simp only [List.setIfInBounds_toArray] at h12
          try simp only [List.set_cons_succ] at h12
          try simp only [List.set_cons_zero] at h12
          try simp only [List.set_cons_succ] at h12
          try simp only [List.set_cons_zero] at h12
          refine wp_region_lit ?_
          -- stops at: eff:call (Go.Op.call {'callee': (Go.Callee.value (Go.Operand.func 23)), 'args': [], 'argTypes': []}) slot 48
          refine wpList_plainQ rfl (fun K Q' hK => ?_); go_simp
          refine (new_ok _ _ h12.fits).mono ?_
          rintro e wM2 ⟨bM2, rfl, hkM2, hbM2, hoM2⟩
          have hCM2 := h12.callnew hkM2 hbM2 hoM2 rfl
          refine hK _ _ ?_; clear hK K; try clear Q'
          iterate 1 (refine wpList_plainQ rfl (fun K Q' hK => ?_); go_simp; refine hK _ _ ?_; clear hK K; try clear Q')
          refine wpList_nil ?_
          show Code.wp _ _ _ _ _
          refine wp_seq ?_
          try simp only [List.nil_append] at hCM2
          try simp only [List.cons_append] at hCM2
          try simp only [List.eraseIdx_zero] at hCM2
          try simp only [List.tail_cons] at hCM2
          try simp only [List.eraseIdx_cons_succ] at hCM2
          try simp only [List.eraseIdx_cons_zero] at hCM2
          try simp only [List.set_cons_succ] at hCM2
          try simp only [List.set_cons_zero] at hCM2
          try simp only [List.set_cons_succ] at hCM2
          try simp only [List.set_cons_zero] at hCM2
          try simp only [List.setIfInBounds_toArray] at hCM2
          try simp only [List.set_cons_succ] at hCM2
          try simp only [List.set_cons_zero] at hCM2
          try simp only [List.set_cons_succ] at hCM2
          try simp only [List.set_cons_zero] at hCM2
          refine wp_region_lit ?_
          have c_4_0 := hCM2.cell 4 rfl 0 rfl
          have c_0_0 := hCM2.cell 0 rfl 0 rfl
          have c_0_1 := hCM2.cell 0 rfl 1 rfl
          iterate 3 (refine wpList_plainQ rfl (fun K Q' hK => ?_); go_simp; refine hK _ _ ?_; clear hK K; try clear Q')
          clear c_4_0 c_0_0 c_0_1
          -- stops at: eff:call (Go.Op.call {'callee': (Go.Callee.value (Go.Operand.func 24)), 'args': [(Go.Operand.tmp 49), (Go.Operand.tmp 50), (Go.Operand.tmp 51)], 'argTypes': [26, 36, 41] slot 52
          refine wpList_plainQ rfl (fun K Q' hK => ?_); go_simp
          refine (hinsert_ok (m := some bM2) x fx (hCM2.pre_at (i := 5) rfl) (by omega) hXz_12).mono ?_
          rintro e wXy ⟨rXy, HXy, rfl, hpXy, hXy⟩
          have sXy : Hp.size (Hp.insert x Xz) = _ := Hp.size_insert x oXz
          have st2 : IntKind.i64.wrap (0 + ((Hp.insC x Xz : Nat) : Int) + (0 + ((Hp.insD x Xz : Nat) : Int))) = 1 := by
            have h1 := PT.meldN_eq (.node x .nil .nil) Xz
            rw [show PT.size (.node x .nil .nil) = 1 from rfl, show PT.size Xz = sz from sXz, if_pos Hs.out] at h1
            unfold Hp.insC Hp.insD
            rw [h1]
            exact IntWalk.i64_in _ (by omega)
          obtain ⟨Xy, eXy⟩ : ∃ hp0, Hid (Hp.insert x Xz = hp0) := ⟨_, show _ = _ from rfl⟩
          rw [eXy.out] at hXy
          have oXy := hXy.ok
          rw [eXy.out, sXz] at sXy
          have h13 := hCM2.call_at (i := 5) rfl hpXy
          have htab_13 := htab_12.mono hpXy.le
          have ha_13 := ha_12.mono hpXy.le
          have hb_13 := hb_12.mono hpXy.le
          have hXp_13 := hXp_12.mono hpXy.le
          have hXq_13 := hXq_12.mono hpXy.le
          have hXz_13 := hXz_12.mono hpXy.le
          refine hK _ _ ?_; clear hK K; try clear Q'
          refine wpList_plainQ rfl (fun K Q' hK => ?_); go_simp
          refine h13.k_alloc (fun w14 h14 => ?_)
          refine hK _ _ ?_; clear hK K; try clear Q'
          have c_0 := h14.cell 6 rfl 0 rfl
          have f_0 := h14.free 6 rfl 0
          refine wpList_plainQ rfl (fun K Q' hK => ?_); go_simp
          clear c_0 f_0
          refine h14.k_set 6 rfl (fun w15 h15 => ?_)
          refine hK _ _ ?_; clear hK K; try clear Q'
          refine wpList_nil ?_
          show Code.wp _ _ _ _ _
          refine wp_seq ?_
          refine wp_seq ?_
          try simp only [List.nil_append] at h15
          try simp only [List.cons_append] at h15
          try simp only [List.eraseIdx_zero] at h15
          try simp only [List.tail_cons] at h15
          try simp only [List.eraseIdx_cons_succ] at h15
          try simp only [List.eraseIdx_cons_zero] at h15
          try simp only [List.set_cons_succ] at h15
          try simp only [List.set_cons_zero] at h15
          try simp only [List.set_cons_succ] at h15
          try simp only [List.set_cons_zero] at h15
          try simp only [List.setIfInBounds_toArray] at h15
          try simp only [List.set_cons_succ] at h15
          try simp only [List.set_cons_zero] at h15
          try simp only [List.set_cons_succ] at h15
          try simp only [List.set_cons_zero] at h15
          refine h15.region [0, 1, 2, 3, 4, 6] [(0, true), (2, true), (1, false), (3, false), (4, true), (5, true), (6, true), (7, true)] (by kernel_rfl) (by kernel_rfl) (fun w16 h16 => ?_)
          refine wpOrd_hide (fun _ _ d _ _ h => by cases d <;> exact h) (fun QR hQn hQp => ?_)
          simp only [ordOps, List.map_cons, List.map_nil, List.getD_cons_zero, List.getD_cons_succ]
          iterate 2 (refine wpOrd_quiet (v := ?_) rfl (fun _ _ _ => hQp _ _ _ _ _) ?_ ?_; rotate_left; (intro w' hS; have c_4_0 := hS.cell 4 rfl 0 rfl; (first | (go_simp; done) | (go_simp; with_reducible rfl))); simp only [Act.put, List.setIfInBounds_toArray, List.set_cons_zero, List.set_cons_succ])
          -- stops at: eff:call (Go.Op.call {'callee': (Go.Callee.value (Go.Operand.func 28)), 'args': [(Go.Operand.tmp 53)], 'argTypes': [36]}) slot 54
          refine wpOrd_effQ rfl (fun K Q' hK => ?_); go_simp
          refine (steps_ok _ _ bM2 _ _ (h16.pre_at (i := 5) rfl)).mono ?_
          rintro e wS2 ⟨rfl, hpS2⟩
          rw [st2]
          have h17 := h16.call_at (i := 5) rfl hpS2
          have htab_17 := htab_13.mono hpS2.le
          have ha_17 := ha_13.mono hpS2.le
          have hb_17 := hb_13.mono hpS2.le
          have hXp_17 := hXp_13.mono hpS2.le
          have hXq_17 := hXq_13.mono hpS2.le
          have hXz_17 := hXz_13.mono hpS2.le
          have hXy_17 := hXy.mono hpS2.le
          refine hK _ _ (h17.sat' hpS2.le [0, 1, 2, 3, 4, 6] (by kernel_rfl)) ?_; clear hK K; try clear Q'
          -- stops at: eff:call (Go.Op.call {'callee': (Go.Callee.value (Go.Operand.func 21)), 'args': [(Go.Operand.tmp 55)], 'argTypes': [26]}) slot 56
          refine wpOrd_effQ rfl (fun K Q' hK => ?_); go_simp
          refine (hsize_ok h17.fits (by omega) hXz_17).mono ?_
          rintro e wZ1 ⟨HZ1, rfl, hpZ1⟩
          rw [sXz]
          have h18 := h17.call0 hpZ1
          have htab_18 := htab_17.mono hpZ1.le
          have ha_18 := ha_17.mono hpZ1.le
          have hb_18 := hb_17.mono hpZ1.le
          have hXp_18 := hXp_17.mono hpZ1.le
          have hXq_18 := hXq_17.mono hpZ1.le
          have hXz_18 := hXz_17.mono hpZ1.le
          have hXy_18 := hXy_17.mono hpZ1.le
          refine hK _ _ (h18.sat' (GH.le.trans hpS2.le hpZ1.le) [0, 1, 2, 3, 4, 6] (by kernel_rfl)) ?_; clear hK K; try clear Q'
          iterate 4 (refine wpOrd_quiet (v := ?_) rfl (fun _ _ _ => hQp _ _ _ _ _) ?_ ?_; rotate_left; (intro w' hS; (first | (go_simp; done) | (go_simp; with_reducible rfl))); simp only [Act.put, List.setIfInBounds_toArray, List.set_cons_zero, List.set_cons_succ])
          refine wpOrd_nil (hQn _ _ ?_); clear hQn hQp QR
          show Code.wp _ _ _ _ _
          -- stops at: cond
          refine wp_cond_false (rfl) ?_
          refine wp_skip ?_
          show Code.wp _ _ _ _ _
          refine wp_seq ?_
          try simp only [List.nil_append] at h18
          try simp only [List.cons_append] at h18
          try simp only [List.eraseIdx_zero] at h18
          try simp only [List.tail_cons] at h18
          try simp only [List.eraseIdx_cons_succ] at h18
          try simp only [List.eraseIdx_cons_zero] at h18
          try simp only [List.set_cons_succ] at h18
          try simp only [List.set_cons_zero] at h18
          try simp only [List.set_cons_succ] at h18
          try simp only [List.set_cons_zero] at h18
          try simp only [List.setIfInBounds_toArray] at h18
          try simp only [List.set_cons_succ] at h18
          try simp only [List.set_cons_zero] at h18
          try simp only [List.set_cons_succ] at h18
          try simp only [List.set_cons_zero] at h18
          refine wp_region_lit ?_
          -- stops at: eff:call (Go.Op.call {'callee': (Go.Callee.value (Go.Operand.func 23)), 'args': [], 'argTypes': []}) slot 61
          refine wpList_plainQ rfl (fun K Q' hK => ?_); go_simp
          refine (new_ok _ _ h18.fits).mono ?_
          rintro e wM3 ⟨bM3, rfl, hkM3, hbM3, hoM3⟩
          have hCM3 := h18.callnew hkM3 hbM3 hoM3 rfl
          refine hK _ _ ?_; clear hK K; try clear Q'
          iterate 1 (refine wpList_plainQ rfl (fun K Q' hK => ?_); go_simp; refine hK _ _ ?_; clear hK K; try clear Q')
          refine wpList_nil ?_
          show Code.wp _ _ _ _ _
          refine wp_seq ?_
          try simp only [List.nil_append] at hCM3
          try simp only [List.cons_append] at hCM3
          try simp only [List.eraseIdx_zero] at hCM3
          try simp only [List.tail_cons] at hCM3
          try simp only [List.eraseIdx_cons_succ] at hCM3
          try simp only [List.eraseIdx_cons_zero] at hCM3
          try simp only [List.set_cons_succ] at hCM3
          try simp only [List.set_cons_zero] at hCM3
          try simp only [List.set_cons_succ] at hCM3
          try simp only [List.set_cons_zero] at hCM3
          try simp only [List.setIfInBounds_toArray] at hCM3
          try simp only [List.set_cons_succ] at hCM3
          try simp only [List.set_cons_zero] at hCM3
          try simp only [List.set_cons_succ] at hCM3
          try simp only [List.set_cons_zero] at hCM3
          refine wp_region_lit ?_
          have c_6_0 := hCM3.cell 6 rfl 0 rfl
          iterate 2 (refine wpList_plainQ rfl (fun K Q' hK => ?_); go_simp; refine hK _ _ ?_; clear hK K; try clear Q')
          clear c_6_0
          -- stops at: eff:call (Go.Op.call {'callee': (Go.Callee.value (Go.Operand.func 26)), 'args': [(Go.Operand.tmp 63), (Go.Operand.tmp 64)], 'argTypes': [26, 36]}) slot 65
          have hyc : 0 < (Hp.els Xy).length := by have : (Hp.els Xy).length = _ := sXy; omega
          obtain ⟨y, hmXy⟩ : ∃ y, Hp.min? Xy = some y := by
            cases h : Hp.min? Xy with
            | none => rw [Hp.min_none oXy h] at hyc; simp at hyc
            | some y => exact ⟨y, rfl⟩
          refine wpList_plainQ rfl (fun K Q' hK => ?_); go_simp
          refine (hpop_ok (m := some bM3) (hCM3.pre_at (i := 7) rfl) (by omega) hXy_18).mono ?_
          rintro e wXw ⟨rXw, HXw, rfl, hpXw, hXw⟩
          simp only [hmXy, Option.isSome_some]
          have sXw : Hp.size (Hp.pop Xy) = sz := by
            have h1 := (Hp.min_perm oXy hmXy).length_eq
            have h2 : (Hp.els Xy).length = _ := sXy
            show (Hp.els (Hp.pop Xy)).length = _
            simp at h1
            omega
          obtain ⟨pn, hpn⟩ : ∃ n, Hid (PT.popN Xy = n) := ⟨_, show _ = _ from rfl⟩
          have hpl : pn ≤ sz := by
            have h1 := PT.popN_le Xy oXy.1
            rw [hpn.out, show PT.size (PT.pop Xy) = sz from sXw] at h1
            exact h1
          have st3 : IntKind.i64.wrap (0 + ((Hp.popC Xy : Nat) : Int) + (0 + ((Hp.popD Xy : Nat) : Int))) = 2 * (pn : Int) := by
            unfold Hp.popC Hp.popD
            rw [hpn.out, show 0 + (pn : Int) + (0 + (pn : Int)) = 2 * (pn : Int) by omega]
            exact IntWalk.i64_in _ (by omega)
          have e2 : IntKind.i64.wrap (2 * (sz : Int)) = 2 * (sz : Int) := IntWalk.i64_in _ (by omega)
          have dl : decide ((2 : Int) * (pn : Int) ≤ 2 * (sz : Int)) = true := decide_eq_true (by omega)
          have dl2 : (2 : Int) * (pn : Int) ≤ 2 * (sz : Int) := by omega
          obtain ⟨Xw, eXw⟩ : ∃ hp0, Hid (Hp.pop Xy = hp0) := ⟨_, show _ = _ from rfl⟩
          rw [eXw.out] at hXw
          have oXw := hXw.ok
          rw [eXw.out] at sXw
          have h19 := hCM3.call_at (i := 7) rfl hpXw
          have htab_19 := htab_18.mono hpXw.le
          have ha_19 := ha_18.mono hpXw.le
          have hb_19 := hb_18.mono hpXw.le
          have hXp_19 := hXp_18.mono hpXw.le
          have hXq_19 := hXq_18.mono hpXw.le
          have hXz_19 := hXz_18.mono hpXw.le
          have hXy_19 := hXy_18.mono hpXw.le
          refine hK _ _ ?_; clear hK K; try clear Q'
          iterate 3 (refine wpList_plainQ rfl (fun K Q' hK => ?_); go_simp; refine hK _ _ ?_; clear hK K; try clear Q')
          refine wpList_plainQ rfl (fun K Q' hK => ?_); go_simp
          refine h19.k_alloc (fun w20 h20 => ?_)
          refine hK _ _ ?_; clear hK K; try clear Q'
          have c_0 := h20.cell 8 rfl 0 rfl
          have f_0 := h20.free 8 rfl 0
          refine wpList_plainQ rfl (fun K Q' hK => ?_); go_simp
          clear c_0 f_0
          refine h20.k_set 8 rfl (fun w21 h21 => ?_)
          refine hK _ _ ?_; clear hK K; try clear Q'
          iterate 1 (refine wpList_plainQ rfl (fun K Q' hK => ?_); go_simp; refine hK _ _ ?_; clear hK K; try clear Q')
          refine wpList_nil ?_
          show Code.wp _ _ _ _ _
          refine wp_seq ?_
          try simp only [List.nil_append] at h21
          try simp only [List.cons_append] at h21
          try simp only [List.eraseIdx_zero] at h21
          try simp only [List.tail_cons] at h21
          try simp only [List.eraseIdx_cons_succ] at h21
          try simp only [List.eraseIdx_cons_zero] at h21
          try simp only [List.set_cons_succ] at h21
          try simp only [List.set_cons_zero] at h21
          try simp only [List.set_cons_succ] at h21
          try simp only [List.set_cons_zero] at h21
          try simp only [List.setIfInBounds_toArray] at h21
          try simp only [List.set_cons_succ] at h21
          try simp only [List.set_cons_zero] at h21
          try simp only [List.set_cons_succ] at h21
          try simp only [List.set_cons_zero] at h21
          refine h21.region [0, 1, 2, 3, 4, 5, 6, 8] [(0, true), (1, true), (2, true), (4, true), (5, true), (6, true), (7, true), (8, true), (3, false), (9, true), (10, true), (11, true), (12, true), (14, true), (13, false), (15, false), (16, true), (17, true), (18, true), (19, true)] (by kernel_rfl) (by kernel_rfl) (fun w22 h22 => ?_)
          refine wpOrd_hide (fun _ _ d _ _ h => by cases d <;> exact h) (fun QR hQn hQp => ?_)
          simp only [ordOps, List.map_cons, List.map_nil, List.getD_cons_zero, List.getD_cons_succ]
          iterate 2 (refine wpOrd_quiet (v := ?_) rfl (fun _ _ _ => hQp _ _ _ _ _) ?_ ?_; rotate_left; (intro w' hS; (first | (go_simp; done) | (go_simp; with_reducible rfl))); simp only [Act.put, List.setIfInBounds_toArray, List.set_cons_zero, List.set_cons_succ])
          iterate 6 (first | (refine wpOrd_skip rfl (fun _ _ _ => hQp _ _ _ _ _) ?_; simp only [Act.put, List.setIfInBounds_toArray, List.set_cons_zero, List.set_cons_succ]) | (refine wpOrd_quiet (v := ?_) rfl (fun _ _ _ => hQp _ _ _ _ _) ?_ ?_; rotate_left; (intro w' hS; have c_8_0 := hS.cell 7 rfl 0 rfl; (first | (go_simp; done) | (go_simp; with_reducible rfl))); simp only [Act.put, List.setIfInBounds_toArray, List.set_cons_zero, List.set_cons_succ]))
          -- stops at: eff:call (Go.Op.call {'callee': (Go.Callee.value (Go.Operand.func 21)), 'args': [(Go.Operand.tmp 70)], 'argTypes': [26]}) slot 71
          refine wpOrd_effQ rfl (fun K Q' hK => ?_); go_simp
          refine (hsize_ok h22.fits (by omega) hXw).mono ?_
          rintro e wZ2 ⟨HZ2, rfl, hpZ2⟩
          rw [sXw]
          have h23 := h22.call0 hpZ2
          have htab_23 := htab_19.mono hpZ2.le
          have ha_23 := ha_19.mono hpZ2.le
          have hb_23 := hb_19.mono hpZ2.le
          have hXp_23 := hXp_19.mono hpZ2.le
          have hXq_23 := hXq_19.mono hpZ2.le
          have hXz_23 := hXz_19.mono hpZ2.le
          have hXy_23 := hXy_19.mono hpZ2.le
          have hXw_23 := hXw.mono hpZ2.le
          refine hK _ _ (h23.sat' hpZ2.le [0, 1, 2, 3, 4, 5, 6, 8] (by kernel_rfl)) ?_; clear hK K; try clear Q'
          iterate 1 (first | (refine wpOrd_skip rfl (fun _ _ _ => hQp _ _ _ _ _) ?_; simp only [Act.put, List.setIfInBounds_toArray, List.set_cons_zero, List.set_cons_succ]) | (refine wpOrd_quiet (v := ?_) rfl (fun _ _ _ => hQp _ _ _ _ _) ?_ ?_; rotate_left; (intro w' hS; (first | (go_simp; done) | (go_simp; with_reducible rfl))); simp only [Act.put, List.setIfInBounds_toArray, List.set_cons_zero, List.set_cons_succ]))
          iterate 2 (refine wpOrd_quiet (v := ?_) rfl (fun _ _ _ => hQp _ _ _ _ _) ?_ ?_; rotate_left; (intro w' hS; (first | (go_simp; done) | (go_simp; with_reducible rfl))); simp only [Act.put, List.setIfInBounds_toArray, List.set_cons_zero, List.set_cons_succ])
          iterate 2 (first | (refine wpOrd_skip rfl (fun _ _ _ => hQp _ _ _ _ _) ?_; simp only [Act.put, List.setIfInBounds_toArray, List.set_cons_zero, List.set_cons_succ]) | (refine wpOrd_quiet (v := ?_) rfl (fun _ _ _ => hQp _ _ _ _ _) ?_ ?_; rotate_left; (intro w' hS; have c_8_0 := hS.cell 7 rfl 0 rfl; (first | (go_simp; done) | (go_simp; with_reducible rfl))); simp only [Act.put, List.setIfInBounds_toArray, List.set_cons_zero, List.set_cons_succ]))
          -- stops at: eff:call (Go.Op.call {'callee': (Go.Callee.value (Go.Operand.func 28)), 'args': [(Go.Operand.tmp 80)], 'argTypes': [36]}) slot 81
          refine wpOrd_effQ rfl (fun K Q' hK => ?_); go_simp
          refine (steps_ok _ _ bM3 _ _ (h23.pre_at (i := 7) rfl)).mono ?_
          rintro e wS3 ⟨rfl, hpS3⟩
          rw [st3]
          have h24 := h23.call_at (i := 7) rfl hpS3
          have htab_24 := htab_23.mono hpS3.le
          have ha_24 := ha_23.mono hpS3.le
          have hb_24 := hb_23.mono hpS3.le
          have hXp_24 := hXp_23.mono hpS3.le
          have hXq_24 := hXq_23.mono hpS3.le
          have hXz_24 := hXz_23.mono hpS3.le
          have hXy_24 := hXy_23.mono hpS3.le
          have hXw_24 := hXw_23.mono hpS3.le
          refine hK _ _ (h24.sat' (GH.le.trans hpZ2.le hpS3.le) [0, 1, 2, 3, 4, 5, 6, 8] (by kernel_rfl)) ?_; clear hK K; try clear Q'
          -- stops at: eff:call (Go.Op.call {'callee': (Go.Callee.value (Go.Operand.func 21)), 'args': [(Go.Operand.tmp 82)], 'argTypes': [26]}) slot 83
          refine wpOrd_effQ rfl (fun K Q' hK => ?_); go_simp
          refine (hsize_ok h24.fits (by omega) hXw_24).mono ?_
          rintro e wZ3 ⟨HZ3, rfl, hpZ3⟩
          rw [sXw]
          have h25 := h24.call0 hpZ3
          have htab_25 := htab_24.mono hpZ3.le
          have ha_25 := ha_24.mono hpZ3.le
          have hb_25 := hb_24.mono hpZ3.le
          have hXp_25 := hXp_24.mono hpZ3.le
          have hXq_25 := hXq_24.mono hpZ3.le
          have hXz_25 := hXz_24.mono hpZ3.le
          have hXy_25 := hXy_24.mono hpZ3.le
          have hXw_25 := hXw_24.mono hpZ3.le
          refine hK _ _ (h25.sat' (GH.le.trans (GH.le.trans hpZ2.le hpS3.le) hpZ3.le) [0, 1, 2, 3, 4, 5, 6, 8] (by kernel_rfl)) ?_; clear hK K; try clear Q'
          iterate 2 (first | (refine wpOrd_skip rfl (fun _ _ _ => hQp _ _ _ _ _) ?_; simp only [Act.put, List.setIfInBounds_toArray, List.set_cons_zero, List.set_cons_succ]) | (refine wpOrd_quiet (v := ?_) rfl (fun _ _ _ => hQp _ _ _ _ _) ?_ ?_; rotate_left; (intro w' hS; (first | (go_simp; done) | (go_simp; with_reducible rfl))); simp only [Act.put, List.setIfInBounds_toArray, List.set_cons_zero, List.set_cons_succ]))
          iterate 2 (refine wpOrd_quiet (v := ?_) rfl (fun _ _ _ => hQp _ _ _ _ _) ?_ ?_; rotate_left; (intro w' hS; (first | (go_simp; done) | (go_simp; with_reducible rfl))); simp only [Act.put, List.setIfInBounds_toArray, List.set_cons_zero, List.set_cons_succ])
          refine wpOrd_nil (hQn _ _ ?_); clear hQn hQp QR
          show Code.wp _ _ _ _ _
          -- stops at: ret
          refine wp_ret ?_
          go_ret
          exact ⟨rfl, h25.post.keep⟩
        · have Hs : Hid (¬ (1 = 0 ∨ sz = 0)) := fun h => h.elim (by omega) hsz0
          have hmn : min (sz : Int) 1 = 1 := by omega
          clear h0
          go_enter Tryd.func5, Tryd.ntmps5
          have h0 := St.start hpre
          refine wp_seq ?_
          try simp only [List.nil_append] at h0
          try simp only [List.cons_append] at h0
          try simp only [List.eraseIdx_zero] at h0
          try simp only [List.tail_cons] at h0
          try simp only [List.eraseIdx_cons_succ] at h0
          try simp only [List.eraseIdx_cons_zero] at h0
          try simp only [List.set_cons_succ] at h0
          try simp only [List.set_cons_zero] at h0
          try simp only [List.set_cons_succ] at h0
          try simp only [List.set_cons_zero] at h0
          try simp only [List.setIfInBounds_toArray] at h0
          try simp only [List.set_cons_succ] at h0
          try simp only [List.set_cons_zero] at h0
          try simp only [List.set_cons_succ] at h0
          try simp only [List.set_cons_zero] at h0
          refine wp_region_lit ?_
          refine wpList_plainQ rfl (fun K Q' hK => ?_); go_simp
          refine h0.k_alloc (fun w1 h1 => ?_)
          refine hK _ _ ?_; clear hK K; try clear Q'
          iterate 1 (refine wpList_plainQ rfl (fun K Q' hK => ?_); go_simp; refine hK _ _ ?_; clear hK K; try clear Q')
          refine wpList_nil ?_
          show Code.wp _ _ _ _ _
          refine wp_seq ?_
          try simp only [List.nil_append] at h1
          try simp only [List.cons_append] at h1
          try simp only [List.eraseIdx_zero] at h1
          try simp only [List.tail_cons] at h1
          try simp only [List.eraseIdx_cons_succ] at h1
          try simp only [List.eraseIdx_cons_zero] at h1
          try simp only [List.set_cons_succ] at h1
          try simp only [List.set_cons_zero] at h1
          try simp only [List.set_cons_succ] at h1
          try simp only [List.set_cons_zero] at h1
          try simp only [List.setIfInBounds_toArray] at h1
          try simp only [List.set_cons_succ] at h1
          try simp only [List.set_cons_zero] at h1
          try simp only [List.set_cons_succ] at h1
          try simp only [List.set_cons_zero] at h1
          refine wp_region_lit ?_
          -- stops at: eff:call (Go.Op.call {'callee': (Go.Callee.value (Go.Operand.func 14)), 'args': [], 'argTypes': []}) slot 16
          refine wpList_plainQ rfl (fun K Q' hK => ?_); go_simp
          refine (awake_ok H _ h1.fits htab).mono ?_
          rintro e wAw ⟨HAw, rfl, hpAw⟩
          have h2 := h1.call0 hpAw
          have htab_2 := htab.mono hpAw.le
          have ha_2 := ha.mono hpAw.le
          have hb_2 := hb.mono hpAw.le
          refine hK _ _ ?_; clear hK K; try clear Q'
          iterate 1 (refine wpList_plainQ rfl (fun K Q' hK => ?_); go_simp; refine hK _ _ ?_; clear hK K; try clear Q')
          refine wpList_nil ?_
          show Code.wp _ _ _ _ _
          refine wp_seq ?_
          refine wp_seq ?_
          try simp only [List.nil_append] at h2
          try simp only [List.cons_append] at h2
          try simp only [List.eraseIdx_zero] at h2
          try simp only [List.tail_cons] at h2
          try simp only [List.eraseIdx_cons_succ] at h2
          try simp only [List.eraseIdx_cons_zero] at h2
          try simp only [List.set_cons_succ] at h2
          try simp only [List.set_cons_zero] at h2
          try simp only [List.set_cons_succ] at h2
          try simp only [List.set_cons_zero] at h2
          try simp only [List.setIfInBounds_toArray] at h2
          try simp only [List.set_cons_succ] at h2
          try simp only [List.set_cons_zero] at h2
          try simp only [List.set_cons_succ] at h2
          try simp only [List.set_cons_zero] at h2
          refine wp_region_lit ?_
          iterate 2 (refine wpList_plainQ rfl (fun K Q' hK => ?_); go_simp; refine hK _ _ ?_; clear hK K; try clear Q')
          refine wpList_nil ?_
          show Code.wp _ _ _ _ _
          -- stops at: cond
          refine wp_cond_false (rfl) ?_
          refine wp_skip ?_
          show Code.wp _ _ _ _ _
          refine wp_seq ?_
          refine wp_seq ?_
          refine wp_region_lit ?_
          iterate 4 (refine wpList_plainQ rfl (fun K Q' hK => ?_); go_simp; refine hK _ _ ?_; clear hK K; try clear Q')
          first | go_skip | (iterate 3 (refine wpList_stepQ (o := { dst := _, op := _, type := _, pos := _, after := _, guard := some (3, false) }) (fun K Q' hK => ?_); go_simp; refine hK _ _ ?_; clear hK K; try clear Q')) | skip
          iterate 1 (refine wpList_plainQ rfl (fun K Q' hK => ?_); go_simp; refine hK _ _ ?_; clear hK K; try clear Q')
          refine wpList_nil ?_
          show Code.wp _ _ _ _ _
          -- stops at: cond
          refine wp_cond_false (rfl) ?_
          refine wp_skip ?_
          show Code.wp _ _ _ _ _
          refine wp_seq ?_
          refine wp_region_lit ?_
          iterate 1 (refine wpList_plainQ rfl (fun K Q' hK => ?_); go_simp; refine hK _ _ ?_; clear hK K; try clear Q')
          -- stops at: eff:call (Go.Op.call {'callee': (Go.Callee.value (Go.Operand.func 15)), 'args': [(Go.Operand.const (Go.Value.pointer none)), (Go.Operand.tmp 27)], 'argTypes': [36, 22]}) slot 28
          refine wpList_plainQ rfl (fun K Q' hK => ?_); go_simp
          refine (hof_ok (m := none) (xs := a) fa h2.pre (by omega) ha_2).mono ?_
          rintro e wXp ⟨rXp, HXp, rfl, hpXp, hXp⟩
          obtain ⟨Xp, eXp⟩ : ∃ hp0, Hid (Hp.ofL a = hp0) := ⟨_, show _ = _ from rfl⟩
          rw [eXp.out] at hXp
          have oXp := hXp.ok
          have pXp : Hid ((Hp.els Xp).Perm (a)) := by rw [← eXp.out]; exact Hp.els_ofL _
          have sXp : Hp.size Xp = (a).length := pXp.out.length_eq
          have h3 := h2.call0 hpXp
          have htab_3 := htab_2.mono hpXp.le
          have ha_3 := ha_2.mono hpXp.le
          have hb_3 := hb_2.mono hpXp.le
          refine hK _ _ ?_; clear hK K; try clear Q'
          refine wpList_plainQ rfl (fun K Q' hK => ?_); go_simp
          refine h3.k_alloc (fun w4 h4 => ?_)
          refine hK _ _ ?_; clear hK K; try clear Q'
          have c_0 := h4.cell 1 rfl 0 rfl
          have f_0 := h4.free 1 rfl 0
          refine wpList_plainQ rfl (fun K Q' hK => ?_); go_simp
          clear c_0 f_0
          refine h4.k_set 1 rfl (fun w5 h5 => ?_)
          refine hK _ _ ?_; clear hK K; try clear Q'
          refine wpList_nil ?_
          show Code.wp _ _ _ _ _
          refine wp_seq ?_
          try simp only [List.nil_append] at h5
          try simp only [List.cons_append] at h5
          try simp only [List.eraseIdx_zero] at h5
          try simp only [List.tail_cons] at h5
          try simp only [List.eraseIdx_cons_succ] at h5
          try simp only [List.eraseIdx_cons_zero] at h5
          try simp only [List.set_cons_succ] at h5
          try simp only [List.set_cons_zero] at h5
          try simp only [List.set_cons_succ] at h5
          try simp only [List.set_cons_zero] at h5
          try simp only [List.setIfInBounds_toArray] at h5
          try simp only [List.set_cons_succ] at h5
          try simp only [List.set_cons_zero] at h5
          try simp only [List.set_cons_succ] at h5
          try simp only [List.set_cons_zero] at h5
          refine wp_region_lit ?_
          iterate 1 (refine wpList_plainQ rfl (fun K Q' hK => ?_); go_simp; refine hK _ _ ?_; clear hK K; try clear Q')
          -- stops at: eff:call (Go.Op.call {'callee': (Go.Callee.value (Go.Operand.func 15)), 'args': [(Go.Operand.const (Go.Value.pointer none)), (Go.Operand.tmp 29)], 'argTypes': [36, 22]}) slot 30
          refine wpList_plainQ rfl (fun K Q' hK => ?_); go_simp
          refine (hof_ok (m := none) (xs := b) fb h5.pre (by omega) hb_3).mono ?_
          rintro e wXq ⟨rXq, HXq, rfl, hpXq, hXq⟩
          obtain ⟨Xq, eXq⟩ : ∃ hp0, Hid (Hp.ofL b = hp0) := ⟨_, show _ = _ from rfl⟩
          rw [eXq.out] at hXq
          have oXq := hXq.ok
          have pXq : Hid ((Hp.els Xq).Perm (b)) := by rw [← eXq.out]; exact Hp.els_ofL _
          have sXq : Hp.size Xq = (b).length := pXq.out.length_eq
          have h6 := h5.call0 hpXq
          have htab_6 := htab_3.mono hpXq.le
          have ha_6 := ha_3.mono hpXq.le
          have hb_6 := hb_3.mono hpXq.le
          have hXp_6 := hXp.mono hpXq.le
          refine hK _ _ ?_; clear hK K; try clear Q'
          refine wpList_plainQ rfl (fun K Q' hK => ?_); go_simp
          refine h6.k_alloc (fun w7 h7 => ?_)
          refine hK _ _ ?_; clear hK K; try clear Q'
          have c_0 := h7.cell 2 rfl 0 rfl
          have f_0 := h7.free 2 rfl 0
          refine wpList_plainQ rfl (fun K Q' hK => ?_); go_simp
          clear c_0 f_0
          refine h7.k_set 2 rfl (fun w8 h8 => ?_)
          refine hK _ _ ?_; clear hK K; try clear Q'
          refine wpList_nil ?_
          show Code.wp _ _ _ _ _
          refine wp_seq ?_
          try simp only [List.nil_append] at h8
          try simp only [List.cons_append] at h8
          try simp only [List.eraseIdx_zero] at h8
          try simp only [List.tail_cons] at h8
          try simp only [List.eraseIdx_cons_succ] at h8
          try simp only [List.eraseIdx_cons_zero] at h8
          try simp only [List.set_cons_succ] at h8
          try simp only [List.set_cons_zero] at h8
          try simp only [List.set_cons_succ] at h8
          try simp only [List.set_cons_zero] at h8
          try simp only [List.setIfInBounds_toArray] at h8
          try simp only [List.set_cons_succ] at h8
          try simp only [List.set_cons_zero] at h8
          try simp only [List.set_cons_succ] at h8
          try simp only [List.set_cons_zero] at h8
          refine wp_region_lit ?_
          -- stops at: eff:call (Go.Op.call {'callee': (Go.Callee.value (Go.Operand.func 23)), 'args': [], 'argTypes': []}) slot 31
          rw [hla.out] at sXp
          rw [hlb.out] at sXq
          refine wpList_plainQ rfl (fun K Q' hK => ?_); go_simp
          refine (new_ok _ _ h8.fits).mono ?_
          rintro e wM1 ⟨bM1, rfl, hkM1, hbM1, hoM1⟩
          have hCM1 := h8.callnew hkM1 hbM1 hoM1 rfl
          refine hK _ _ ?_; clear hK K; try clear Q'
          iterate 1 (refine wpList_plainQ rfl (fun K Q' hK => ?_); go_simp; refine hK _ _ ?_; clear hK K; try clear Q')
          refine wpList_nil ?_
          show Code.wp _ _ _ _ _
          refine wp_seq ?_
          try simp only [List.nil_append] at hCM1
          try simp only [List.cons_append] at hCM1
          try simp only [List.eraseIdx_zero] at hCM1
          try simp only [List.tail_cons] at hCM1
          try simp only [List.eraseIdx_cons_succ] at hCM1
          try simp only [List.eraseIdx_cons_zero] at hCM1
          try simp only [List.set_cons_succ] at hCM1
          try simp only [List.set_cons_zero] at hCM1
          try simp only [List.set_cons_succ] at hCM1
          try simp only [List.set_cons_zero] at hCM1
          try simp only [List.setIfInBounds_toArray] at hCM1
          try simp only [List.set_cons_succ] at hCM1
          try simp only [List.set_cons_zero] at hCM1
          try simp only [List.set_cons_succ] at hCM1
          try simp only [List.set_cons_zero] at hCM1
          refine wp_region_lit ?_
          have c_1_0 := hCM1.cell 1 rfl 0 rfl
          have c_2_0 := hCM1.cell 2 rfl 0 rfl
          iterate 3 (refine wpList_plainQ rfl (fun K Q' hK => ?_); go_simp; refine hK _ _ ?_; clear hK K; try clear Q')
          clear c_1_0 c_2_0
          -- stops at: eff:call (Go.Op.call {'callee': (Go.Callee.value (Go.Operand.func 16)), 'args': [(Go.Operand.tmp 32), (Go.Operand.tmp 33), (Go.Operand.tmp 34)], 'argTypes': [26, 36, 26] slot 35
          refine wpList_plainQ rfl (fun K Q' hK => ?_); go_simp
          refine (hmeld_ok (m := some bM1) (hCM1.pre_at (i := 3) rfl) (by omega) hXp_6 hXq).mono ?_
          rintro e wXz ⟨rXz, HXz, rfl, hpXz, hXz⟩
          have sXz : Hp.size (Hp.meld Xp Xq) = _ := Hp.size_meld oXp oXq
          have st1 : IntKind.i64.wrap (0 + ((Hp.meldC Xp Xq : Nat) : Int) + (0 + ((Hp.meldD Xp Xq : Nat) : Int))) = 0 := by
            have h1 := PT.meldN_eq Xp Xq
            rw [show PT.size Xp = la from sXp, show PT.size Xq = lb from sXq, if_pos Hz.out] at h1
            unfold Hp.meldC Hp.meldD
            rw [h1]
            exact IntWalk.i64_in _ (by omega)
          obtain ⟨Xz, eXz⟩ : ∃ hp0, Hid (Hp.meld Xp Xq = hp0) := ⟨_, show _ = _ from rfl⟩
          rw [eXz.out] at hXz
          have oXz := hXz.ok
          rw [eXz.out, sXp, sXq, hsz.out] at sXz
          have h9 := hCM1.call_at (i := 3) rfl hpXz
          have htab_9 := htab_6.mono hpXz.le
          have ha_9 := ha_6.mono hpXz.le
          have hb_9 := hb_6.mono hpXz.le
          have hXp_9 := hXp_6.mono hpXz.le
          have hXq_9 := hXq.mono hpXz.le
          refine hK _ _ ?_; clear hK K; try clear Q'
          refine wpList_plainQ rfl (fun K Q' hK => ?_); go_simp
          refine h9.k_alloc (fun w10 h10 => ?_)
          refine hK _ _ ?_; clear hK K; try clear Q'
          have c_0 := h10.cell 4 rfl 0 rfl
          have f_0 := h10.free 4 rfl 0
          refine wpList_plainQ rfl (fun K Q' hK => ?_); go_simp
          clear c_0 f_0
          refine h10.k_set 4 rfl (fun w11 h11 => ?_)
          refine hK _ _ ?_; clear hK K; try clear Q'
          refine wpList_nil ?_
          show Code.wp _ _ _ _ _
          refine wp_seq ?_
          try simp only [List.nil_append] at h11
          try simp only [List.cons_append] at h11
          try simp only [List.eraseIdx_zero] at h11
          try simp only [List.tail_cons] at h11
          try simp only [List.eraseIdx_cons_succ] at h11
          try simp only [List.eraseIdx_cons_zero] at h11
          try simp only [List.set_cons_succ] at h11
          try simp only [List.set_cons_zero] at h11
          try simp only [List.set_cons_succ] at h11
          try simp only [List.set_cons_zero] at h11
          try simp only [List.setIfInBounds_toArray] at h11
          try simp only [List.set_cons_succ] at h11
          try simp only [List.set_cons_zero] at h11
          try simp only [List.set_cons_succ] at h11
          try simp only [List.set_cons_zero] at h11
          refine wp_region_lit ?_
          iterate 1 (refine wpList_plainQ rfl (fun K Q' hK => ?_); go_simp; refine hK _ _ ?_; clear hK K; try clear Q')
          refine wpList_nil ?_
          show Code.wp _ _ _ _ _
          refine wp_seq ?_
          refine wp_seq ?_
          refine wp_region_lit ?_
          iterate 4 (refine wpList_plainQ rfl (fun K Q' hK => ?_); go_simp; refine hK _ _ ?_; clear hK K; try clear Q')
          first | go_skip | (iterate 3 (refine wpList_stepQ (o := { dst := _, op := _, type := _, pos := _, after := _, guard := some (3, false) }) (fun K Q' hK => ?_); go_simp; refine hK _ _ ?_; clear hK K; try clear Q')) | skip
          iterate 1 (refine wpList_plainQ rfl (fun K Q' hK => ?_); go_simp; refine hK _ _ ?_; clear hK K; try clear Q')
          refine wpList_nil ?_
          show Code.wp _ _ _ _ _
          -- stops at: cond
          refine wp_cond_true (rfl) ?_
          refine wp_region_lit ?_
          iterate 1 (refine wpList_plainQ rfl (fun K Q' hK => ?_); go_simp; refine hK _ _ ?_; clear hK K; try clear Q')
          refine wpList_nil ?_
          show Code.wp _ _ _ _ _
          refine wp_seq ?_
          refine wp_seq ?_
          refine wp_region_lit ?_
          iterate 1 (refine wpList_plainQ rfl (fun K Q' hK => ?_); go_simp; refine hK _ _ ?_; clear hK K; try clear Q')
          -- stops at: eff:call (Go.Op.call {'callee': (Go.Callee.value (Go.Operand.func 28)), 'args': [(Go.Operand.tmp 44)], 'argTypes': [36]}) slot 45
          refine wpList_plainQ rfl (fun K Q' hK => ?_); go_simp
          refine (steps_ok _ _ bM1 _ _ (h11.pre_at (i := 3) rfl)).mono ?_
          rintro e wS1 ⟨rfl, hpS1⟩
          rw [st1]
          have h12 := h11.call_at (i := 3) rfl hpS1
          have htab_12 := htab_9.mono hpS1.le
          have ha_12 := ha_9.mono hpS1.le
          have hb_12 := hb_9.mono hpS1.le
          have hXp_12 := hXp_9.mono hpS1.le
          have hXq_12 := hXq_9.mono hpS1.le
          have hXz_12 := hXz.mono hpS1.le
          refine hK _ _ ?_; clear hK K; try clear Q'
          iterate 2 (refine wpList_plainQ rfl (fun K Q' hK => ?_); go_simp; refine hK _ _ ?_; clear hK K; try clear Q')
          refine wpList_nil ?_
          show Code.wp _ _ _ _ _
          -- stops at: cond
          refine wp_cond_false (rfl) ?_
          refine wp_skip ?_
          show Code.wp _ _ _ _ _
          refine wp_seq ?_
          try simp only [List.nil_append] at h12
          try simp only [List.cons_append] at h12
          try simp only [List.eraseIdx_zero] at h12
          try simp only [List.tail_cons] at h12
          try simp only [List.eraseIdx_cons_succ] at h12
          try simp only [List.eraseIdx_cons_zero] at h12
          try simp only [List.set_cons_succ] at h12
          try simp only [List.set_cons_zero] at h12
          try simp only [List.set_cons_succ] at h12
          try simp only [List.set_cons_zero] at h12
          try simp only [List.setIfInBounds_toArray] at h12
          try simp only [List.set_cons_succ] at h12
          try simp only [List.set_cons_zero] at h12
          try simp only [List.set_cons_succ] at h12
          try simp only [List.set_cons_zero] at h12
          refine wp_region_lit ?_
          -- stops at: eff:call (Go.Op.call {'callee': (Go.Callee.value (Go.Operand.func 23)), 'args': [], 'argTypes': []}) slot 48
          refine wpList_plainQ rfl (fun K Q' hK => ?_); go_simp
          refine (new_ok _ _ h12.fits).mono ?_
          rintro e wM2 ⟨bM2, rfl, hkM2, hbM2, hoM2⟩
          have hCM2 := h12.callnew hkM2 hbM2 hoM2 rfl
          refine hK _ _ ?_; clear hK K; try clear Q'
          iterate 1 (refine wpList_plainQ rfl (fun K Q' hK => ?_); go_simp; refine hK _ _ ?_; clear hK K; try clear Q')
          refine wpList_nil ?_
          show Code.wp _ _ _ _ _
          refine wp_seq ?_
          try simp only [List.nil_append] at hCM2
          try simp only [List.cons_append] at hCM2
          try simp only [List.eraseIdx_zero] at hCM2
          try simp only [List.tail_cons] at hCM2
          try simp only [List.eraseIdx_cons_succ] at hCM2
          try simp only [List.eraseIdx_cons_zero] at hCM2
          try simp only [List.set_cons_succ] at hCM2
          try simp only [List.set_cons_zero] at hCM2
          try simp only [List.set_cons_succ] at hCM2
          try simp only [List.set_cons_zero] at hCM2
          try simp only [List.setIfInBounds_toArray] at hCM2
          try simp only [List.set_cons_succ] at hCM2
          try simp only [List.set_cons_zero] at hCM2
          try simp only [List.set_cons_succ] at hCM2
          try simp only [List.set_cons_zero] at hCM2
          refine wp_region_lit ?_
          have c_4_0 := hCM2.cell 4 rfl 0 rfl
          have c_0_0 := hCM2.cell 0 rfl 0 rfl
          have c_0_1 := hCM2.cell 0 rfl 1 rfl
          iterate 3 (refine wpList_plainQ rfl (fun K Q' hK => ?_); go_simp; refine hK _ _ ?_; clear hK K; try clear Q')
          clear c_4_0 c_0_0 c_0_1
          -- stops at: eff:call (Go.Op.call {'callee': (Go.Callee.value (Go.Operand.func 24)), 'args': [(Go.Operand.tmp 49), (Go.Operand.tmp 50), (Go.Operand.tmp 51)], 'argTypes': [26, 36, 41] slot 52
          refine wpList_plainQ rfl (fun K Q' hK => ?_); go_simp
          refine (hinsert_ok (m := some bM2) x fx (hCM2.pre_at (i := 5) rfl) (by omega) hXz_12).mono ?_
          rintro e wXy ⟨rXy, HXy, rfl, hpXy, hXy⟩
          have sXy : Hp.size (Hp.insert x Xz) = _ := Hp.size_insert x oXz
          have st2 : IntKind.i64.wrap (0 + ((Hp.insC x Xz : Nat) : Int) + (0 + ((Hp.insD x Xz : Nat) : Int))) = 3 := by
            have h1 := PT.meldN_eq (.node x .nil .nil) Xz
            rw [show PT.size (.node x .nil .nil) = 1 from rfl, show PT.size Xz = sz from sXz, if_neg Hs.out] at h1
            unfold Hp.insC Hp.insD
            rw [h1]
            exact IntWalk.i64_in _ (by omega)
          obtain ⟨Xy, eXy⟩ : ∃ hp0, Hid (Hp.insert x Xz = hp0) := ⟨_, show _ = _ from rfl⟩
          rw [eXy.out] at hXy
          have oXy := hXy.ok
          rw [eXy.out, sXz] at sXy
          have h13 := hCM2.call_at (i := 5) rfl hpXy
          have htab_13 := htab_12.mono hpXy.le
          have ha_13 := ha_12.mono hpXy.le
          have hb_13 := hb_12.mono hpXy.le
          have hXp_13 := hXp_12.mono hpXy.le
          have hXq_13 := hXq_12.mono hpXy.le
          have hXz_13 := hXz_12.mono hpXy.le
          refine hK _ _ ?_; clear hK K; try clear Q'
          refine wpList_plainQ rfl (fun K Q' hK => ?_); go_simp
          refine h13.k_alloc (fun w14 h14 => ?_)
          refine hK _ _ ?_; clear hK K; try clear Q'
          have c_0 := h14.cell 6 rfl 0 rfl
          have f_0 := h14.free 6 rfl 0
          refine wpList_plainQ rfl (fun K Q' hK => ?_); go_simp
          clear c_0 f_0
          refine h14.k_set 6 rfl (fun w15 h15 => ?_)
          refine hK _ _ ?_; clear hK K; try clear Q'
          refine wpList_nil ?_
          show Code.wp _ _ _ _ _
          refine wp_seq ?_
          refine wp_seq ?_
          try simp only [List.nil_append] at h15
          try simp only [List.cons_append] at h15
          try simp only [List.eraseIdx_zero] at h15
          try simp only [List.tail_cons] at h15
          try simp only [List.eraseIdx_cons_succ] at h15
          try simp only [List.eraseIdx_cons_zero] at h15
          try simp only [List.set_cons_succ] at h15
          try simp only [List.set_cons_zero] at h15
          try simp only [List.set_cons_succ] at h15
          try simp only [List.set_cons_zero] at h15
          try simp only [List.setIfInBounds_toArray] at h15
          try simp only [List.set_cons_succ] at h15
          try simp only [List.set_cons_zero] at h15
          try simp only [List.set_cons_succ] at h15
          try simp only [List.set_cons_zero] at h15
          refine h15.region [0, 1, 2, 3, 4, 6] [(0, true), (2, true), (1, false), (3, false), (4, true), (5, true), (6, true), (7, true)] (by kernel_rfl) (by kernel_rfl) (fun w16 h16 => ?_)
          refine wpOrd_hide (fun _ _ d _ _ h => by cases d <;> exact h) (fun QR hQn hQp => ?_)
          simp only [ordOps, List.map_cons, List.map_nil, List.getD_cons_zero, List.getD_cons_succ]
          iterate 2 (refine wpOrd_quiet (v := ?_) rfl (fun _ _ _ => hQp _ _ _ _ _) ?_ ?_; rotate_left; (intro w' hS; have c_4_0 := hS.cell 4 rfl 0 rfl; (first | (go_simp; done) | (go_simp; with_reducible rfl))); simp only [Act.put, List.setIfInBounds_toArray, List.set_cons_zero, List.set_cons_succ])
          -- stops at: eff:call (Go.Op.call {'callee': (Go.Callee.value (Go.Operand.func 28)), 'args': [(Go.Operand.tmp 53)], 'argTypes': [36]}) slot 54
          refine wpOrd_effQ rfl (fun K Q' hK => ?_); go_simp
          refine (steps_ok _ _ bM2 _ _ (h16.pre_at (i := 5) rfl)).mono ?_
          rintro e wS2 ⟨rfl, hpS2⟩
          rw [st2]
          have h17 := h16.call_at (i := 5) rfl hpS2
          have htab_17 := htab_13.mono hpS2.le
          have ha_17 := ha_13.mono hpS2.le
          have hb_17 := hb_13.mono hpS2.le
          have hXp_17 := hXp_13.mono hpS2.le
          have hXq_17 := hXq_13.mono hpS2.le
          have hXz_17 := hXz_13.mono hpS2.le
          have hXy_17 := hXy.mono hpS2.le
          refine hK _ _ (h17.sat' hpS2.le [0, 1, 2, 3, 4, 6] (by kernel_rfl)) ?_; clear hK K; try clear Q'
          -- stops at: eff:call (Go.Op.call {'callee': (Go.Callee.value (Go.Operand.func 21)), 'args': [(Go.Operand.tmp 55)], 'argTypes': [26]}) slot 56
          refine wpOrd_effQ rfl (fun K Q' hK => ?_); go_simp
          refine (hsize_ok h17.fits (by omega) hXz_17).mono ?_
          rintro e wZ1 ⟨HZ1, rfl, hpZ1⟩
          rw [sXz]
          have h18 := h17.call0 hpZ1
          have htab_18 := htab_17.mono hpZ1.le
          have ha_18 := ha_17.mono hpZ1.le
          have hb_18 := hb_17.mono hpZ1.le
          have hXp_18 := hXp_17.mono hpZ1.le
          have hXq_18 := hXq_17.mono hpZ1.le
          have hXz_18 := hXz_17.mono hpZ1.le
          have hXy_18 := hXy_17.mono hpZ1.le
          refine hK _ _ (h18.sat' (GH.le.trans hpS2.le hpZ1.le) [0, 1, 2, 3, 4, 6] (by kernel_rfl)) ?_; clear hK K; try clear Q'
          iterate 4 (refine wpOrd_quiet (v := ?_) rfl (fun _ _ _ => hQp _ _ _ _ _) ?_ ?_; rotate_left; (intro w' hS; (first | (go_simp; done) | (go_simp; with_reducible rfl))); simp only [Act.put, List.setIfInBounds_toArray, List.set_cons_zero, List.set_cons_succ])
          refine wpOrd_nil (hQn _ _ ?_); clear hQn hQp QR
          show Code.wp _ _ _ _ _
          -- stops at: cond
          refine wp_cond_false (rfl) ?_
          refine wp_skip ?_
          show Code.wp _ _ _ _ _
          refine wp_seq ?_
          try simp only [List.nil_append] at h18
          try simp only [List.cons_append] at h18
          try simp only [List.eraseIdx_zero] at h18
          try simp only [List.tail_cons] at h18
          try simp only [List.eraseIdx_cons_succ] at h18
          try simp only [List.eraseIdx_cons_zero] at h18
          try simp only [List.set_cons_succ] at h18
          try simp only [List.set_cons_zero] at h18
          try simp only [List.set_cons_succ] at h18
          try simp only [List.set_cons_zero] at h18
          try simp only [List.setIfInBounds_toArray] at h18
          try simp only [List.set_cons_succ] at h18
          try simp only [List.set_cons_zero] at h18
          try simp only [List.set_cons_succ] at h18
          try simp only [List.set_cons_zero] at h18
          refine wp_region_lit ?_
          -- stops at: eff:call (Go.Op.call {'callee': (Go.Callee.value (Go.Operand.func 23)), 'args': [], 'argTypes': []}) slot 61
          refine wpList_plainQ rfl (fun K Q' hK => ?_); go_simp
          refine (new_ok _ _ h18.fits).mono ?_
          rintro e wM3 ⟨bM3, rfl, hkM3, hbM3, hoM3⟩
          have hCM3 := h18.callnew hkM3 hbM3 hoM3 rfl
          refine hK _ _ ?_; clear hK K; try clear Q'
          iterate 1 (refine wpList_plainQ rfl (fun K Q' hK => ?_); go_simp; refine hK _ _ ?_; clear hK K; try clear Q')
          refine wpList_nil ?_
          show Code.wp _ _ _ _ _
          refine wp_seq ?_
          try simp only [List.nil_append] at hCM3
          try simp only [List.cons_append] at hCM3
          try simp only [List.eraseIdx_zero] at hCM3
          try simp only [List.tail_cons] at hCM3
          try simp only [List.eraseIdx_cons_succ] at hCM3
          try simp only [List.eraseIdx_cons_zero] at hCM3
          try simp only [List.set_cons_succ] at hCM3
          try simp only [List.set_cons_zero] at hCM3
          try simp only [List.set_cons_succ] at hCM3
          try simp only [List.set_cons_zero] at hCM3
          try simp only [List.setIfInBounds_toArray] at hCM3
          try simp only [List.set_cons_succ] at hCM3
          try simp only [List.set_cons_zero] at hCM3
          try simp only [List.set_cons_succ] at hCM3
          try simp only [List.set_cons_zero] at hCM3
          refine wp_region_lit ?_
          have c_6_0 := hCM3.cell 6 rfl 0 rfl
          iterate 2 (refine wpList_plainQ rfl (fun K Q' hK => ?_); go_simp; refine hK _ _ ?_; clear hK K; try clear Q')
          clear c_6_0
          -- stops at: eff:call (Go.Op.call {'callee': (Go.Callee.value (Go.Operand.func 26)), 'args': [(Go.Operand.tmp 63), (Go.Operand.tmp 64)], 'argTypes': [26, 36]}) slot 65
          have hyc : 0 < (Hp.els Xy).length := by have : (Hp.els Xy).length = _ := sXy; omega
          obtain ⟨y, hmXy⟩ : ∃ y, Hp.min? Xy = some y := by
            cases h : Hp.min? Xy with
            | none => rw [Hp.min_none oXy h] at hyc; simp at hyc
            | some y => exact ⟨y, rfl⟩
          refine wpList_plainQ rfl (fun K Q' hK => ?_); go_simp
          refine (hpop_ok (m := some bM3) (hCM3.pre_at (i := 7) rfl) (by omega) hXy_18).mono ?_
          rintro e wXw ⟨rXw, HXw, rfl, hpXw, hXw⟩
          simp only [hmXy, Option.isSome_some]
          have sXw : Hp.size (Hp.pop Xy) = sz := by
            have h1 := (Hp.min_perm oXy hmXy).length_eq
            have h2 : (Hp.els Xy).length = _ := sXy
            show (Hp.els (Hp.pop Xy)).length = _
            simp at h1
            omega
          obtain ⟨pn, hpn⟩ : ∃ n, Hid (PT.popN Xy = n) := ⟨_, show _ = _ from rfl⟩
          have hpl : pn ≤ sz := by
            have h1 := PT.popN_le Xy oXy.1
            rw [hpn.out, show PT.size (PT.pop Xy) = sz from sXw] at h1
            exact h1
          have st3 : IntKind.i64.wrap (0 + ((Hp.popC Xy : Nat) : Int) + (0 + ((Hp.popD Xy : Nat) : Int))) = 2 * (pn : Int) := by
            unfold Hp.popC Hp.popD
            rw [hpn.out, show 0 + (pn : Int) + (0 + (pn : Int)) = 2 * (pn : Int) by omega]
            exact IntWalk.i64_in _ (by omega)
          have e2 : IntKind.i64.wrap (2 * (sz : Int)) = 2 * (sz : Int) := IntWalk.i64_in _ (by omega)
          have dl : decide ((2 : Int) * (pn : Int) ≤ 2 * (sz : Int)) = true := decide_eq_true (by omega)
          have dl2 : (2 : Int) * (pn : Int) ≤ 2 * (sz : Int) := by omega
          obtain ⟨Xw, eXw⟩ : ∃ hp0, Hid (Hp.pop Xy = hp0) := ⟨_, show _ = _ from rfl⟩
          rw [eXw.out] at hXw
          have oXw := hXw.ok
          rw [eXw.out] at sXw
          have h19 := hCM3.call_at (i := 7) rfl hpXw
          have htab_19 := htab_18.mono hpXw.le
          have ha_19 := ha_18.mono hpXw.le
          have hb_19 := hb_18.mono hpXw.le
          have hXp_19 := hXp_18.mono hpXw.le
          have hXq_19 := hXq_18.mono hpXw.le
          have hXz_19 := hXz_18.mono hpXw.le
          have hXy_19 := hXy_18.mono hpXw.le
          refine hK _ _ ?_; clear hK K; try clear Q'
          iterate 3 (refine wpList_plainQ rfl (fun K Q' hK => ?_); go_simp; refine hK _ _ ?_; clear hK K; try clear Q')
          refine wpList_plainQ rfl (fun K Q' hK => ?_); go_simp
          refine h19.k_alloc (fun w20 h20 => ?_)
          refine hK _ _ ?_; clear hK K; try clear Q'
          have c_0 := h20.cell 8 rfl 0 rfl
          have f_0 := h20.free 8 rfl 0
          refine wpList_plainQ rfl (fun K Q' hK => ?_); go_simp
          clear c_0 f_0
          refine h20.k_set 8 rfl (fun w21 h21 => ?_)
          refine hK _ _ ?_; clear hK K; try clear Q'
          iterate 1 (refine wpList_plainQ rfl (fun K Q' hK => ?_); go_simp; refine hK _ _ ?_; clear hK K; try clear Q')
          refine wpList_nil ?_
          show Code.wp _ _ _ _ _
          refine wp_seq ?_
          try simp only [List.nil_append] at h21
          try simp only [List.cons_append] at h21
          try simp only [List.eraseIdx_zero] at h21
          try simp only [List.tail_cons] at h21
          try simp only [List.eraseIdx_cons_succ] at h21
          try simp only [List.eraseIdx_cons_zero] at h21
          try simp only [List.set_cons_succ] at h21
          try simp only [List.set_cons_zero] at h21
          try simp only [List.set_cons_succ] at h21
          try simp only [List.set_cons_zero] at h21
          try simp only [List.setIfInBounds_toArray] at h21
          try simp only [List.set_cons_succ] at h21
          try simp only [List.set_cons_zero] at h21
          try simp only [List.set_cons_succ] at h21
          try simp only [List.set_cons_zero] at h21
          refine h21.region [0, 1, 2, 3, 4, 5, 6, 8] [(0, true), (1, true), (2, true), (4, true), (5, true), (6, true), (7, true), (8, true), (3, false), (9, true), (10, true), (11, true), (12, true), (14, true), (13, false), (15, false), (16, true), (17, true), (18, true), (19, true)] (by kernel_rfl) (by kernel_rfl) (fun w22 h22 => ?_)
          refine wpOrd_hide (fun _ _ d _ _ h => by cases d <;> exact h) (fun QR hQn hQp => ?_)
          simp only [ordOps, List.map_cons, List.map_nil, List.getD_cons_zero, List.getD_cons_succ]
          iterate 2 (refine wpOrd_quiet (v := ?_) rfl (fun _ _ _ => hQp _ _ _ _ _) ?_ ?_; rotate_left; (intro w' hS; (first | (go_simp; done) | (go_simp; with_reducible rfl))); simp only [Act.put, List.setIfInBounds_toArray, List.set_cons_zero, List.set_cons_succ])
          iterate 6 (first | (refine wpOrd_skip rfl (fun _ _ _ => hQp _ _ _ _ _) ?_; simp only [Act.put, List.setIfInBounds_toArray, List.set_cons_zero, List.set_cons_succ]) | (refine wpOrd_quiet (v := ?_) rfl (fun _ _ _ => hQp _ _ _ _ _) ?_ ?_; rotate_left; (intro w' hS; have c_8_0 := hS.cell 7 rfl 0 rfl; (first | (go_simp; done) | (go_simp; with_reducible rfl))); simp only [Act.put, List.setIfInBounds_toArray, List.set_cons_zero, List.set_cons_succ]))
          -- stops at: eff:call (Go.Op.call {'callee': (Go.Callee.value (Go.Operand.func 21)), 'args': [(Go.Operand.tmp 70)], 'argTypes': [26]}) slot 71
          refine wpOrd_effQ rfl (fun K Q' hK => ?_); go_simp
          refine (hsize_ok h22.fits (by omega) hXw).mono ?_
          rintro e wZ2 ⟨HZ2, rfl, hpZ2⟩
          rw [sXw]
          have h23 := h22.call0 hpZ2
          have htab_23 := htab_19.mono hpZ2.le
          have ha_23 := ha_19.mono hpZ2.le
          have hb_23 := hb_19.mono hpZ2.le
          have hXp_23 := hXp_19.mono hpZ2.le
          have hXq_23 := hXq_19.mono hpZ2.le
          have hXz_23 := hXz_19.mono hpZ2.le
          have hXy_23 := hXy_19.mono hpZ2.le
          have hXw_23 := hXw.mono hpZ2.le
          refine hK _ _ (h23.sat' hpZ2.le [0, 1, 2, 3, 4, 5, 6, 8] (by kernel_rfl)) ?_; clear hK K; try clear Q'
          iterate 1 (first | (refine wpOrd_skip rfl (fun _ _ _ => hQp _ _ _ _ _) ?_; simp only [Act.put, List.setIfInBounds_toArray, List.set_cons_zero, List.set_cons_succ]) | (refine wpOrd_quiet (v := ?_) rfl (fun _ _ _ => hQp _ _ _ _ _) ?_ ?_; rotate_left; (intro w' hS; (first | (go_simp; done) | (go_simp; with_reducible rfl))); simp only [Act.put, List.setIfInBounds_toArray, List.set_cons_zero, List.set_cons_succ]))
          iterate 2 (refine wpOrd_quiet (v := ?_) rfl (fun _ _ _ => hQp _ _ _ _ _) ?_ ?_; rotate_left; (intro w' hS; (first | (go_simp; done) | (go_simp; with_reducible rfl))); simp only [Act.put, List.setIfInBounds_toArray, List.set_cons_zero, List.set_cons_succ])
          iterate 2 (first | (refine wpOrd_skip rfl (fun _ _ _ => hQp _ _ _ _ _) ?_; simp only [Act.put, List.setIfInBounds_toArray, List.set_cons_zero, List.set_cons_succ]) | (refine wpOrd_quiet (v := ?_) rfl (fun _ _ _ => hQp _ _ _ _ _) ?_ ?_; rotate_left; (intro w' hS; have c_8_0 := hS.cell 7 rfl 0 rfl; (first | (go_simp; done) | (go_simp; with_reducible rfl))); simp only [Act.put, List.setIfInBounds_toArray, List.set_cons_zero, List.set_cons_succ]))
          -- stops at: eff:call (Go.Op.call {'callee': (Go.Callee.value (Go.Operand.func 28)), 'args': [(Go.Operand.tmp 80)], 'argTypes': [36]}) slot 81
          refine wpOrd_effQ rfl (fun K Q' hK => ?_); go_simp
          refine (steps_ok _ _ bM3 _ _ (h23.pre_at (i := 7) rfl)).mono ?_
          rintro e wS3 ⟨rfl, hpS3⟩
          rw [st3]
          have h24 := h23.call_at (i := 7) rfl hpS3
          have htab_24 := htab_23.mono hpS3.le
          have ha_24 := ha_23.mono hpS3.le
          have hb_24 := hb_23.mono hpS3.le
          have hXp_24 := hXp_23.mono hpS3.le
          have hXq_24 := hXq_23.mono hpS3.le
          have hXz_24 := hXz_23.mono hpS3.le
          have hXy_24 := hXy_23.mono hpS3.le
          have hXw_24 := hXw_23.mono hpS3.le
          refine hK _ _ (h24.sat' (GH.le.trans hpZ2.le hpS3.le) [0, 1, 2, 3, 4, 5, 6, 8] (by kernel_rfl)) ?_; clear hK K; try clear Q'
          -- stops at: eff:call (Go.Op.call {'callee': (Go.Callee.value (Go.Operand.func 21)), 'args': [(Go.Operand.tmp 82)], 'argTypes': [26]}) slot 83
          refine wpOrd_effQ rfl (fun K Q' hK => ?_); go_simp
          refine (hsize_ok h24.fits (by omega) hXw_24).mono ?_
          rintro e wZ3 ⟨HZ3, rfl, hpZ3⟩
          rw [sXw]
          have h25 := h24.call0 hpZ3
          have htab_25 := htab_24.mono hpZ3.le
          have ha_25 := ha_24.mono hpZ3.le
          have hb_25 := hb_24.mono hpZ3.le
          have hXp_25 := hXp_24.mono hpZ3.le
          have hXq_25 := hXq_24.mono hpZ3.le
          have hXz_25 := hXz_24.mono hpZ3.le
          have hXy_25 := hXy_24.mono hpZ3.le
          have hXw_25 := hXw_24.mono hpZ3.le
          refine hK _ _ (h25.sat' (GH.le.trans (GH.le.trans hpZ2.le hpS3.le) hpZ3.le) [0, 1, 2, 3, 4, 5, 6, 8] (by kernel_rfl)) ?_; clear hK K; try clear Q'
          iterate 2 (first | (refine wpOrd_skip rfl (fun _ _ _ => hQp _ _ _ _ _) ?_; simp only [Act.put, List.setIfInBounds_toArray, List.set_cons_zero, List.set_cons_succ]) | (refine wpOrd_quiet (v := ?_) rfl (fun _ _ _ => hQp _ _ _ _ _) ?_ ?_; rotate_left; (intro w' hS; (first | (go_simp; done) | (go_simp; with_reducible rfl))); simp only [Act.put, List.setIfInBounds_toArray, List.set_cons_zero, List.set_cons_succ]))
          iterate 2 (refine wpOrd_quiet (v := ?_) rfl (fun _ _ _ => hQp _ _ _ _ _) ?_ ?_; rotate_left; (intro w' hS; (first | (go_simp; done) | (go_simp; with_reducible rfl))); simp only [Act.put, List.setIfInBounds_toArray, List.set_cons_zero, List.set_cons_succ])
          refine wpOrd_nil (hQn _ _ ?_); clear hQn hQp QR
          show Code.wp _ _ _ _ _
          -- stops at: ret
          refine wp_ret ?_
          go_ret
          exact ⟨rfl, h25.post.keep⟩
      · have z1 : ((la : Int) == 0) = false := beq_eq_false_iff_ne.2 (by omega)
        by_cases h1 : lb = 0
        · have z2 : ((lb : Int) == 0) = true := by simp [h1]
          have hsz0 : ¬ sz = 0 := by have := hsz.out; omega
          have Hz : Hid (la = 0 ∨ lb = 0) := .inr h1
          have Hs : Hid (¬ (1 = 0 ∨ sz = 0)) := fun h => h.elim (by omega) hsz0
          have hmn : min (sz : Int) 1 = 1 := by omega
          clear h0 h1
          go_enter Tryd.func5, Tryd.ntmps5
          have h0 := St.start hpre
          refine wp_seq ?_
          try simp only [List.nil_append] at h0
          try simp only [List.cons_append] at h0
          try simp only [List.eraseIdx_zero] at h0
          try simp only [List.tail_cons] at h0
          try simp only [List.eraseIdx_cons_succ] at h0
          try simp only [List.eraseIdx_cons_zero] at h0
          try simp only [List.set_cons_succ] at h0
          try simp only [List.set_cons_zero] at h0
          try simp only [List.set_cons_succ] at h0
          try simp only [List.set_cons_zero] at h0
          try simp only [List.setIfInBounds_toArray] at h0
          try simp only [List.set_cons_succ] at h0
          try simp only [List.set_cons_zero] at h0
          try simp only [List.set_cons_succ] at h0
          try simp only [List.set_cons_zero] at h0
          refine wp_region_lit ?_
          refine wpList_plainQ rfl (fun K Q' hK => ?_); go_simp
          refine h0.k_alloc (fun w1 h1 => ?_)
          refine hK _ _ ?_; clear hK K; try clear Q'
          iterate 1 (refine wpList_plainQ rfl (fun K Q' hK => ?_); go_simp; refine hK _ _ ?_; clear hK K; try clear Q')
          refine wpList_nil ?_
          show Code.wp _ _ _ _ _
          refine wp_seq ?_
          try simp only [List.nil_append] at h1
          try simp only [List.cons_append] at h1
          try simp only [List.eraseIdx_zero] at h1
          try simp only [List.tail_cons] at h1
          try simp only [List.eraseIdx_cons_succ] at h1
          try simp only [List.eraseIdx_cons_zero] at h1
          try simp only [List.set_cons_succ] at h1
          try simp only [List.set_cons_zero] at h1
          try simp only [List.set_cons_succ] at h1
          try simp only [List.set_cons_zero] at h1
          try simp only [List.setIfInBounds_toArray] at h1
          try simp only [List.set_cons_succ] at h1
          try simp only [List.set_cons_zero] at h1
          try simp only [List.set_cons_succ] at h1
          try simp only [List.set_cons_zero] at h1
          refine wp_region_lit ?_
          -- stops at: eff:call (Go.Op.call {'callee': (Go.Callee.value (Go.Operand.func 14)), 'args': [], 'argTypes': []}) slot 16
          refine wpList_plainQ rfl (fun K Q' hK => ?_); go_simp
          refine (awake_ok H _ h1.fits htab).mono ?_
          rintro e wAw ⟨HAw, rfl, hpAw⟩
          have h2 := h1.call0 hpAw
          have htab_2 := htab.mono hpAw.le
          have ha_2 := ha.mono hpAw.le
          have hb_2 := hb.mono hpAw.le
          refine hK _ _ ?_; clear hK K; try clear Q'
          iterate 1 (refine wpList_plainQ rfl (fun K Q' hK => ?_); go_simp; refine hK _ _ ?_; clear hK K; try clear Q')
          refine wpList_nil ?_
          show Code.wp _ _ _ _ _
          refine wp_seq ?_
          refine wp_seq ?_
          try simp only [List.nil_append] at h2
          try simp only [List.cons_append] at h2
          try simp only [List.eraseIdx_zero] at h2
          try simp only [List.tail_cons] at h2
          try simp only [List.eraseIdx_cons_succ] at h2
          try simp only [List.eraseIdx_cons_zero] at h2
          try simp only [List.set_cons_succ] at h2
          try simp only [List.set_cons_zero] at h2
          try simp only [List.set_cons_succ] at h2
          try simp only [List.set_cons_zero] at h2
          try simp only [List.setIfInBounds_toArray] at h2
          try simp only [List.set_cons_succ] at h2
          try simp only [List.set_cons_zero] at h2
          try simp only [List.set_cons_succ] at h2
          try simp only [List.set_cons_zero] at h2
          refine wp_region_lit ?_
          iterate 2 (refine wpList_plainQ rfl (fun K Q' hK => ?_); go_simp; refine hK _ _ ?_; clear hK K; try clear Q')
          refine wpList_nil ?_
          show Code.wp _ _ _ _ _
          -- stops at: cond
          refine wp_cond_false (rfl) ?_
          refine wp_skip ?_
          show Code.wp _ _ _ _ _
          refine wp_seq ?_
          refine wp_seq ?_
          refine wp_region_lit ?_
          iterate 4 (refine wpList_plainQ rfl (fun K Q' hK => ?_); go_simp; refine hK _ _ ?_; clear hK K; try clear Q')
          first | go_skip | (iterate 3 (refine wpList_stepQ (o := { dst := _, op := _, type := _, pos := _, after := _, guard := some (3, false) }) (fun K Q' hK => ?_); go_simp; refine hK _ _ ?_; clear hK K; try clear Q')) | skip
          iterate 1 (refine wpList_plainQ rfl (fun K Q' hK => ?_); go_simp; refine hK _ _ ?_; clear hK K; try clear Q')
          refine wpList_nil ?_
          show Code.wp _ _ _ _ _
          -- stops at: cond
          refine wp_cond_false (rfl) ?_
          refine wp_skip ?_
          show Code.wp _ _ _ _ _
          refine wp_seq ?_
          refine wp_region_lit ?_
          iterate 1 (refine wpList_plainQ rfl (fun K Q' hK => ?_); go_simp; refine hK _ _ ?_; clear hK K; try clear Q')
          -- stops at: eff:call (Go.Op.call {'callee': (Go.Callee.value (Go.Operand.func 15)), 'args': [(Go.Operand.const (Go.Value.pointer none)), (Go.Operand.tmp 27)], 'argTypes': [36, 22]}) slot 28
          refine wpList_plainQ rfl (fun K Q' hK => ?_); go_simp
          refine (hof_ok (m := none) (xs := a) fa h2.pre (by omega) ha_2).mono ?_
          rintro e wXp ⟨rXp, HXp, rfl, hpXp, hXp⟩
          obtain ⟨Xp, eXp⟩ : ∃ hp0, Hid (Hp.ofL a = hp0) := ⟨_, show _ = _ from rfl⟩
          rw [eXp.out] at hXp
          have oXp := hXp.ok
          have pXp : Hid ((Hp.els Xp).Perm (a)) := by rw [← eXp.out]; exact Hp.els_ofL _
          have sXp : Hp.size Xp = (a).length := pXp.out.length_eq
          have h3 := h2.call0 hpXp
          have htab_3 := htab_2.mono hpXp.le
          have ha_3 := ha_2.mono hpXp.le
          have hb_3 := hb_2.mono hpXp.le
          refine hK _ _ ?_; clear hK K; try clear Q'
          refine wpList_plainQ rfl (fun K Q' hK => ?_); go_simp
          refine h3.k_alloc (fun w4 h4 => ?_)
          refine hK _ _ ?_; clear hK K; try clear Q'
          have c_0 := h4.cell 1 rfl 0 rfl
          have f_0 := h4.free 1 rfl 0
          refine wpList_plainQ rfl (fun K Q' hK => ?_); go_simp
          clear c_0 f_0
          refine h4.k_set 1 rfl (fun w5 h5 => ?_)
          refine hK _ _ ?_; clear hK K; try clear Q'
          refine wpList_nil ?_
          show Code.wp _ _ _ _ _
          refine wp_seq ?_
          try simp only [List.nil_append] at h5
          try simp only [List.cons_append] at h5
          try simp only [List.eraseIdx_zero] at h5
          try simp only [List.tail_cons] at h5
          try simp only [List.eraseIdx_cons_succ] at h5
          try simp only [List.eraseIdx_cons_zero] at h5
          try simp only [List.set_cons_succ] at h5
          try simp only [List.set_cons_zero] at h5
          try simp only [List.set_cons_succ] at h5
          try simp only [List.set_cons_zero] at h5
          try simp only [List.setIfInBounds_toArray] at h5
          try simp only [List.set_cons_succ] at h5
          try simp only [List.set_cons_zero] at h5
          try simp only [List.set_cons_succ] at h5
          try simp only [List.set_cons_zero] at h5
          refine wp_region_lit ?_
          iterate 1 (refine wpList_plainQ rfl (fun K Q' hK => ?_); go_simp; refine hK _ _ ?_; clear hK K; try clear Q')
          -- stops at: eff:call (Go.Op.call {'callee': (Go.Callee.value (Go.Operand.func 15)), 'args': [(Go.Operand.const (Go.Value.pointer none)), (Go.Operand.tmp 29)], 'argTypes': [36, 22]}) slot 30
          refine wpList_plainQ rfl (fun K Q' hK => ?_); go_simp
          refine (hof_ok (m := none) (xs := b) fb h5.pre (by omega) hb_3).mono ?_
          rintro e wXq ⟨rXq, HXq, rfl, hpXq, hXq⟩
          obtain ⟨Xq, eXq⟩ : ∃ hp0, Hid (Hp.ofL b = hp0) := ⟨_, show _ = _ from rfl⟩
          rw [eXq.out] at hXq
          have oXq := hXq.ok
          have pXq : Hid ((Hp.els Xq).Perm (b)) := by rw [← eXq.out]; exact Hp.els_ofL _
          have sXq : Hp.size Xq = (b).length := pXq.out.length_eq
          have h6 := h5.call0 hpXq
          have htab_6 := htab_3.mono hpXq.le
          have ha_6 := ha_3.mono hpXq.le
          have hb_6 := hb_3.mono hpXq.le
          have hXp_6 := hXp.mono hpXq.le
          refine hK _ _ ?_; clear hK K; try clear Q'
          refine wpList_plainQ rfl (fun K Q' hK => ?_); go_simp
          refine h6.k_alloc (fun w7 h7 => ?_)
          refine hK _ _ ?_; clear hK K; try clear Q'
          have c_0 := h7.cell 2 rfl 0 rfl
          have f_0 := h7.free 2 rfl 0
          refine wpList_plainQ rfl (fun K Q' hK => ?_); go_simp
          clear c_0 f_0
          refine h7.k_set 2 rfl (fun w8 h8 => ?_)
          refine hK _ _ ?_; clear hK K; try clear Q'
          refine wpList_nil ?_
          show Code.wp _ _ _ _ _
          refine wp_seq ?_
          try simp only [List.nil_append] at h8
          try simp only [List.cons_append] at h8
          try simp only [List.eraseIdx_zero] at h8
          try simp only [List.tail_cons] at h8
          try simp only [List.eraseIdx_cons_succ] at h8
          try simp only [List.eraseIdx_cons_zero] at h8
          try simp only [List.set_cons_succ] at h8
          try simp only [List.set_cons_zero] at h8
          try simp only [List.set_cons_succ] at h8
          try simp only [List.set_cons_zero] at h8
          try simp only [List.setIfInBounds_toArray] at h8
          try simp only [List.set_cons_succ] at h8
          try simp only [List.set_cons_zero] at h8
          try simp only [List.set_cons_succ] at h8
          try simp only [List.set_cons_zero] at h8
          refine wp_region_lit ?_
          -- stops at: eff:call (Go.Op.call {'callee': (Go.Callee.value (Go.Operand.func 23)), 'args': [], 'argTypes': []}) slot 31
          rw [hla.out] at sXp
          rw [hlb.out] at sXq
          refine wpList_plainQ rfl (fun K Q' hK => ?_); go_simp
          refine (new_ok _ _ h8.fits).mono ?_
          rintro e wM1 ⟨bM1, rfl, hkM1, hbM1, hoM1⟩
          have hCM1 := h8.callnew hkM1 hbM1 hoM1 rfl
          refine hK _ _ ?_; clear hK K; try clear Q'
          iterate 1 (refine wpList_plainQ rfl (fun K Q' hK => ?_); go_simp; refine hK _ _ ?_; clear hK K; try clear Q')
          refine wpList_nil ?_
          show Code.wp _ _ _ _ _
          refine wp_seq ?_
          try simp only [List.nil_append] at hCM1
          try simp only [List.cons_append] at hCM1
          try simp only [List.eraseIdx_zero] at hCM1
          try simp only [List.tail_cons] at hCM1
          try simp only [List.eraseIdx_cons_succ] at hCM1
          try simp only [List.eraseIdx_cons_zero] at hCM1
          try simp only [List.set_cons_succ] at hCM1
          try simp only [List.set_cons_zero] at hCM1
          try simp only [List.set_cons_succ] at hCM1
          try simp only [List.set_cons_zero] at hCM1
          try simp only [List.setIfInBounds_toArray] at hCM1
          try simp only [List.set_cons_succ] at hCM1
          try simp only [List.set_cons_zero] at hCM1
          try simp only [List.set_cons_succ] at hCM1
          try simp only [List.set_cons_zero] at hCM1
          refine wp_region_lit ?_
          have c_1_0 := hCM1.cell 1 rfl 0 rfl
          have c_2_0 := hCM1.cell 2 rfl 0 rfl
          iterate 3 (refine wpList_plainQ rfl (fun K Q' hK => ?_); go_simp; refine hK _ _ ?_; clear hK K; try clear Q')
          clear c_1_0 c_2_0
          -- stops at: eff:call (Go.Op.call {'callee': (Go.Callee.value (Go.Operand.func 16)), 'args': [(Go.Operand.tmp 32), (Go.Operand.tmp 33), (Go.Operand.tmp 34)], 'argTypes': [26, 36, 26] slot 35
          refine wpList_plainQ rfl (fun K Q' hK => ?_); go_simp
          refine (hmeld_ok (m := some bM1) (hCM1.pre_at (i := 3) rfl) (by omega) hXp_6 hXq).mono ?_
          rintro e wXz ⟨rXz, HXz, rfl, hpXz, hXz⟩
          have sXz : Hp.size (Hp.meld Xp Xq) = _ := Hp.size_meld oXp oXq
          have st1 : IntKind.i64.wrap (0 + ((Hp.meldC Xp Xq : Nat) : Int) + (0 + ((Hp.meldD Xp Xq : Nat) : Int))) = 0 := by
            have h1 := PT.meldN_eq Xp Xq
            rw [show PT.size Xp = la from sXp, show PT.size Xq = lb from sXq, if_pos Hz.out] at h1
            unfold Hp.meldC Hp.meldD
            rw [h1]
            exact IntWalk.i64_in _ (by omega)
          obtain ⟨Xz, eXz⟩ : ∃ hp0, Hid (Hp.meld Xp Xq = hp0) := ⟨_, show _ = _ from rfl⟩
          rw [eXz.out] at hXz
          have oXz := hXz.ok
          rw [eXz.out, sXp, sXq, hsz.out] at sXz
          have h9 := hCM1.call_at (i := 3) rfl hpXz
          have htab_9 := htab_6.mono hpXz.le
          have ha_9 := ha_6.mono hpXz.le
          have hb_9 := hb_6.mono hpXz.le
          have hXp_9 := hXp_6.mono hpXz.le
          have hXq_9 := hXq.mono hpXz.le
          refine hK _ _ ?_; clear hK K; try clear Q'
          refine wpList_plainQ rfl (fun K Q' hK => ?_); go_simp
          refine h9.k_alloc (fun w10 h10 => ?_)
          refine hK _ _ ?_; clear hK K; try clear Q'
          have c_0 := h10.cell 4 rfl 0 rfl
          have f_0 := h10.free 4 rfl 0
          refine wpList_plainQ rfl (fun K Q' hK => ?_); go_simp
          clear c_0 f_0
          refine h10.k_set 4 rfl (fun w11 h11 => ?_)
          refine hK _ _ ?_; clear hK K; try clear Q'
          refine wpList_nil ?_
          show Code.wp _ _ _ _ _
          refine wp_seq ?_
          try simp only [List.nil_append] at h11
          try simp only [List.cons_append] at h11
          try simp only [List.eraseIdx_zero] at h11
          try simp only [List.tail_cons] at h11
          try simp only [List.eraseIdx_cons_succ] at h11
          try simp only [List.eraseIdx_cons_zero] at h11
          try simp only [List.set_cons_succ] at h11
          try simp only [List.set_cons_zero] at h11
          try simp only [List.set_cons_succ] at h11
          try simp only [List.set_cons_zero] at h11
          try simp only [List.setIfInBounds_toArray] at h11
          try simp only [List.set_cons_succ] at h11
          try simp only [List.set_cons_zero] at h11
          try simp only [List.set_cons_succ] at h11
          try simp only [List.set_cons_zero] at h11
          refine wp_region_lit ?_
          iterate 1 (refine wpList_plainQ rfl (fun K Q' hK => ?_); go_simp; refine hK _ _ ?_; clear hK K; try clear Q')
          refine wpList_nil ?_
          show Code.wp _ _ _ _ _
          refine wp_seq ?_
          refine wp_seq ?_
          refine wp_region_lit ?_
          iterate 4 (refine wpList_plainQ rfl (fun K Q' hK => ?_); go_simp; refine hK _ _ ?_; clear hK K; try clear Q')
          first | go_skip | (iterate 3 (refine wpList_stepQ (o := { dst := _, op := _, type := _, pos := _, after := _, guard := some (3, false) }) (fun K Q' hK => ?_); go_simp; refine hK _ _ ?_; clear hK K; try clear Q')) | skip
          iterate 1 (refine wpList_plainQ rfl (fun K Q' hK => ?_); go_simp; refine hK _ _ ?_; clear hK K; try clear Q')
          refine wpList_nil ?_
          show Code.wp _ _ _ _ _
          -- stops at: cond
          refine wp_cond_true (rfl) ?_
          refine wp_region_lit ?_
          iterate 1 (refine wpList_plainQ rfl (fun K Q' hK => ?_); go_simp; refine hK _ _ ?_; clear hK K; try clear Q')
          refine wpList_nil ?_
          show Code.wp _ _ _ _ _
          refine wp_seq ?_
          refine wp_seq ?_
          refine wp_region_lit ?_
          iterate 1 (refine wpList_plainQ rfl (fun K Q' hK => ?_); go_simp; refine hK _ _ ?_; clear hK K; try clear Q')
          -- stops at: eff:call (Go.Op.call {'callee': (Go.Callee.value (Go.Operand.func 28)), 'args': [(Go.Operand.tmp 44)], 'argTypes': [36]}) slot 45
          refine wpList_plainQ rfl (fun K Q' hK => ?_); go_simp
          refine (steps_ok _ _ bM1 _ _ (h11.pre_at (i := 3) rfl)).mono ?_
          rintro e wS1 ⟨rfl, hpS1⟩
          rw [st1]
          have h12 := h11.call_at (i := 3) rfl hpS1
          have htab_12 := htab_9.mono hpS1.le
          have ha_12 := ha_9.mono hpS1.le
          have hb_12 := hb_9.mono hpS1.le
          have hXp_12 := hXp_9.mono hpS1.le
          have hXq_12 := hXq_9.mono hpS1.le
          have hXz_12 := hXz.mono hpS1.le
          refine hK _ _ ?_; clear hK K; try clear Q'
          iterate 2 (refine wpList_plainQ rfl (fun K Q' hK => ?_); go_simp; refine hK _ _ ?_; clear hK K; try clear Q')
          refine wpList_nil ?_
          show Code.wp _ _ _ _ _
          -- stops at: cond
          refine wp_cond_false (rfl) ?_
          refine wp_skip ?_
          show Code.wp _ _ _ _ _
          refine wp_seq ?_
          try simp only [List.nil_append] at h12
          try simp only [List.cons_append] at h12
          try simp only [List.eraseIdx_zero] at h12
          try simp only [List.tail_cons] at h12
          try simp only [List.eraseIdx_cons_succ] at h12
          try simp only [List.eraseIdx_cons_zero] at h12
          try simp only [List.set_cons_succ] at h12
          try simp only [List.set_cons_zero] at h12
          try simp only [List.set_cons_succ] at h12
          try simp only [List.set_cons_zero] at h12
          try simp only [List.setIfInBounds_toArray] at h12
          try simp only [List.set_cons_succ] at h12
          try simp only [List.set_cons_zero] at h12
          try simp only [List.set_cons_succ] at h12
          try simp only [List.set_cons_zero] at h12
          refine wp_region_lit ?_
          -- stops at: eff:call (Go.Op.call {'callee': (Go.Callee.value (Go.Operand.func 23)), 'args': [], 'argTypes': []}) slot 48
          refine wpList_plainQ rfl (fun K Q' hK => ?_); go_simp
          refine (new_ok _ _ h12.fits).mono ?_
          rintro e wM2 ⟨bM2, rfl, hkM2, hbM2, hoM2⟩
          have hCM2 := h12.callnew hkM2 hbM2 hoM2 rfl
          refine hK _ _ ?_; clear hK K; try clear Q'
          iterate 1 (refine wpList_plainQ rfl (fun K Q' hK => ?_); go_simp; refine hK _ _ ?_; clear hK K; try clear Q')
          refine wpList_nil ?_
          show Code.wp _ _ _ _ _
          refine wp_seq ?_
          try simp only [List.nil_append] at hCM2
          try simp only [List.cons_append] at hCM2
          try simp only [List.eraseIdx_zero] at hCM2
          try simp only [List.tail_cons] at hCM2
          try simp only [List.eraseIdx_cons_succ] at hCM2
          try simp only [List.eraseIdx_cons_zero] at hCM2
          try simp only [List.set_cons_succ] at hCM2
          try simp only [List.set_cons_zero] at hCM2
          try simp only [List.set_cons_succ] at hCM2
          try simp only [List.set_cons_zero] at hCM2
          try simp only [List.setIfInBounds_toArray] at hCM2
          try simp only [List.set_cons_succ] at hCM2
          try simp only [List.set_cons_zero] at hCM2
          try simp only [List.set_cons_succ] at hCM2
          try simp only [List.set_cons_zero] at hCM2
          refine wp_region_lit ?_
          have c_4_0 := hCM2.cell 4 rfl 0 rfl
          have c_0_0 := hCM2.cell 0 rfl 0 rfl
          have c_0_1 := hCM2.cell 0 rfl 1 rfl
          iterate 3 (refine wpList_plainQ rfl (fun K Q' hK => ?_); go_simp; refine hK _ _ ?_; clear hK K; try clear Q')
          clear c_4_0 c_0_0 c_0_1
          -- stops at: eff:call (Go.Op.call {'callee': (Go.Callee.value (Go.Operand.func 24)), 'args': [(Go.Operand.tmp 49), (Go.Operand.tmp 50), (Go.Operand.tmp 51)], 'argTypes': [26, 36, 41] slot 52
          refine wpList_plainQ rfl (fun K Q' hK => ?_); go_simp
          refine (hinsert_ok (m := some bM2) x fx (hCM2.pre_at (i := 5) rfl) (by omega) hXz_12).mono ?_
          rintro e wXy ⟨rXy, HXy, rfl, hpXy, hXy⟩
          have sXy : Hp.size (Hp.insert x Xz) = _ := Hp.size_insert x oXz
          have st2 : IntKind.i64.wrap (0 + ((Hp.insC x Xz : Nat) : Int) + (0 + ((Hp.insD x Xz : Nat) : Int))) = 3 := by
            have h1 := PT.meldN_eq (.node x .nil .nil) Xz
            rw [show PT.size (.node x .nil .nil) = 1 from rfl, show PT.size Xz = sz from sXz, if_neg Hs.out] at h1
            unfold Hp.insC Hp.insD
            rw [h1]
            exact IntWalk.i64_in _ (by omega)
          obtain ⟨Xy, eXy⟩ : ∃ hp0, Hid (Hp.insert x Xz = hp0) := ⟨_, show _ = _ from rfl⟩
          rw [eXy.out] at hXy
          have oXy := hXy.ok
          rw [eXy.out, sXz] at sXy
          have h13 := hCM2.call_at (i := 5) rfl hpXy
          have htab_13 := htab_12.mono hpXy.le
          have ha_13 := ha_12.mono hpXy.le
          have hb_13 := hb_12.mono hpXy.le
          have hXp_13 := hXp_12.mono hpXy.le
          have hXq_13 := hXq_12.mono hpXy.le
          have hXz_13 := hXz_12.mono hpXy.le
          refine hK _ _ ?_; clear hK K; try clear Q'
          refine wpList_plainQ rfl (fun K Q' hK => ?_); go_simp
          refine h13.k_alloc (fun w14 h14 => ?_)
          refine hK _ _ ?_; clear hK K; try clear Q'
          have c_0 := h14.cell 6 rfl 0 rfl
          have f_0 := h14.free 6 rfl 0
          refine wpList_plainQ rfl (fun K Q' hK => ?_); go_simp
          clear c_0 f_0
          refine h14.k_set 6 rfl (fun w15 h15 => ?_)
          refine hK _ _ ?_; clear hK K; try clear Q'
          refine wpList_nil ?_
          show Code.wp _ _ _ _ _
          refine wp_seq ?_
          refine wp_seq ?_
          try simp only [List.nil_append] at h15
          try simp only [List.cons_append] at h15
          try simp only [List.eraseIdx_zero] at h15
          try simp only [List.tail_cons] at h15
          try simp only [List.eraseIdx_cons_succ] at h15
          try simp only [List.eraseIdx_cons_zero] at h15
          try simp only [List.set_cons_succ] at h15
          try simp only [List.set_cons_zero] at h15
          try simp only [List.set_cons_succ] at h15
          try simp only [List.set_cons_zero] at h15
          try simp only [List.setIfInBounds_toArray] at h15
          try simp only [List.set_cons_succ] at h15
          try simp only [List.set_cons_zero] at h15
          try simp only [List.set_cons_succ] at h15
          try simp only [List.set_cons_zero] at h15
          refine h15.region [0, 1, 2, 3, 4, 6] [(0, true), (2, true), (1, false), (3, false), (4, true), (5, true), (6, true), (7, true)] (by kernel_rfl) (by kernel_rfl) (fun w16 h16 => ?_)
          refine wpOrd_hide (fun _ _ d _ _ h => by cases d <;> exact h) (fun QR hQn hQp => ?_)
          simp only [ordOps, List.map_cons, List.map_nil, List.getD_cons_zero, List.getD_cons_succ]
          iterate 2 (refine wpOrd_quiet (v := ?_) rfl (fun _ _ _ => hQp _ _ _ _ _) ?_ ?_; rotate_left; (intro w' hS; have c_4_0 := hS.cell 4 rfl 0 rfl; (first | (go_simp; done) | (go_simp; with_reducible rfl))); simp only [Act.put, List.setIfInBounds_toArray, List.set_cons_zero, List.set_cons_succ])
          -- stops at: eff:call (Go.Op.call {'callee': (Go.Callee.value (Go.Operand.func 28)), 'args': [(Go.Operand.tmp 53)], 'argTypes': [36]}) slot 54
          refine wpOrd_effQ rfl (fun K Q' hK => ?_); go_simp
          refine (steps_ok _ _ bM2 _ _ (h16.pre_at (i := 5) rfl)).mono ?_
          rintro e wS2 ⟨rfl, hpS2⟩
          rw [st2]
          have h17 := h16.call_at (i := 5) rfl hpS2
          have htab_17 := htab_13.mono hpS2.le
          have ha_17 := ha_13.mono hpS2.le
          have hb_17 := hb_13.mono hpS2.le
          have hXp_17 := hXp_13.mono hpS2.le
          have hXq_17 := hXq_13.mono hpS2.le
          have hXz_17 := hXz_13.mono hpS2.le
          have hXy_17 := hXy.mono hpS2.le
          refine hK _ _ (h17.sat' hpS2.le [0, 1, 2, 3, 4, 6] (by kernel_rfl)) ?_; clear hK K; try clear Q'
          -- stops at: eff:call (Go.Op.call {'callee': (Go.Callee.value (Go.Operand.func 21)), 'args': [(Go.Operand.tmp 55)], 'argTypes': [26]}) slot 56
          refine wpOrd_effQ rfl (fun K Q' hK => ?_); go_simp
          refine (hsize_ok h17.fits (by omega) hXz_17).mono ?_
          rintro e wZ1 ⟨HZ1, rfl, hpZ1⟩
          rw [sXz]
          have h18 := h17.call0 hpZ1
          have htab_18 := htab_17.mono hpZ1.le
          have ha_18 := ha_17.mono hpZ1.le
          have hb_18 := hb_17.mono hpZ1.le
          have hXp_18 := hXp_17.mono hpZ1.le
          have hXq_18 := hXq_17.mono hpZ1.le
          have hXz_18 := hXz_17.mono hpZ1.le
          have hXy_18 := hXy_17.mono hpZ1.le
          refine hK _ _ (h18.sat' (GH.le.trans hpS2.le hpZ1.le) [0, 1, 2, 3, 4, 6] (by kernel_rfl)) ?_; clear hK K; try clear Q'
          iterate 4 (refine wpOrd_quiet (v := ?_) rfl (fun _ _ _ => hQp _ _ _ _ _) ?_ ?_; rotate_left; (intro w' hS; (first | (go_simp; done) | (go_simp; with_reducible rfl))); simp only [Act.put, List.setIfInBounds_toArray, List.set_cons_zero, List.set_cons_succ])
          refine wpOrd_nil (hQn _ _ ?_); clear hQn hQp QR
          show Code.wp _ _ _ _ _
          -- stops at: cond
          refine wp_cond_false (rfl) ?_
          refine wp_skip ?_
          show Code.wp _ _ _ _ _
          refine wp_seq ?_
          try simp only [List.nil_append] at h18
          try simp only [List.cons_append] at h18
          try simp only [List.eraseIdx_zero] at h18
          try simp only [List.tail_cons] at h18
          try simp only [List.eraseIdx_cons_succ] at h18
          try simp only [List.eraseIdx_cons_zero] at h18
          try simp only [List.set_cons_succ] at h18
          try simp only [List.set_cons_zero] at h18
          try simp only [List.set_cons_succ] at h18
          try simp only [List.set_cons_zero] at h18
          try simp only [List.setIfInBounds_toArray] at h18
          try simp only [List.set_cons_succ] at h18
          try simp only [List.set_cons_zero] at h18
          try simp only [List.set_cons_succ] at h18
          try simp only [List.set_cons_zero] at h18
          refine wp_region_lit ?_
          -- stops at: eff:call (Go.Op.call {'callee': (Go.Callee.value (Go.Operand.func 23)), 'args': [], 'argTypes': []}) slot 61
          refine wpList_plainQ rfl (fun K Q' hK => ?_); go_simp
          refine (new_ok _ _ h18.fits).mono ?_
          rintro e wM3 ⟨bM3, rfl, hkM3, hbM3, hoM3⟩
          have hCM3 := h18.callnew hkM3 hbM3 hoM3 rfl
          refine hK _ _ ?_; clear hK K; try clear Q'
          iterate 1 (refine wpList_plainQ rfl (fun K Q' hK => ?_); go_simp; refine hK _ _ ?_; clear hK K; try clear Q')
          refine wpList_nil ?_
          show Code.wp _ _ _ _ _
          refine wp_seq ?_
          try simp only [List.nil_append] at hCM3
          try simp only [List.cons_append] at hCM3
          try simp only [List.eraseIdx_zero] at hCM3
          try simp only [List.tail_cons] at hCM3
          try simp only [List.eraseIdx_cons_succ] at hCM3
          try simp only [List.eraseIdx_cons_zero] at hCM3
          try simp only [List.set_cons_succ] at hCM3
          try simp only [List.set_cons_zero] at hCM3
          try simp only [List.set_cons_succ] at hCM3
          try simp only [List.set_cons_zero] at hCM3
          try simp only [List.setIfInBounds_toArray] at hCM3
          try simp only [List.set_cons_succ] at hCM3
          try simp only [List.set_cons_zero] at hCM3
          try simp only [List.set_cons_succ] at hCM3
          try simp only [List.set_cons_zero] at hCM3
          refine wp_region_lit ?_
          have c_6_0 := hCM3.cell 6 rfl 0 rfl
          iterate 2 (refine wpList_plainQ rfl (fun K Q' hK => ?_); go_simp; refine hK _ _ ?_; clear hK K; try clear Q')
          clear c_6_0
          -- stops at: eff:call (Go.Op.call {'callee': (Go.Callee.value (Go.Operand.func 26)), 'args': [(Go.Operand.tmp 63), (Go.Operand.tmp 64)], 'argTypes': [26, 36]}) slot 65
          have hyc : 0 < (Hp.els Xy).length := by have : (Hp.els Xy).length = _ := sXy; omega
          obtain ⟨y, hmXy⟩ : ∃ y, Hp.min? Xy = some y := by
            cases h : Hp.min? Xy with
            | none => rw [Hp.min_none oXy h] at hyc; simp at hyc
            | some y => exact ⟨y, rfl⟩
          refine wpList_plainQ rfl (fun K Q' hK => ?_); go_simp
          refine (hpop_ok (m := some bM3) (hCM3.pre_at (i := 7) rfl) (by omega) hXy_18).mono ?_
          rintro e wXw ⟨rXw, HXw, rfl, hpXw, hXw⟩
          simp only [hmXy, Option.isSome_some]
          have sXw : Hp.size (Hp.pop Xy) = sz := by
            have h1 := (Hp.min_perm oXy hmXy).length_eq
            have h2 : (Hp.els Xy).length = _ := sXy
            show (Hp.els (Hp.pop Xy)).length = _
            simp at h1
            omega
          obtain ⟨pn, hpn⟩ : ∃ n, Hid (PT.popN Xy = n) := ⟨_, show _ = _ from rfl⟩
          have hpl : pn ≤ sz := by
            have h1 := PT.popN_le Xy oXy.1
            rw [hpn.out, show PT.size (PT.pop Xy) = sz from sXw] at h1
            exact h1
          have st3 : IntKind.i64.wrap (0 + ((Hp.popC Xy : Nat) : Int) + (0 + ((Hp.popD Xy : Nat) : Int))) = 2 * (pn : Int) := by
            unfold Hp.popC Hp.popD
            rw [hpn.out, show 0 + (pn : Int) + (0 + (pn : Int)) = 2 * (pn : Int) by omega]
            exact IntWalk.i64_in _ (by omega)
          have e2 : IntKind.i64.wrap (2 * (sz : Int)) = 2 * (sz : Int) := IntWalk.i64_in _ (by omega)
          have dl : decide ((2 : Int) * (pn : Int) ≤ 2 * (sz : Int)) = true := decide_eq_true (by omega)
          have dl2 : (2 : Int) * (pn : Int) ≤ 2 * (sz : Int) := by omega
          obtain ⟨Xw, eXw⟩ : ∃ hp0, Hid (Hp.pop Xy = hp0) := ⟨_, show _ = _ from rfl⟩
          rw [eXw.out] at hXw
          have oXw := hXw.ok
          rw [eXw.out] at sXw
          have h19 := hCM3.call_at (i := 7) rfl hpXw
          have htab_19 := htab_18.mono hpXw.le
          have ha_19 := ha_18.mono hpXw.le
          have hb_19 := hb_18.mono hpXw.le
          have hXp_19 := hXp_18.mono hpXw.le
          have hXq_19 := hXq_18.mono hpXw.le
          have hXz_19 := hXz_18.mono hpXw.le
          have hXy_19 := hXy_18.mono hpXw.le
          refine hK _ _ ?_; clear hK K; try clear Q'
          iterate 3 (refine wpList_plainQ rfl (fun K Q' hK => ?_); go_simp; refine hK _ _ ?_; clear hK K; try clear Q')
          refine wpList_plainQ rfl (fun K Q' hK => ?_); go_simp
          refine h19.k_alloc (fun w20 h20 => ?_)
          refine hK _ _ ?_; clear hK K; try clear Q'
          have c_0 := h20.cell 8 rfl 0 rfl
          have f_0 := h20.free 8 rfl 0
          refine wpList_plainQ rfl (fun K Q' hK => ?_); go_simp
          clear c_0 f_0
          refine h20.k_set 8 rfl (fun w21 h21 => ?_)
          refine hK _ _ ?_; clear hK K; try clear Q'
          iterate 1 (refine wpList_plainQ rfl (fun K Q' hK => ?_); go_simp; refine hK _ _ ?_; clear hK K; try clear Q')
          refine wpList_nil ?_
          show Code.wp _ _ _ _ _
          refine wp_seq ?_
          try simp only [List.nil_append] at h21
          try simp only [List.cons_append] at h21
          try simp only [List.eraseIdx_zero] at h21
          try simp only [List.tail_cons] at h21
          try simp only [List.eraseIdx_cons_succ] at h21
          try simp only [List.eraseIdx_cons_zero] at h21
          try simp only [List.set_cons_succ] at h21
          try simp only [List.set_cons_zero] at h21
          try simp only [List.set_cons_succ] at h21
          try simp only [List.set_cons_zero] at h21
          try simp only [List.setIfInBounds_toArray] at h21
          try simp only [List.set_cons_succ] at h21
          try simp only [List.set_cons_zero] at h21
          try simp only [List.set_cons_succ] at h21
          try simp only [List.set_cons_zero] at h21
          refine h21.region [0, 1, 2, 3, 4, 5, 6, 8] [(0, true), (1, true), (2, true), (4, true), (5, true), (6, true), (7, true), (8, true), (3, false), (9, true), (10, true), (11, true), (12, true), (14, true), (13, false), (15, false), (16, true), (17, true), (18, true), (19, true)] (by kernel_rfl) (by kernel_rfl) (fun w22 h22 => ?_)
          refine wpOrd_hide (fun _ _ d _ _ h => by cases d <;> exact h) (fun QR hQn hQp => ?_)
          simp only [ordOps, List.map_cons, List.map_nil, List.getD_cons_zero, List.getD_cons_succ]
          iterate 2 (refine wpOrd_quiet (v := ?_) rfl (fun _ _ _ => hQp _ _ _ _ _) ?_ ?_; rotate_left; (intro w' hS; (first | (go_simp; done) | (go_simp; with_reducible rfl))); simp only [Act.put, List.setIfInBounds_toArray, List.set_cons_zero, List.set_cons_succ])
          iterate 6 (first | (refine wpOrd_skip rfl (fun _ _ _ => hQp _ _ _ _ _) ?_; simp only [Act.put, List.setIfInBounds_toArray, List.set_cons_zero, List.set_cons_succ]) | (refine wpOrd_quiet (v := ?_) rfl (fun _ _ _ => hQp _ _ _ _ _) ?_ ?_; rotate_left; (intro w' hS; have c_8_0 := hS.cell 7 rfl 0 rfl; (first | (go_simp; done) | (go_simp; with_reducible rfl))); simp only [Act.put, List.setIfInBounds_toArray, List.set_cons_zero, List.set_cons_succ]))
          -- stops at: eff:call (Go.Op.call {'callee': (Go.Callee.value (Go.Operand.func 21)), 'args': [(Go.Operand.tmp 70)], 'argTypes': [26]}) slot 71
          refine wpOrd_effQ rfl (fun K Q' hK => ?_); go_simp
          refine (hsize_ok h22.fits (by omega) hXw).mono ?_
          rintro e wZ2 ⟨HZ2, rfl, hpZ2⟩
          rw [sXw]
          have h23 := h22.call0 hpZ2
          have htab_23 := htab_19.mono hpZ2.le
          have ha_23 := ha_19.mono hpZ2.le
          have hb_23 := hb_19.mono hpZ2.le
          have hXp_23 := hXp_19.mono hpZ2.le
          have hXq_23 := hXq_19.mono hpZ2.le
          have hXz_23 := hXz_19.mono hpZ2.le
          have hXy_23 := hXy_19.mono hpZ2.le
          have hXw_23 := hXw.mono hpZ2.le
          refine hK _ _ (h23.sat' hpZ2.le [0, 1, 2, 3, 4, 5, 6, 8] (by kernel_rfl)) ?_; clear hK K; try clear Q'
          iterate 1 (first | (refine wpOrd_skip rfl (fun _ _ _ => hQp _ _ _ _ _) ?_; simp only [Act.put, List.setIfInBounds_toArray, List.set_cons_zero, List.set_cons_succ]) | (refine wpOrd_quiet (v := ?_) rfl (fun _ _ _ => hQp _ _ _ _ _) ?_ ?_; rotate_left; (intro w' hS; (first | (go_simp; done) | (go_simp; with_reducible rfl))); simp only [Act.put, List.setIfInBounds_toArray, List.set_cons_zero, List.set_cons_succ]))
          iterate 2 (refine wpOrd_quiet (v := ?_) rfl (fun _ _ _ => hQp _ _ _ _ _) ?_ ?_; rotate_left; (intro w' hS; (first | (go_simp; done) | (go_simp; with_reducible rfl))); simp only [Act.put, List.setIfInBounds_toArray, List.set_cons_zero, List.set_cons_succ])
          iterate 2 (first | (refine wpOrd_skip rfl (fun _ _ _ => hQp _ _ _ _ _) ?_; simp only [Act.put, List.setIfInBounds_toArray, List.set_cons_zero, List.set_cons_succ]) | (refine wpOrd_quiet (v := ?_) rfl (fun _ _ _ => hQp _ _ _ _ _) ?_ ?_; rotate_left; (intro w' hS; have c_8_0 := hS.cell 7 rfl 0 rfl; (first | (go_simp; done) | (go_simp; with_reducible rfl))); simp only [Act.put, List.setIfInBounds_toArray, List.set_cons_zero, List.set_cons_succ]))
          -- stops at: eff:call (Go.Op.call {'callee': (Go.Callee.value (Go.Operand.func 28)), 'args': [(Go.Operand.tmp 80)], 'argTypes': [36]}) slot 81
          refine wpOrd_effQ rfl (fun K Q' hK => ?_); go_simp
          refine (steps_ok _ _ bM3 _ _ (h23.pre_at (i := 7) rfl)).mono ?_
          rintro e wS3 ⟨rfl, hpS3⟩
          rw [st3]
          have h24 := h23.call_at (i := 7) rfl hpS3
          have htab_24 := htab_23.mono hpS3.le
          have ha_24 := ha_23.mono hpS3.le
          have hb_24 := hb_23.mono hpS3.le
          have hXp_24 := hXp_23.mono hpS3.le
          have hXq_24 := hXq_23.mono hpS3.le
          have hXz_24 := hXz_23.mono hpS3.le
          have hXy_24 := hXy_23.mono hpS3.le
          have hXw_24 := hXw_23.mono hpS3.le
          refine hK _ _ (h24.sat' (GH.le.trans hpZ2.le hpS3.le) [0, 1, 2, 3, 4, 5, 6, 8] (by kernel_rfl)) ?_; clear hK K; try clear Q'
          -- stops at: eff:call (Go.Op.call {'callee': (Go.Callee.value (Go.Operand.func 21)), 'args': [(Go.Operand.tmp 82)], 'argTypes': [26]}) slot 83
          refine wpOrd_effQ rfl (fun K Q' hK => ?_); go_simp
          refine (hsize_ok h24.fits (by omega) hXw_24).mono ?_
          rintro e wZ3 ⟨HZ3, rfl, hpZ3⟩
          rw [sXw]
          have h25 := h24.call0 hpZ3
          have htab_25 := htab_24.mono hpZ3.le
          have ha_25 := ha_24.mono hpZ3.le
          have hb_25 := hb_24.mono hpZ3.le
          have hXp_25 := hXp_24.mono hpZ3.le
          have hXq_25 := hXq_24.mono hpZ3.le
          have hXz_25 := hXz_24.mono hpZ3.le
          have hXy_25 := hXy_24.mono hpZ3.le
          have hXw_25 := hXw_24.mono hpZ3.le
          refine hK _ _ (h25.sat' (GH.le.trans (GH.le.trans hpZ2.le hpS3.le) hpZ3.le) [0, 1, 2, 3, 4, 5, 6, 8] (by kernel_rfl)) ?_; clear hK K; try clear Q'
          iterate 2 (first | (refine wpOrd_skip rfl (fun _ _ _ => hQp _ _ _ _ _) ?_; simp only [Act.put, List.setIfInBounds_toArray, List.set_cons_zero, List.set_cons_succ]) | (refine wpOrd_quiet (v := ?_) rfl (fun _ _ _ => hQp _ _ _ _ _) ?_ ?_; rotate_left; (intro w' hS; (first | (go_simp; done) | (go_simp; with_reducible rfl))); simp only [Act.put, List.setIfInBounds_toArray, List.set_cons_zero, List.set_cons_succ]))
          iterate 2 (refine wpOrd_quiet (v := ?_) rfl (fun _ _ _ => hQp _ _ _ _ _) ?_ ?_; rotate_left; (intro w' hS; (first | (go_simp; done) | (go_simp; with_reducible rfl))); simp only [Act.put, List.setIfInBounds_toArray, List.set_cons_zero, List.set_cons_succ])
          refine wpOrd_nil (hQn _ _ ?_); clear hQn hQp QR
          show Code.wp _ _ _ _ _
          -- stops at: ret
          refine wp_ret ?_
          go_ret
          exact ⟨rfl, h25.post.keep⟩
        · have z2 : ((lb : Int) == 0) = false := beq_eq_false_iff_ne.2 (by omega)
          have hsz0 : ¬ sz = 0 := by have := hsz.out; omega
          have Hz : Hid (¬ (la = 0 ∨ lb = 0)) := fun h => h.elim h0 h1
          have Hs : Hid (¬ (1 = 0 ∨ sz = 0)) := fun h => h.elim (by omega) hsz0
          have hmn : min (sz : Int) 1 = 1 := by omega
          clear h0 h1
          go_enter Tryd.func5, Tryd.ntmps5
          have h0 := St.start hpre
          refine wp_seq ?_
          try simp only [List.nil_append] at h0
          try simp only [List.cons_append] at h0
          try simp only [List.eraseIdx_zero] at h0
          try simp only [List.tail_cons] at h0
          try simp only [List.eraseIdx_cons_succ] at h0
          try simp only [List.eraseIdx_cons_zero] at h0
          try simp only [List.set_cons_succ] at h0
          try simp only [List.set_cons_zero] at h0
          try simp only [List.set_cons_succ] at h0
          try simp only [List.set_cons_zero] at h0
          try simp only [List.setIfInBounds_toArray] at h0
          try simp only [List.set_cons_succ] at h0
          try simp only [List.set_cons_zero] at h0
          try simp only [List.set_cons_succ] at h0
          try simp only [List.set_cons_zero] at h0
          refine wp_region_lit ?_
          refine wpList_plainQ rfl (fun K Q' hK => ?_); go_simp
          refine h0.k_alloc (fun w1 h1 => ?_)
          refine hK _ _ ?_; clear hK K; try clear Q'
          iterate 1 (refine wpList_plainQ rfl (fun K Q' hK => ?_); go_simp; refine hK _ _ ?_; clear hK K; try clear Q')
          refine wpList_nil ?_
          show Code.wp _ _ _ _ _
          refine wp_seq ?_
          try simp only [List.nil_append] at h1
          try simp only [List.cons_append] at h1
          try simp only [List.eraseIdx_zero] at h1
          try simp only [List.tail_cons] at h1
          try simp only [List.eraseIdx_cons_succ] at h1
          try simp only [List.eraseIdx_cons_zero] at h1
          try simp only [List.set_cons_succ] at h1
          try simp only [List.set_cons_zero] at h1
          try simp only [List.set_cons_succ] at h1
          try simp only [List.set_cons_zero] at h1
          try simp only [List.setIfInBounds_toArray] at h1
          try simp only [List.set_cons_succ] at h1
          try simp only [List.set_cons_zero] at h1
          try simp only [List.set_cons_succ] at h1
          try simp only [List.set_cons_zero] at h1
          refine wp_region_lit ?_
          -- stops at: eff:call (Go.Op.call {'callee': (Go.Callee.value (Go.Operand.func 14)), 'args': [], 'argTypes': []}) slot 16
          refine wpList_plainQ rfl (fun K Q' hK => ?_); go_simp
          refine (awake_ok H _ h1.fits htab).mono ?_
          rintro e wAw ⟨HAw, rfl, hpAw⟩
          have h2 := h1.call0 hpAw
          have htab_2 := htab.mono hpAw.le
          have ha_2 := ha.mono hpAw.le
          have hb_2 := hb.mono hpAw.le
          refine hK _ _ ?_; clear hK K; try clear Q'
          iterate 1 (refine wpList_plainQ rfl (fun K Q' hK => ?_); go_simp; refine hK _ _ ?_; clear hK K; try clear Q')
          refine wpList_nil ?_
          show Code.wp _ _ _ _ _
          refine wp_seq ?_
          refine wp_seq ?_
          try simp only [List.nil_append] at h2
          try simp only [List.cons_append] at h2
          try simp only [List.eraseIdx_zero] at h2
          try simp only [List.tail_cons] at h2
          try simp only [List.eraseIdx_cons_succ] at h2
          try simp only [List.eraseIdx_cons_zero] at h2
          try simp only [List.set_cons_succ] at h2
          try simp only [List.set_cons_zero] at h2
          try simp only [List.set_cons_succ] at h2
          try simp only [List.set_cons_zero] at h2
          try simp only [List.setIfInBounds_toArray] at h2
          try simp only [List.set_cons_succ] at h2
          try simp only [List.set_cons_zero] at h2
          try simp only [List.set_cons_succ] at h2
          try simp only [List.set_cons_zero] at h2
          refine wp_region_lit ?_
          iterate 2 (refine wpList_plainQ rfl (fun K Q' hK => ?_); go_simp; refine hK _ _ ?_; clear hK K; try clear Q')
          refine wpList_nil ?_
          show Code.wp _ _ _ _ _
          -- stops at: cond
          refine wp_cond_false (rfl) ?_
          refine wp_skip ?_
          show Code.wp _ _ _ _ _
          refine wp_seq ?_
          refine wp_seq ?_
          refine wp_region_lit ?_
          iterate 4 (refine wpList_plainQ rfl (fun K Q' hK => ?_); go_simp; refine hK _ _ ?_; clear hK K; try clear Q')
          first | go_skip | (iterate 3 (refine wpList_stepQ (o := { dst := _, op := _, type := _, pos := _, after := _, guard := some (3, false) }) (fun K Q' hK => ?_); go_simp; refine hK _ _ ?_; clear hK K; try clear Q')) | skip
          iterate 1 (refine wpList_plainQ rfl (fun K Q' hK => ?_); go_simp; refine hK _ _ ?_; clear hK K; try clear Q')
          refine wpList_nil ?_
          show Code.wp _ _ _ _ _
          -- stops at: cond
          refine wp_cond_false (rfl) ?_
          refine wp_skip ?_
          show Code.wp _ _ _ _ _
          refine wp_seq ?_
          refine wp_region_lit ?_
          iterate 1 (refine wpList_plainQ rfl (fun K Q' hK => ?_); go_simp; refine hK _ _ ?_; clear hK K; try clear Q')
          -- stops at: eff:call (Go.Op.call {'callee': (Go.Callee.value (Go.Operand.func 15)), 'args': [(Go.Operand.const (Go.Value.pointer none)), (Go.Operand.tmp 27)], 'argTypes': [36, 22]}) slot 28
          refine wpList_plainQ rfl (fun K Q' hK => ?_); go_simp
          refine (hof_ok (m := none) (xs := a) fa h2.pre (by omega) ha_2).mono ?_
          rintro e wXp ⟨rXp, HXp, rfl, hpXp, hXp⟩
          obtain ⟨Xp, eXp⟩ : ∃ hp0, Hid (Hp.ofL a = hp0) := ⟨_, show _ = _ from rfl⟩
          rw [eXp.out] at hXp
          have oXp := hXp.ok
          have pXp : Hid ((Hp.els Xp).Perm (a)) := by rw [← eXp.out]; exact Hp.els_ofL _
          have sXp : Hp.size Xp = (a).length := pXp.out.length_eq
          have h3 := h2.call0 hpXp
          have htab_3 := htab_2.mono hpXp.le
          have ha_3 := ha_2.mono hpXp.le
          have hb_3 := hb_2.mono hpXp.le
          refine hK _ _ ?_; clear hK K; try clear Q'
          refine wpList_plainQ rfl (fun K Q' hK => ?_); go_simp
          refine h3.k_alloc (fun w4 h4 => ?_)
          refine hK _ _ ?_; clear hK K; try clear Q'
          have c_0 := h4.cell 1 rfl 0 rfl
          have f_0 := h4.free 1 rfl 0
          refine wpList_plainQ rfl (fun K Q' hK => ?_); go_simp
          clear c_0 f_0
          refine h4.k_set 1 rfl (fun w5 h5 => ?_)
          refine hK _ _ ?_; clear hK K; try clear Q'
          refine wpList_nil ?_
          show Code.wp _ _ _ _ _
          refine wp_seq ?_
          try simp only [List.nil_append] at h5
          try simp only [List.cons_append] at h5
          try simp only [List.eraseIdx_zero] at h5
          try simp only [List.tail_cons] at h5
          try simp only [List.eraseIdx_cons_succ] at h5
          try simp only [List.eraseIdx_cons_zero] at h5
          try simp only [List.set_cons_succ] at h5
          try simp only [List.set_cons_zero] at h5
          try simp only [List.set_cons_succ] at h5
          try simp only [List.set_cons_zero] at h5
          try simp only [List.setIfInBounds_toArray] at h5
          try simp only [List.set_cons_succ] at h5
          try simp only [List.set_cons_zero] at h5
          try simp only [List.set_cons_succ] at h5
          try simp only [List.set_cons_zero] at h5
          refine wp_region_lit ?_
          iterate 1 (refine wpList_plainQ rfl (fun K Q' hK => ?_); go_simp; refine hK _ _ ?_; clear hK K; try clear Q')
          -- stops at: eff:call (Go.Op.call {'callee': (Go.Callee.value (Go.Operand.func 15)), 'args': [(Go.Operand.const (Go.Value.pointer none)), (Go.Operand.tmp 29)], 'argTypes': [36, 22]}) slot 30
          refine wpList_plainQ rfl (fun K Q' hK => ?_); go_simp
          refine (hof_ok (m := none) (xs := b) fb h5.pre (by omega) hb_3).mono ?_
          rintro e wXq ⟨rXq, HXq, rfl, hpXq, hXq⟩
          obtain ⟨Xq, eXq⟩ : ∃ hp0, Hid (Hp.ofL b = hp0) := ⟨_, show _ = _ from rfl⟩
          rw [eXq.out] at hXq
          have oXq := hXq.ok
          have pXq : Hid ((Hp.els Xq).Perm (b)) := by rw [← eXq.out]; exact Hp.els_ofL _
          have sXq : Hp.size Xq = (b).length := pXq.out.length_eq
          have h6 := h5.call0 hpXq
          have htab_6 := htab_3.mono hpXq.le
          have ha_6 := ha_3.mono hpXq.le
          have hb_6 := hb_3.mono hpXq.le
          have hXp_6 := hXp.mono hpXq.le
          refine hK _ _ ?_; clear hK K; try clear Q'
          refine wpList_plainQ rfl (fun K Q' hK => ?_); go_simp
          refine h6.k_alloc (fun w7 h7 => ?_)
          refine hK _ _ ?_; clear hK K; try clear Q'
          have c_0 := h7.cell 2 rfl 0 rfl
          have f_0 := h7.free 2 rfl 0
          refine wpList_plainQ rfl (fun K Q' hK => ?_); go_simp
          clear c_0 f_0
          refine h7.k_set 2 rfl (fun w8 h8 => ?_)
          refine hK _ _ ?_; clear hK K; try clear Q'
          refine wpList_nil ?_
          show Code.wp _ _ _ _ _
          refine wp_seq ?_
          try simp only [List.nil_append] at h8
          try simp only [List.cons_append] at h8
          try simp only [List.eraseIdx_zero] at h8
          try simp only [List.tail_cons] at h8
          try simp only [List.eraseIdx_cons_succ] at h8
          try simp only [List.eraseIdx_cons_zero] at h8
          try simp only [List.set_cons_succ] at h8
          try simp only [List.set_cons_zero] at h8
          try simp only [List.set_cons_succ] at h8
          try simp only [List.set_cons_zero] at h8
          try simp only [List.setIfInBounds_toArray] at h8
          try simp only [List.set_cons_succ] at h8
          try simp only [List.set_cons_zero] at h8
          try simp only [List.set_cons_succ] at h8
          try simp only [List.set_cons_zero] at h8
          refine wp_region_lit ?_
          -- stops at: eff:call (Go.Op.call {'callee': (Go.Callee.value (Go.Operand.func 23)), 'args': [], 'argTypes': []}) slot 31
          rw [hla.out] at sXp
          rw [hlb.out] at sXq
          refine wpList_plainQ rfl (fun K Q' hK => ?_); go_simp
          refine (new_ok _ _ h8.fits).mono ?_
          rintro e wM1 ⟨bM1, rfl, hkM1, hbM1, hoM1⟩
          have hCM1 := h8.callnew hkM1 hbM1 hoM1 rfl
          refine hK _ _ ?_; clear hK K; try clear Q'
          iterate 1 (refine wpList_plainQ rfl (fun K Q' hK => ?_); go_simp; refine hK _ _ ?_; clear hK K; try clear Q')
          refine wpList_nil ?_
          show Code.wp _ _ _ _ _
          refine wp_seq ?_
          try simp only [List.nil_append] at hCM1
          try simp only [List.cons_append] at hCM1
          try simp only [List.eraseIdx_zero] at hCM1
          try simp only [List.tail_cons] at hCM1
          try simp only [List.eraseIdx_cons_succ] at hCM1
          try simp only [List.eraseIdx_cons_zero] at hCM1
          try simp only [List.set_cons_succ] at hCM1
          try simp only [List.set_cons_zero] at hCM1
          try simp only [List.set_cons_succ] at hCM1
          try simp only [List.set_cons_zero] at hCM1
          try simp only [List.setIfInBounds_toArray] at hCM1
          try simp only [List.set_cons_succ] at hCM1
          try simp only [List.set_cons_zero] at hCM1
          try simp only [List.set_cons_succ] at hCM1
          try simp only [List.set_cons_zero] at hCM1
          refine wp_region_lit ?_
          have c_1_0 := hCM1.cell 1 rfl 0 rfl
          have c_2_0 := hCM1.cell 2 rfl 0 rfl
          iterate 3 (refine wpList_plainQ rfl (fun K Q' hK => ?_); go_simp; refine hK _ _ ?_; clear hK K; try clear Q')
          clear c_1_0 c_2_0
          -- stops at: eff:call (Go.Op.call {'callee': (Go.Callee.value (Go.Operand.func 16)), 'args': [(Go.Operand.tmp 32), (Go.Operand.tmp 33), (Go.Operand.tmp 34)], 'argTypes': [26, 36, 26] slot 35
          refine wpList_plainQ rfl (fun K Q' hK => ?_); go_simp
          refine (hmeld_ok (m := some bM1) (hCM1.pre_at (i := 3) rfl) (by omega) hXp_6 hXq).mono ?_
          rintro e wXz ⟨rXz, HXz, rfl, hpXz, hXz⟩
          have sXz : Hp.size (Hp.meld Xp Xq) = _ := Hp.size_meld oXp oXq
          have st1 : IntKind.i64.wrap (0 + ((Hp.meldC Xp Xq : Nat) : Int) + (0 + ((Hp.meldD Xp Xq : Nat) : Int))) = 2 := by
            have h1 := PT.meldN_eq Xp Xq
            rw [show PT.size Xp = la from sXp, show PT.size Xq = lb from sXq, if_neg Hz.out] at h1
            unfold Hp.meldC Hp.meldD
            rw [h1]
            exact IntWalk.i64_in _ (by omega)
          obtain ⟨Xz, eXz⟩ : ∃ hp0, Hid (Hp.meld Xp Xq = hp0) := ⟨_, show _ = _ from rfl⟩
          rw [eXz.out] at hXz
          have oXz := hXz.ok
          rw [eXz.out, sXp, sXq, hsz.out] at sXz
          have h9 := hCM1.call_at (i := 3) rfl hpXz
          have htab_9 := htab_6.mono hpXz.le
          have ha_9 := ha_6.mono hpXz.le
          have hb_9 := hb_6.mono hpXz.le
          have hXp_9 := hXp_6.mono hpXz.le
          have hXq_9 := hXq.mono hpXz.le
          refine hK _ _ ?_; clear hK K; try clear Q'
          refine wpList_plainQ rfl (fun K Q' hK => ?_); go_simp
          refine h9.k_alloc (fun w10 h10 => ?_)
          refine hK _ _ ?_; clear hK K; try clear Q'
          have c_0 := h10.cell 4 rfl 0 rfl
          have f_0 := h10.free 4 rfl 0
          refine wpList_plainQ rfl (fun K Q' hK => ?_); go_simp
          clear c_0 f_0
          refine h10.k_set 4 rfl (fun w11 h11 => ?_)
          refine hK _ _ ?_; clear hK K; try clear Q'
          refine wpList_nil ?_
          show Code.wp _ _ _ _ _
          refine wp_seq ?_
          try simp only [List.nil_append] at h11
          try simp only [List.cons_append] at h11
          try simp only [List.eraseIdx_zero] at h11
          try simp only [List.tail_cons] at h11
          try simp only [List.eraseIdx_cons_succ] at h11
          try simp only [List.eraseIdx_cons_zero] at h11
          try simp only [List.set_cons_succ] at h11
          try simp only [List.set_cons_zero] at h11
          try simp only [List.set_cons_succ] at h11
          try simp only [List.set_cons_zero] at h11
          try simp only [List.setIfInBounds_toArray] at h11
          try simp only [List.set_cons_succ] at h11
          try simp only [List.set_cons_zero] at h11
          try simp only [List.set_cons_succ] at h11
          try simp only [List.set_cons_zero] at h11
          refine wp_region_lit ?_
          iterate 1 (refine wpList_plainQ rfl (fun K Q' hK => ?_); go_simp; refine hK _ _ ?_; clear hK K; try clear Q')
          refine wpList_nil ?_
          show Code.wp _ _ _ _ _
          refine wp_seq ?_
          refine wp_seq ?_
          refine wp_region_lit ?_
          iterate 4 (refine wpList_plainQ rfl (fun K Q' hK => ?_); go_simp; refine hK _ _ ?_; clear hK K; try clear Q')
          first | go_skip | (iterate 3 (refine wpList_stepQ (o := { dst := _, op := _, type := _, pos := _, after := _, guard := some (3, false) }) (fun K Q' hK => ?_); go_simp; refine hK _ _ ?_; clear hK K; try clear Q')) | skip
          iterate 1 (refine wpList_plainQ rfl (fun K Q' hK => ?_); go_simp; refine hK _ _ ?_; clear hK K; try clear Q')
          refine wpList_nil ?_
          show Code.wp _ _ _ _ _
          -- stops at: cond
          refine wp_cond_false (rfl) ?_
          refine wp_skip ?_
          show Code.wp _ _ _ _ _
          refine wp_seq ?_
          refine wp_seq ?_
          refine wp_region_lit ?_
          iterate 1 (refine wpList_plainQ rfl (fun K Q' hK => ?_); go_simp; refine hK _ _ ?_; clear hK K; try clear Q')
          -- stops at: eff:call (Go.Op.call {'callee': (Go.Callee.value (Go.Operand.func 28)), 'args': [(Go.Operand.tmp 44)], 'argTypes': [36]}) slot 45
          refine wpList_plainQ rfl (fun K Q' hK => ?_); go_simp
          refine (steps_ok _ _ bM1 _ _ (h11.pre_at (i := 3) rfl)).mono ?_
          rintro e wS1 ⟨rfl, hpS1⟩
          rw [st1]
          have h12 := h11.call_at (i := 3) rfl hpS1
          have htab_12 := htab_9.mono hpS1.le
          have ha_12 := ha_9.mono hpS1.le
          have hb_12 := hb_9.mono hpS1.le
          have hXp_12 := hXp_9.mono hpS1.le
          have hXq_12 := hXq_9.mono hpS1.le
          have hXz_12 := hXz.mono hpS1.le
          refine hK _ _ ?_; clear hK K; try clear Q'
          iterate 2 (refine wpList_plainQ rfl (fun K Q' hK => ?_); go_simp; refine hK _ _ ?_; clear hK K; try clear Q')
          refine wpList_nil ?_
          show Code.wp _ _ _ _ _
          -- stops at: cond
          refine wp_cond_false (rfl) ?_
          refine wp_skip ?_
          show Code.wp _ _ _ _ _
          refine wp_seq ?_
          try simp only [List.nil_append] at h12
          try simp only [List.cons_append] at h12
          try simp only [List.eraseIdx_zero] at h12
          try simp only [List.tail_cons] at h12
          try simp only [List.eraseIdx_cons_succ] at h12
          try simp only [List.eraseIdx_cons_zero] at h12
          try simp only [List.set_cons_succ] at h12
          try simp only [List.set_cons_zero] at h12
          try simp only [List.set_cons_succ] at h12
          try simp only [List.set_cons_zero] at h12
          try simp only [List.setIfInBounds_toArray] at h12
          try simp only [List.set_cons_succ] at h12
          try simp only [List.set_cons_zero] at h12
          try simp only [List.set_cons_succ] at h12
          try simp only [List.set_cons_zero] at h12
          refine wp_region_lit ?_
          -- stops at: eff:call (Go.Op.call {'callee': (Go.Callee.value (Go.Operand.func 23)), 'args': [], 'argTypes': []}) slot 48
          refine wpList_plainQ rfl (fun K Q' hK => ?_); go_simp
          refine (new_ok _ _ h12.fits).mono ?_
          rintro e wM2 ⟨bM2, rfl, hkM2, hbM2, hoM2⟩
          have hCM2 := h12.callnew hkM2 hbM2 hoM2 rfl
          refine hK _ _ ?_; clear hK K; try clear Q'
          iterate 1 (refine wpList_plainQ rfl (fun K Q' hK => ?_); go_simp; refine hK _ _ ?_; clear hK K; try clear Q')
          refine wpList_nil ?_
          show Code.wp _ _ _ _ _
          refine wp_seq ?_
          try simp only [List.nil_append] at hCM2
          try simp only [List.cons_append] at hCM2
          try simp only [List.eraseIdx_zero] at hCM2
          try simp only [List.tail_cons] at hCM2
          try simp only [List.eraseIdx_cons_succ] at hCM2
          try simp only [List.eraseIdx_cons_zero] at hCM2
          try simp only [List.set_cons_succ] at hCM2
          try simp only [List.set_cons_zero] at hCM2
          try simp only [List.set_cons_succ] at hCM2
          try simp only [List.set_cons_zero] at hCM2
          try simp only [List.setIfInBounds_toArray] at hCM2
          try simp only [List.set_cons_succ] at hCM2
          try simp only [List.set_cons_zero] at hCM2
          try simp only [List.set_cons_succ] at hCM2
          try simp only [List.set_cons_zero] at hCM2
          refine wp_region_lit ?_
          have c_4_0 := hCM2.cell 4 rfl 0 rfl
          have c_0_0 := hCM2.cell 0 rfl 0 rfl
          have c_0_1 := hCM2.cell 0 rfl 1 rfl
          iterate 3 (refine wpList_plainQ rfl (fun K Q' hK => ?_); go_simp; refine hK _ _ ?_; clear hK K; try clear Q')
          clear c_4_0 c_0_0 c_0_1
          -- stops at: eff:call (Go.Op.call {'callee': (Go.Callee.value (Go.Operand.func 24)), 'args': [(Go.Operand.tmp 49), (Go.Operand.tmp 50), (Go.Operand.tmp 51)], 'argTypes': [26, 36, 41] slot 52
          refine wpList_plainQ rfl (fun K Q' hK => ?_); go_simp
          refine (hinsert_ok (m := some bM2) x fx (hCM2.pre_at (i := 5) rfl) (by omega) hXz_12).mono ?_
          rintro e wXy ⟨rXy, HXy, rfl, hpXy, hXy⟩
          have sXy : Hp.size (Hp.insert x Xz) = _ := Hp.size_insert x oXz
          have st2 : IntKind.i64.wrap (0 + ((Hp.insC x Xz : Nat) : Int) + (0 + ((Hp.insD x Xz : Nat) : Int))) = 3 := by
            have h1 := PT.meldN_eq (.node x .nil .nil) Xz
            rw [show PT.size (.node x .nil .nil) = 1 from rfl, show PT.size Xz = sz from sXz, if_neg Hs.out] at h1
            unfold Hp.insC Hp.insD
            rw [h1]
            exact IntWalk.i64_in _ (by omega)
          obtain ⟨Xy, eXy⟩ : ∃ hp0, Hid (Hp.insert x Xz = hp0) := ⟨_, show _ = _ from rfl⟩
          rw [eXy.out] at hXy
          have oXy := hXy.ok
          rw [eXy.out, sXz] at sXy
          have h13 := hCM2.call_at (i := 5) rfl hpXy
          have htab_13 := htab_12.mono hpXy.le
          have ha_13 := ha_12.mono hpXy.le
          have hb_13 := hb_12.mono hpXy.le
          have hXp_13 := hXp_12.mono hpXy.le
          have hXq_13 := hXq_12.mono hpXy.le
          have hXz_13 := hXz_12.mono hpXy.le
          refine hK _ _ ?_; clear hK K; try clear Q'
          refine wpList_plainQ rfl (fun K Q' hK => ?_); go_simp
          refine h13.k_alloc (fun w14 h14 => ?_)
          refine hK _ _ ?_; clear hK K; try clear Q'
          have c_0 := h14.cell 6 rfl 0 rfl
          have f_0 := h14.free 6 rfl 0
          refine wpList_plainQ rfl (fun K Q' hK => ?_); go_simp
          clear c_0 f_0
          refine h14.k_set 6 rfl (fun w15 h15 => ?_)
          refine hK _ _ ?_; clear hK K; try clear Q'
          refine wpList_nil ?_
          show Code.wp _ _ _ _ _
          refine wp_seq ?_
          refine wp_seq ?_
          try simp only [List.nil_append] at h15
          try simp only [List.cons_append] at h15
          try simp only [List.eraseIdx_zero] at h15
          try simp only [List.tail_cons] at h15
          try simp only [List.eraseIdx_cons_succ] at h15
          try simp only [List.eraseIdx_cons_zero] at h15
          try simp only [List.set_cons_succ] at h15
          try simp only [List.set_cons_zero] at h15
          try simp only [List.set_cons_succ] at h15
          try simp only [List.set_cons_zero] at h15
          try simp only [List.setIfInBounds_toArray] at h15
          try simp only [List.set_cons_succ] at h15
          try simp only [List.set_cons_zero] at h15
          try simp only [List.set_cons_succ] at h15
          try simp only [List.set_cons_zero] at h15
          refine h15.region [0, 1, 2, 3, 4, 6] [(0, true), (2, true), (1, false), (3, false), (4, true), (5, true), (6, true), (7, true)] (by kernel_rfl) (by kernel_rfl) (fun w16 h16 => ?_)
          refine wpOrd_hide (fun _ _ d _ _ h => by cases d <;> exact h) (fun QR hQn hQp => ?_)
          simp only [ordOps, List.map_cons, List.map_nil, List.getD_cons_zero, List.getD_cons_succ]
          iterate 2 (refine wpOrd_quiet (v := ?_) rfl (fun _ _ _ => hQp _ _ _ _ _) ?_ ?_; rotate_left; (intro w' hS; have c_4_0 := hS.cell 4 rfl 0 rfl; (first | (go_simp; done) | (go_simp; with_reducible rfl))); simp only [Act.put, List.setIfInBounds_toArray, List.set_cons_zero, List.set_cons_succ])
          -- stops at: eff:call (Go.Op.call {'callee': (Go.Callee.value (Go.Operand.func 28)), 'args': [(Go.Operand.tmp 53)], 'argTypes': [36]}) slot 54
          refine wpOrd_effQ rfl (fun K Q' hK => ?_); go_simp
          refine (steps_ok _ _ bM2 _ _ (h16.pre_at (i := 5) rfl)).mono ?_
          rintro e wS2 ⟨rfl, hpS2⟩
          rw [st2]
          have h17 := h16.call_at (i := 5) rfl hpS2
          have htab_17 := htab_13.mono hpS2.le
          have ha_17 := ha_13.mono hpS2.le
          have hb_17 := hb_13.mono hpS2.le
          have hXp_17 := hXp_13.mono hpS2.le
          have hXq_17 := hXq_13.mono hpS2.le
          have hXz_17 := hXz_13.mono hpS2.le
          have hXy_17 := hXy.mono hpS2.le
          refine hK _ _ (h17.sat' hpS2.le [0, 1, 2, 3, 4, 6] (by kernel_rfl)) ?_; clear hK K; try clear Q'
          -- stops at: eff:call (Go.Op.call {'callee': (Go.Callee.value (Go.Operand.func 21)), 'args': [(Go.Operand.tmp 55)], 'argTypes': [26]}) slot 56
          refine wpOrd_effQ rfl (fun K Q' hK => ?_); go_simp
          refine (hsize_ok h17.fits (by omega) hXz_17).mono ?_
          rintro e wZ1 ⟨HZ1, rfl, hpZ1⟩
          rw [sXz]
          have h18 := h17.call0 hpZ1
          have htab_18 := htab_17.mono hpZ1.le
          have ha_18 := ha_17.mono hpZ1.le
          have hb_18 := hb_17.mono hpZ1.le
          have hXp_18 := hXp_17.mono hpZ1.le
          have hXq_18 := hXq_17.mono hpZ1.le
          have hXz_18 := hXz_17.mono hpZ1.le
          have hXy_18 := hXy_17.mono hpZ1.le
          refine hK _ _ (h18.sat' (GH.le.trans hpS2.le hpZ1.le) [0, 1, 2, 3, 4, 6] (by kernel_rfl)) ?_; clear hK K; try clear Q'
          iterate 4 (refine wpOrd_quiet (v := ?_) rfl (fun _ _ _ => hQp _ _ _ _ _) ?_ ?_; rotate_left; (intro w' hS; (first | (go_simp; done) | (go_simp; with_reducible rfl))); simp only [Act.put, List.setIfInBounds_toArray, List.set_cons_zero, List.set_cons_succ])
          refine wpOrd_nil (hQn _ _ ?_); clear hQn hQp QR
          show Code.wp _ _ _ _ _
          -- stops at: cond
          refine wp_cond_false (rfl) ?_
          refine wp_skip ?_
          show Code.wp _ _ _ _ _
          refine wp_seq ?_
          try simp only [List.nil_append] at h18
          try simp only [List.cons_append] at h18
          try simp only [List.eraseIdx_zero] at h18
          try simp only [List.tail_cons] at h18
          try simp only [List.eraseIdx_cons_succ] at h18
          try simp only [List.eraseIdx_cons_zero] at h18
          try simp only [List.set_cons_succ] at h18
          try simp only [List.set_cons_zero] at h18
          try simp only [List.set_cons_succ] at h18
          try simp only [List.set_cons_zero] at h18
          try simp only [List.setIfInBounds_toArray] at h18
          try simp only [List.set_cons_succ] at h18
          try simp only [List.set_cons_zero] at h18
          try simp only [List.set_cons_succ] at h18
          try simp only [List.set_cons_zero] at h18
          refine wp_region_lit ?_
          -- stops at: eff:call (Go.Op.call {'callee': (Go.Callee.value (Go.Operand.func 23)), 'args': [], 'argTypes': []}) slot 61
          refine wpList_plainQ rfl (fun K Q' hK => ?_); go_simp
          refine (new_ok _ _ h18.fits).mono ?_
          rintro e wM3 ⟨bM3, rfl, hkM3, hbM3, hoM3⟩
          have hCM3 := h18.callnew hkM3 hbM3 hoM3 rfl
          refine hK _ _ ?_; clear hK K; try clear Q'
          iterate 1 (refine wpList_plainQ rfl (fun K Q' hK => ?_); go_simp; refine hK _ _ ?_; clear hK K; try clear Q')
          refine wpList_nil ?_
          show Code.wp _ _ _ _ _
          refine wp_seq ?_
          try simp only [List.nil_append] at hCM3
          try simp only [List.cons_append] at hCM3
          try simp only [List.eraseIdx_zero] at hCM3
          try simp only [List.tail_cons] at hCM3
          try simp only [List.eraseIdx_cons_succ] at hCM3
          try simp only [List.eraseIdx_cons_zero] at hCM3
          try simp only [List.set_cons_succ] at hCM3
          try simp only [List.set_cons_zero] at hCM3
          try simp only [List.set_cons_succ] at hCM3
          try simp only [List.set_cons_zero] at hCM3
          try simp only [List.setIfInBounds_toArray] at hCM3
          try simp only [List.set_cons_succ] at hCM3
          try simp only [List.set_cons_zero] at hCM3
          try simp only [List.set_cons_succ] at hCM3
          try simp only [List.set_cons_zero] at hCM3
          refine wp_region_lit ?_
          have c_6_0 := hCM3.cell 6 rfl 0 rfl
          iterate 2 (refine wpList_plainQ rfl (fun K Q' hK => ?_); go_simp; refine hK _ _ ?_; clear hK K; try clear Q')
          clear c_6_0
          -- stops at: eff:call (Go.Op.call {'callee': (Go.Callee.value (Go.Operand.func 26)), 'args': [(Go.Operand.tmp 63), (Go.Operand.tmp 64)], 'argTypes': [26, 36]}) slot 65
          have hyc : 0 < (Hp.els Xy).length := by have : (Hp.els Xy).length = _ := sXy; omega
          obtain ⟨y, hmXy⟩ : ∃ y, Hp.min? Xy = some y := by
            cases h : Hp.min? Xy with
            | none => rw [Hp.min_none oXy h] at hyc; simp at hyc
            | some y => exact ⟨y, rfl⟩
          refine wpList_plainQ rfl (fun K Q' hK => ?_); go_simp
          refine (hpop_ok (m := some bM3) (hCM3.pre_at (i := 7) rfl) (by omega) hXy_18).mono ?_
          rintro e wXw ⟨rXw, HXw, rfl, hpXw, hXw⟩
          simp only [hmXy, Option.isSome_some]
          have sXw : Hp.size (Hp.pop Xy) = sz := by
            have h1 := (Hp.min_perm oXy hmXy).length_eq
            have h2 : (Hp.els Xy).length = _ := sXy
            show (Hp.els (Hp.pop Xy)).length = _
            simp at h1
            omega
          obtain ⟨pn, hpn⟩ : ∃ n, Hid (PT.popN Xy = n) := ⟨_, show _ = _ from rfl⟩
          have hpl : pn ≤ sz := by
            have h1 := PT.popN_le Xy oXy.1
            rw [hpn.out, show PT.size (PT.pop Xy) = sz from sXw] at h1
            exact h1
          have st3 : IntKind.i64.wrap (0 + ((Hp.popC Xy : Nat) : Int) + (0 + ((Hp.popD Xy : Nat) : Int))) = 2 * (pn : Int) := by
            unfold Hp.popC Hp.popD
            rw [hpn.out, show 0 + (pn : Int) + (0 + (pn : Int)) = 2 * (pn : Int) by omega]
            exact IntWalk.i64_in _ (by omega)
          have e2 : IntKind.i64.wrap (2 * (sz : Int)) = 2 * (sz : Int) := IntWalk.i64_in _ (by omega)
          have dl : decide ((2 : Int) * (pn : Int) ≤ 2 * (sz : Int)) = true := decide_eq_true (by omega)
          have dl2 : (2 : Int) * (pn : Int) ≤ 2 * (sz : Int) := by omega
          obtain ⟨Xw, eXw⟩ : ∃ hp0, Hid (Hp.pop Xy = hp0) := ⟨_, show _ = _ from rfl⟩
          rw [eXw.out] at hXw
          have oXw := hXw.ok
          rw [eXw.out] at sXw
          have h19 := hCM3.call_at (i := 7) rfl hpXw
          have htab_19 := htab_18.mono hpXw.le
          have ha_19 := ha_18.mono hpXw.le
          have hb_19 := hb_18.mono hpXw.le
          have hXp_19 := hXp_18.mono hpXw.le
          have hXq_19 := hXq_18.mono hpXw.le
          have hXz_19 := hXz_18.mono hpXw.le
          have hXy_19 := hXy_18.mono hpXw.le
          refine hK _ _ ?_; clear hK K; try clear Q'
          iterate 3 (refine wpList_plainQ rfl (fun K Q' hK => ?_); go_simp; refine hK _ _ ?_; clear hK K; try clear Q')
          refine wpList_plainQ rfl (fun K Q' hK => ?_); go_simp
          refine h19.k_alloc (fun w20 h20 => ?_)
          refine hK _ _ ?_; clear hK K; try clear Q'
          have c_0 := h20.cell 8 rfl 0 rfl
          have f_0 := h20.free 8 rfl 0
          refine wpList_plainQ rfl (fun K Q' hK => ?_); go_simp
          clear c_0 f_0
          refine h20.k_set 8 rfl (fun w21 h21 => ?_)
          refine hK _ _ ?_; clear hK K; try clear Q'
          iterate 1 (refine wpList_plainQ rfl (fun K Q' hK => ?_); go_simp; refine hK _ _ ?_; clear hK K; try clear Q')
          refine wpList_nil ?_
          show Code.wp _ _ _ _ _
          refine wp_seq ?_
          try simp only [List.nil_append] at h21
          try simp only [List.cons_append] at h21
          try simp only [List.eraseIdx_zero] at h21
          try simp only [List.tail_cons] at h21
          try simp only [List.eraseIdx_cons_succ] at h21
          try simp only [List.eraseIdx_cons_zero] at h21
          try simp only [List.set_cons_succ] at h21
          try simp only [List.set_cons_zero] at h21
          try simp only [List.set_cons_succ] at h21
          try simp only [List.set_cons_zero] at h21
          try simp only [List.setIfInBounds_toArray] at h21
          try simp only [List.set_cons_succ] at h21
          try simp only [List.set_cons_zero] at h21
          try simp only [List.set_cons_succ] at h21
          try simp only [List.set_cons_zero] at h21
          refine h21.region [0, 1, 2, 3, 4, 5, 6, 8] [(0, true), (1, true), (2, true), (4, true), (5, true), (6, true), (7, true), (8, true), (3, false), (9, true), (10, true), (11, true), (12, true), (14, true), (13, false), (15, false), (16, true), (17, true), (18, true), (19, true)] (by kernel_rfl) (by kernel_rfl) (fun w22 h22 => ?_)
          refine wpOrd_hide (fun _ _ d _ _ h => by cases d <;> exact h) (fun QR hQn hQp => ?_)
          simp only [ordOps, List.map_cons, List.map_nil, List.getD_cons_zero, List.getD_cons_succ]
          iterate 2 (refine wpOrd_quiet (v := ?_) rfl (fun _ _ _ => hQp _ _ _ _ _) ?_ ?_; rotate_left; (intro w' hS; (first | (go_simp; done) | (go_simp; with_reducible rfl))); simp only [Act.put, List.setIfInBounds_toArray, List.set_cons_zero, List.set_cons_succ])
          iterate 6 (first | (refine wpOrd_skip rfl (fun _ _ _ => hQp _ _ _ _ _) ?_; simp only [Act.put, List.setIfInBounds_toArray, List.set_cons_zero, List.set_cons_succ]) | (refine wpOrd_quiet (v := ?_) rfl (fun _ _ _ => hQp _ _ _ _ _) ?_ ?_; rotate_left; (intro w' hS; have c_8_0 := hS.cell 7 rfl 0 rfl; (first | (go_simp; done) | (go_simp; with_reducible rfl))); simp only [Act.put, List.setIfInBounds_toArray, List.set_cons_zero, List.set_cons_succ]))
          -- stops at: eff:call (Go.Op.call {'callee': (Go.Callee.value (Go.Operand.func 21)), 'args': [(Go.Operand.tmp 70)], 'argTypes': [26]}) slot 71
          refine wpOrd_effQ rfl (fun K Q' hK => ?_); go_simp
          refine (hsize_ok h22.fits (by omega) hXw).mono ?_
          rintro e wZ2 ⟨HZ2, rfl, hpZ2⟩
          rw [sXw]
          have h23 := h22.call0 hpZ2
          have htab_23 := htab_19.mono hpZ2.le
          have ha_23 := ha_19.mono hpZ2.le
          have hb_23 := hb_19.mono hpZ2.le
          have hXp_23 := hXp_19.mono hpZ2.le
          have hXq_23 := hXq_19.mono hpZ2.le
          have hXz_23 := hXz_19.mono hpZ2.le
          have hXy_23 := hXy_19.mono hpZ2.le
          have hXw_23 := hXw.mono hpZ2.le
          refine hK _ _ (h23.sat' hpZ2.le [0, 1, 2, 3, 4, 5, 6, 8] (by kernel_rfl)) ?_; clear hK K; try clear Q'
          iterate 1 (first | (refine wpOrd_skip rfl (fun _ _ _ => hQp _ _ _ _ _) ?_; simp only [Act.put, List.setIfInBounds_toArray, List.set_cons_zero, List.set_cons_succ]) | (refine wpOrd_quiet (v := ?_) rfl (fun _ _ _ => hQp _ _ _ _ _) ?_ ?_; rotate_left; (intro w' hS; (first | (go_simp; done) | (go_simp; with_reducible rfl))); simp only [Act.put, List.setIfInBounds_toArray, List.set_cons_zero, List.set_cons_succ]))
          iterate 2 (refine wpOrd_quiet (v := ?_) rfl (fun _ _ _ => hQp _ _ _ _ _) ?_ ?_; rotate_left; (intro w' hS; (first | (go_simp; done) | (go_simp; with_reducible rfl))); simp only [Act.put, List.setIfInBounds_toArray, List.set_cons_zero, List.set_cons_succ])
          iterate 2 (first | (refine wpOrd_skip rfl (fun _ _ _ => hQp _ _ _ _ _) ?_; simp only [Act.put, List.setIfInBounds_toArray, List.set_cons_zero, List.set_cons_succ]) | (refine wpOrd_quiet (v := ?_) rfl (fun _ _ _ => hQp _ _ _ _ _) ?_ ?_; rotate_left; (intro w' hS; have c_8_0 := hS.cell 7 rfl 0 rfl; (first | (go_simp; done) | (go_simp; with_reducible rfl))); simp only [Act.put, List.setIfInBounds_toArray, List.set_cons_zero, List.set_cons_succ]))
          -- stops at: eff:call (Go.Op.call {'callee': (Go.Callee.value (Go.Operand.func 28)), 'args': [(Go.Operand.tmp 80)], 'argTypes': [36]}) slot 81
          refine wpOrd_effQ rfl (fun K Q' hK => ?_); go_simp
          refine (steps_ok _ _ bM3 _ _ (h23.pre_at (i := 7) rfl)).mono ?_
          rintro e wS3 ⟨rfl, hpS3⟩
          rw [st3]
          have h24 := h23.call_at (i := 7) rfl hpS3
          have htab_24 := htab_23.mono hpS3.le
          have ha_24 := ha_23.mono hpS3.le
          have hb_24 := hb_23.mono hpS3.le
          have hXp_24 := hXp_23.mono hpS3.le
          have hXq_24 := hXq_23.mono hpS3.le
          have hXz_24 := hXz_23.mono hpS3.le
          have hXy_24 := hXy_23.mono hpS3.le
          have hXw_24 := hXw_23.mono hpS3.le
          refine hK _ _ (h24.sat' (GH.le.trans hpZ2.le hpS3.le) [0, 1, 2, 3, 4, 5, 6, 8] (by kernel_rfl)) ?_; clear hK K; try clear Q'
          -- stops at: eff:call (Go.Op.call {'callee': (Go.Callee.value (Go.Operand.func 21)), 'args': [(Go.Operand.tmp 82)], 'argTypes': [26]}) slot 83
          refine wpOrd_effQ rfl (fun K Q' hK => ?_); go_simp
          refine (hsize_ok h24.fits (by omega) hXw_24).mono ?_
          rintro e wZ3 ⟨HZ3, rfl, hpZ3⟩
          rw [sXw]
          have h25 := h24.call0 hpZ3
          have htab_25 := htab_24.mono hpZ3.le
          have ha_25 := ha_24.mono hpZ3.le
          have hb_25 := hb_24.mono hpZ3.le
          have hXp_25 := hXp_24.mono hpZ3.le
          have hXq_25 := hXq_24.mono hpZ3.le
          have hXz_25 := hXz_24.mono hpZ3.le
          have hXy_25 := hXy_24.mono hpZ3.le
          have hXw_25 := hXw_24.mono hpZ3.le
          refine hK _ _ (h25.sat' (GH.le.trans (GH.le.trans hpZ2.le hpS3.le) hpZ3.le) [0, 1, 2, 3, 4, 5, 6, 8] (by kernel_rfl)) ?_; clear hK K; try clear Q'
          iterate 2 (first | (refine wpOrd_skip rfl (fun _ _ _ => hQp _ _ _ _ _) ?_; simp only [Act.put, List.setIfInBounds_toArray, List.set_cons_zero, List.set_cons_succ]) | (refine wpOrd_quiet (v := ?_) rfl (fun _ _ _ => hQp _ _ _ _ _) ?_ ?_; rotate_left; (intro w' hS; (first | (go_simp; done) | (go_simp; with_reducible rfl))); simp only [Act.put, List.setIfInBounds_toArray, List.set_cons_zero, List.set_cons_succ]))
          iterate 2 (refine wpOrd_quiet (v := ?_) rfl (fun _ _ _ => hQp _ _ _ _ _) ?_ ?_; rotate_left; (intro w' hS; (first | (go_simp; done) | (go_simp; with_reducible rfl))); simp only [Act.put, List.setIfInBounds_toArray, List.set_cons_zero, List.set_cons_succ])
          refine wpOrd_nil (hQn _ _ ?_); clear hQn hQp QR
          show Code.wp _ _ _ _ _
          -- stops at: ret
          refine wp_ret ?_
          go_ret
          exact ⟨rfl, h25.post.keep⟩
    · have hl2 : decide ((100 : Int) < (lb : Int)) = true := by simp; omega
      go_enter Tryd.func5, Tryd.ntmps5
      have h0 := St.start hpre
      refine wp_seq ?_
      try simp only [List.nil_append] at h0
      try simp only [List.cons_append] at h0
      try simp only [List.eraseIdx_zero] at h0
      try simp only [List.tail_cons] at h0
      try simp only [List.eraseIdx_cons_succ] at h0
      try simp only [List.eraseIdx_cons_zero] at h0
      try simp only [List.set_cons_succ] at h0
      try simp only [List.set_cons_zero] at h0
      try simp only [List.set_cons_succ] at h0
      try simp only [List.set_cons_zero] at h0
      try simp only [List.setIfInBounds_toArray] at h0
      try simp only [List.set_cons_succ] at h0
      try simp only [List.set_cons_zero] at h0
      try simp only [List.set_cons_succ] at h0
      try simp only [List.set_cons_zero] at h0
      refine wp_region_lit ?_
      refine wpList_plainQ rfl (fun K Q' hK => ?_); go_simp
      refine h0.k_alloc (fun w1 h1 => ?_)
      refine hK _ _ ?_; clear hK K; try clear Q'
      iterate 1 (refine wpList_plainQ rfl (fun K Q' hK => ?_); go_simp; refine hK _ _ ?_; clear hK K; try clear Q')
      refine wpList_nil ?_
      show Code.wp _ _ _ _ _
      refine wp_seq ?_
      try simp only [List.nil_append] at h1
      try simp only [List.cons_append] at h1
      try simp only [List.eraseIdx_zero] at h1
      try simp only [List.tail_cons] at h1
      try simp only [List.eraseIdx_cons_succ] at h1
      try simp only [List.eraseIdx_cons_zero] at h1
      try simp only [List.set_cons_succ] at h1
      try simp only [List.set_cons_zero] at h1
      try simp only [List.set_cons_succ] at h1
      try simp only [List.set_cons_zero] at h1
      try simp only [List.setIfInBounds_toArray] at h1
      try simp only [List.set_cons_succ] at h1
      try simp only [List.set_cons_zero] at h1
      try simp only [List.set_cons_succ] at h1
      try simp only [List.set_cons_zero] at h1
      refine wp_region_lit ?_
      -- stops at: eff:call (Go.Op.call {'callee': (Go.Callee.value (Go.Operand.func 14)), 'args': [], 'argTypes': []}) slot 16
      refine wpList_plainQ rfl (fun K Q' hK => ?_); go_simp
      refine (awake_ok H _ h1.fits htab).mono ?_
      rintro e wAw ⟨HAw, rfl, hpAw⟩
      have h2 := h1.call0 hpAw
      have htab_2 := htab.mono hpAw.le
      refine hK _ _ ?_; clear hK K; try clear Q'
      iterate 1 (refine wpList_plainQ rfl (fun K Q' hK => ?_); go_simp; refine hK _ _ ?_; clear hK K; try clear Q')
      refine wpList_nil ?_
      show Code.wp _ _ _ _ _
      refine wp_seq ?_
      refine wp_seq ?_
      try simp only [List.nil_append] at h2
      try simp only [List.cons_append] at h2
      try simp only [List.eraseIdx_zero] at h2
      try simp only [List.tail_cons] at h2
      try simp only [List.eraseIdx_cons_succ] at h2
      try simp only [List.eraseIdx_cons_zero] at h2
      try simp only [List.set_cons_succ] at h2
      try simp only [List.set_cons_zero] at h2
      try simp only [List.set_cons_succ] at h2
      try simp only [List.set_cons_zero] at h2
      try simp only [List.setIfInBounds_toArray] at h2
      try simp only [List.set_cons_succ] at h2
      try simp only [List.set_cons_zero] at h2
      try simp only [List.set_cons_succ] at h2
      try simp only [List.set_cons_zero] at h2
      refine wp_region_lit ?_
      iterate 2 (refine wpList_plainQ rfl (fun K Q' hK => ?_); go_simp; refine hK _ _ ?_; clear hK K; try clear Q')
      refine wpList_nil ?_
      show Code.wp _ _ _ _ _
      -- stops at: cond
      refine wp_cond_false (rfl) ?_
      refine wp_skip ?_
      show Code.wp _ _ _ _ _
      refine wp_seq ?_
      refine wp_seq ?_
      refine wp_region_lit ?_
      iterate 4 (refine wpList_plainQ rfl (fun K Q' hK => ?_); go_simp; refine hK _ _ ?_; clear hK K; try clear Q')
      first | go_skip | (iterate 3 (refine wpList_stepQ (o := { dst := _, op := _, type := _, pos := _, after := _, guard := some (3, false) }) (fun K Q' hK => ?_); go_simp; refine hK _ _ ?_; clear hK K; try clear Q')) | skip
      iterate 1 (refine wpList_plainQ rfl (fun K Q' hK => ?_); go_simp; refine hK _ _ ?_; clear hK K; try clear Q')
      refine wpList_nil ?_
      show Code.wp _ _ _ _ _
      -- stops at: cond
      refine wp_cond_true (rfl) ?_
      refine wp_seq ?_
      refine wp_region_lit ?_
      iterate 1 (refine wpList_plainQ rfl (fun K Q' hK => ?_); go_simp; refine hK _ _ ?_; clear hK K; try clear Q')
      refine wpList_nil ?_
      show Code.wp _ _ _ _ _
      -- stops at: ret
      refine wp_ret ?_
      go_ret
      exact ⟨rfl, h2.post.keep⟩
  · have hl1 : decide ((100 : Int) < (la : Int)) = true := by simp; omega
    go_enter Tryd.func5, Tryd.ntmps5
    have h0 := St.start hpre
    refine wp_seq ?_
    try simp only [List.nil_append] at h0
    try simp only [List.cons_append] at h0
    try simp only [List.eraseIdx_zero] at h0
    try simp only [List.tail_cons] at h0
    try simp only [List.eraseIdx_cons_succ] at h0
    try simp only [List.eraseIdx_cons_zero] at h0
    try simp only [List.set_cons_succ] at h0
    try simp only [List.set_cons_zero] at h0
    try simp only [List.set_cons_succ] at h0
    try simp only [List.set_cons_zero] at h0
    try simp only [List.setIfInBounds_toArray] at h0
    try simp only [List.set_cons_succ] at h0
    try simp only [List.set_cons_zero] at h0
    try simp only [List.set_cons_succ] at h0
    try simp only [List.set_cons_zero] at h0
    refine wp_region_lit ?_
    refine wpList_plainQ rfl (fun K Q' hK => ?_); go_simp
    refine h0.k_alloc (fun w1 h1 => ?_)
    refine hK _ _ ?_; clear hK K; try clear Q'
    iterate 1 (refine wpList_plainQ rfl (fun K Q' hK => ?_); go_simp; refine hK _ _ ?_; clear hK K; try clear Q')
    refine wpList_nil ?_
    show Code.wp _ _ _ _ _
    refine wp_seq ?_
    try simp only [List.nil_append] at h1
    try simp only [List.cons_append] at h1
    try simp only [List.eraseIdx_zero] at h1
    try simp only [List.tail_cons] at h1
    try simp only [List.eraseIdx_cons_succ] at h1
    try simp only [List.eraseIdx_cons_zero] at h1
    try simp only [List.set_cons_succ] at h1
    try simp only [List.set_cons_zero] at h1
    try simp only [List.set_cons_succ] at h1
    try simp only [List.set_cons_zero] at h1
    try simp only [List.setIfInBounds_toArray] at h1
    try simp only [List.set_cons_succ] at h1
    try simp only [List.set_cons_zero] at h1
    try simp only [List.set_cons_succ] at h1
    try simp only [List.set_cons_zero] at h1
    refine wp_region_lit ?_
    -- stops at: eff:call (Go.Op.call {'callee': (Go.Callee.value (Go.Operand.func 14)), 'args': [], 'argTypes': []}) slot 16
    refine wpList_plainQ rfl (fun K Q' hK => ?_); go_simp
    refine (awake_ok H _ h1.fits htab).mono ?_
    rintro e wAw ⟨HAw, rfl, hpAw⟩
    have h2 := h1.call0 hpAw
    have htab_2 := htab.mono hpAw.le
    refine hK _ _ ?_; clear hK K; try clear Q'
    iterate 1 (refine wpList_plainQ rfl (fun K Q' hK => ?_); go_simp; refine hK _ _ ?_; clear hK K; try clear Q')
    refine wpList_nil ?_
    show Code.wp _ _ _ _ _
    refine wp_seq ?_
    refine wp_seq ?_
    try simp only [List.nil_append] at h2
    try simp only [List.cons_append] at h2
    try simp only [List.eraseIdx_zero] at h2
    try simp only [List.tail_cons] at h2
    try simp only [List.eraseIdx_cons_succ] at h2
    try simp only [List.eraseIdx_cons_zero] at h2
    try simp only [List.set_cons_succ] at h2
    try simp only [List.set_cons_zero] at h2
    try simp only [List.set_cons_succ] at h2
    try simp only [List.set_cons_zero] at h2
    try simp only [List.setIfInBounds_toArray] at h2
    try simp only [List.set_cons_succ] at h2
    try simp only [List.set_cons_zero] at h2
    try simp only [List.set_cons_succ] at h2
    try simp only [List.set_cons_zero] at h2
    refine wp_region_lit ?_
    iterate 2 (refine wpList_plainQ rfl (fun K Q' hK => ?_); go_simp; refine hK _ _ ?_; clear hK K; try clear Q')
    refine wpList_nil ?_
    show Code.wp _ _ _ _ _
    -- stops at: cond
    refine wp_cond_false (rfl) ?_
    refine wp_skip ?_
    show Code.wp _ _ _ _ _
    refine wp_seq ?_
    refine wp_seq ?_
    refine wp_region_lit ?_
    iterate 4 (refine wpList_plainQ rfl (fun K Q' hK => ?_); go_simp; refine hK _ _ ?_; clear hK K; try clear Q')
    first | go_skip | (iterate 3 (refine wpList_stepQ (o := { dst := _, op := _, type := _, pos := _, after := _, guard := some (3, false) }) (fun K Q' hK => ?_); go_simp; refine hK _ _ ?_; clear hK K; try clear Q')) | skip
    iterate 1 (refine wpList_plainQ rfl (fun K Q' hK => ?_); go_simp; refine hK _ _ ?_; clear hK K; try clear Q')
    refine wpList_nil ?_
    show Code.wp _ _ _ _ _
    -- stops at: cond
    refine wp_cond_true (rfl) ?_
    refine wp_seq ?_
    refine wp_region_lit ?_
    iterate 1 (refine wpList_plainQ rfl (fun K Q' hK => ?_); go_simp; refine hK _ _ ?_; clear hK K; try clear Q')
    refine wpList_nil ?_
    show Code.wp _ _ _ _ _
    -- stops at: ret
    refine wp_ret ?_
    go_ret
    exact ⟨rfl, h2.post.keep⟩
end Go.Proofs.YtenkmpeiepibpaaDoor
