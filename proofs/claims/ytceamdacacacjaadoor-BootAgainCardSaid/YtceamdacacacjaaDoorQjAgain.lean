/-
Again: its walk.
-/
import Derived.Test.YtceamdacacacjaaDoorQbPlain
namespace Go.Proofs.YtceamdacacacjaaDoor
open Go Go.RowKit
set_option linter.unusedVariables false

/-- A row turned: whichever it begins with, it has the same elements. -/
theorem rot_perm (l : List El) (b : Nat) (h : 0 < l.length) : ((List.range l.length).map fun i => l.getD ((i + b) % l.length) (0, 0)).Perm l := by
  have hr : b % l.length < l.length := Nat.mod_lt _ h
  have e : ((List.range l.length).map fun i => l.getD ((i + b) % l.length) (0, 0)) = l.drop (b % l.length) ++ l.take (b % l.length) := by
    apply List.ext_getElem?
    intro i
    rw [List.getElem?_map]
    by_cases hi : i < l.length
    · rw [List.getElem?_range hi]
      simp only [Option.map_some]
      have hmod : (i + b) % l.length = (i + b % l.length) % l.length := by rw [Nat.add_mod, Nat.add_mod i (b % l.length), Nat.mod_mod]
      rw [hmod]
      by_cases hlt : i + b % l.length < l.length
      · rw [Nat.mod_eq_of_lt hlt, List.getElem?_append_left (by simp; omega), List.getElem?_drop, List.getD_eq_getElem?_getD, Nat.add_comm, List.getElem?_eq_getElem (by omega)]
        rfl
      · have h2 : (i + b % l.length) % l.length = i + b % l.length - l.length := by
          rw [Nat.mod_eq_sub_mod (by omega), Nat.mod_eq_of_lt (by omega)]
        rw [h2, List.getElem?_append_right (by simp; omega), List.length_drop, List.getElem?_take, if_pos (by omega), List.getD_eq_getElem?_getD]
        rw [show i - (l.length - b % l.length) = i + b % l.length - l.length by omega, List.getElem?_eq_getElem (by omega)]
        rfl
    · rw [List.getElem?_eq_none (by simp; omega), List.getElem?_eq_none (by simp; omega)]
      rfl
  rw [e]
  exact List.perm_append_comm.trans (by rw [List.take_append_drop])

theorem sortE_sort (l : List El) : sortE (sortE l) = sortE l := sortE_of_sorted (sortE_sorted l)

/-- What holds ahead of each round of the first loop. -/
def AgInv (w : World) (H : GH) (A : Nat) (a : List El) (n12 : Nat) (v9 v10 : Value) (wr : World) : Prop :=
  ∃ (k : Nat) (X : Hp) (q : Option Addr) (H' : GH) (dn : List El), k ≤ n12 ∧ v10 = .int .i64 k ∧ dn.length ≤ k ∧ Hid (dn ++ sortE (Hp.els X) = sortE a) ∧ TabH H' ∧ HpR H' q X ∧
    St w H none 0 0 wr H' [(A, .cells #[.pointer q] 26)] [⟨v9, 41, 2, dn.length, dn.flatMap elC⟩]
/-- .. of the second. -/
def AgInv2 (w : World) (H H6 : GH) (A B C : Nat) (X : Hp) (q : Option Addr) (dn : List El) (b : Nat) (v17 : Value) (wr : World) : Prop :=
  ∃ (k : Nat) (O K : Hp) (r s : Option Addr) (H' : GH), k ≤ dn.length ∧ v17 = .int .i64 k ∧ H6.le H' ∧ HpR H' r O ∧ HpR H' s K ∧ Hid ((Hp.els O).Perm ((List.range k).map fun i => dn.getD ((i + b) % dn.length) (0, 0))) ∧ Hid ((Hp.els K).Perm (Hp.els X ++ dn.reverse.take k)) ∧
    St w H none 0 0 wr H' [(A, .cells #[.pointer q] 26), (B, .cells #[.pointer r] 26), (C, .cells #[.pointer s] 26)] []

set_option maxRecDepth 100000 in
set_option maxHeartbeats 16000000 in
theorem again_walk (H : GH) (w : World) (v : Value) (a : List El) (n : Int) (b : Int) (hf : Fits w H) (htab : TabH H) (ha : ElRep H v a) (fa : ∀ x ∈ a, El.fits x) (hn : 0 ≤ n ∧ n ≤ 255) (hb : 0 ≤ b ∧ b ≤ 255) :
    Calls Tryd.prog 11 #[v, .int .u8 n, .int .u8 b] w fun e w' => e = .returned (.bool true) ∧ Keep none w w' := by
  have hpre : Pre w H none 0 0 := Pre.none hf 0 0
  obtain ⟨aa, ca, rfl, _, _⟩ := ha.nil_or
  obtain ⟨n, rfl⟩ := Int.eq_ofNat_of_zero_le hn.1
  obtain ⟨b, rfl⟩ := Int.eq_ofNat_of_zero_le hb.1
  have en : IntKind.i64.wrap (n : Int) = (n : Int) := IntWalk.i64_in _ (by omega)
  have eb : IntKind.i64.wrap (b : Int) = (b : Int) := IntWalk.i64_in _ (by omega)
  obtain ⟨k12, hk12, hk12l⟩ : ∃ k : Nat, (n : Int).tmod 12 = (k : Int) ∧ k < 12 := ⟨n % 12, rfl, Nat.mod_lt _ (by omega)⟩
  by_cases hl : a.length ≤ 40
  · have hl1 : decide ((40 : Int) < (a.length : Int)) = false := by simp; omega
    go_enter Tryd.func11, Tryd.ntmps11
    have h0 := St.start hpre
    refine wp_seq ?_
    repeat (first | simp only [List.nil_append] at h0 | simp only [List.cons_append] at h0 | simp only [List.set_cons_zero] at h0 | simp only [List.set_cons_succ] at h0 | simp only [List.eraseIdx_zero] at h0 | simp only [List.tail_cons] at h0 | simp only [List.eraseIdx_cons_zero] at h0 | simp only [List.eraseIdx_cons_succ] at h0 | simp only [List.setIfInBounds_toArray] at h0)
    refine wp_region_lit ?_
    iterate 1 (refine wpList_plainQ rfl (fun K Q' hK => ?_); go_simp; refine hK _ _ ?_; clear hK K; try clear Q')
    refine wpList_nil ?_
    show Code.wp _ _ _ _ _
    refine wp_seq ?_
    refine wp_region_lit ?_
    -- stops at: eff:call (Go.Op.call {'callee': (Go.Callee.value (Go.Operand.func 13)), 'args': [], 'argTypes': []}) slot 19
    refine wpList_plainQ rfl (fun K Q' hK => ?_); go_simp
    refine (awake_ok H _ h0.fits htab).mono ?_
    rintro e wAw ⟨HAw, rfl, hpAw⟩
    have h1 := h0.call0 hpAw
    have htab_1 := htab.mono hpAw.le
    have ha_1 := ha.mono hpAw.le
    refine hK _ _ ?_; clear hK K; try clear Q'
    iterate 1 (refine wpList_plainQ rfl (fun K Q' hK => ?_); go_simp; refine hK _ _ ?_; clear hK K; try clear Q')
    refine wpList_nil ?_
    show Code.wp _ _ _ _ _
    refine wp_seq ?_
    refine wp_seq ?_
    repeat (first | simp only [List.nil_append] at h1 | simp only [List.cons_append] at h1 | simp only [List.set_cons_zero] at h1 | simp only [List.set_cons_succ] at h1 | simp only [List.eraseIdx_zero] at h1 | simp only [List.tail_cons] at h1 | simp only [List.eraseIdx_cons_zero] at h1 | simp only [List.eraseIdx_cons_succ] at h1 | simp only [List.setIfInBounds_toArray] at h1)
    refine wp_region_lit ?_
    iterate 2 (refine wpList_plainQ rfl (fun K Q' hK => ?_); go_simp; refine hK _ _ ?_; clear hK K; try clear Q')
    refine wpList_nil ?_
    show Code.wp _ _ _ _ _
    -- stops at: cond
    refine wp_cond_false (rfl) ?_
    refine wp_skip ?_
    show Code.wp _ _ _ _ _
    refine wp_seq ?_
    refine wp_seq ?_
    refine wp_region_lit ?_
    iterate 3 (refine wpList_plainQ rfl (fun K Q' hK => ?_); go_simp; refine hK _ _ ?_; clear hK K; try clear Q')
    refine wpList_nil ?_
    show Code.wp _ _ _ _ _
    -- stops at: cond
    refine wp_cond_false (rfl) ?_
    refine wp_skip ?_
    show Code.wp _ _ _ _ _
    refine wp_seq ?_
    refine wp_region_lit ?_
    iterate 1 (refine wpList_plainQ rfl (fun K Q' hK => ?_); go_simp; refine hK _ _ ?_; clear hK K; try clear Q')
    -- stops at: eff:call (Go.Op.call {'callee': (Go.Callee.value (Go.Operand.func 14)), 'args': [(Go.Operand.const (Go.Value.pointer none)), (Go.Operand.tmp 25)], 'argTypes': [36, 22]}) slot 26
    refine wpList_plainQ rfl (fun K Q' hK => ?_); go_simp
    refine (hof_ok (m := none) (xs := a) fa h1.pre (by omega) ha_1).mono ?_
    rintro e wXx ⟨rXx, HXx, rfl, hpXx, hXx⟩
    obtain ⟨Xx, eXx⟩ : ∃ hp0, Hid (Hp.ofL a = hp0) := ⟨_, show _ = _ from rfl⟩
    rw [eXx.out] at hXx
    have oXx := hXx.ok
    have pXx : Hid ((Hp.els Xx).Perm (a)) := by rw [← eXx.out]; exact Hp.els_ofL _
    have sXx : Hp.size Xx = (a).length := pXx.out.length_eq
    have h2 := h1.call0 hpXx
    have htab_2 := htab_1.mono hpXx.le
    have ha_2 := ha_1.mono hpXx.le
    refine hK _ _ ?_; clear hK K; try clear Q'
    refine wpList_plainQ rfl (fun K Q' hK => ?_); go_simp
    refine h2.k_alloc (fun w3 h3 => ?_)
    refine hK _ _ ?_; clear hK K; try clear Q'
    have c_0 := h3.cell 0 rfl 0 rfl
    have f_0 := h3.free 0 rfl 0
    refine wpList_plainQ rfl (fun K Q' hK => ?_); go_simp
    clear c_0 f_0
    refine h3.k_set 0 rfl (fun w4 h4 => ?_)
    refine hK _ _ ?_; clear hK K; try clear Q'
    refine wpList_nil ?_
    show Code.wp _ _ _ _ _
    refine wp_seq ?_
    repeat (first | simp only [List.nil_append] at h4 | simp only [List.cons_append] at h4 | simp only [List.set_cons_zero] at h4 | simp only [List.set_cons_succ] at h4 | simp only [List.eraseIdx_zero] at h4 | simp only [List.tail_cons] at h4 | simp only [List.eraseIdx_cons_zero] at h4 | simp only [List.eraseIdx_cons_succ] at h4 | simp only [List.setIfInBounds_toArray] at h4)
    refine wp_region_lit ?_
    iterate 1 (refine wpList_plainQ rfl (fun K Q' hK => ?_); go_simp; refine hK _ _ ?_; clear hK K; try clear Q')
    refine wpList_nil ?_
    show Code.wp _ _ _ _ _
    refine wp_seq ?_
    refine wp_seq ?_
    refine wp_region_lit ?_
    iterate 1 (refine wpList_plainQ rfl (fun K Q' hK => ?_); go_simp; refine hK _ _ ?_; clear hK K; try clear Q')
    refine wpList_nil ?_
    show Code.wp _ _ _ _ _
    refine wp_block ?_
    -- stops at: loop
    repeat (first | simp only [List.nil_append] at h4 | simp only [List.cons_append] at h4 | simp only [List.set_cons_zero] at h4 | simp only [List.set_cons_succ] at h4 | simp only [List.eraseIdx_zero] at h4 | simp only [List.tail_cons] at h4 | simp only [List.eraseIdx_cons_zero] at h4 | simp only [List.eraseIdx_cons_succ] at h4 | simp only [List.setIfInBounds_toArray] at h4)
    have h90 := h4.row0 41 2
    go_loopw [9, 10] (fun v9 v10 wr => AgInv w H wXx.heap.size a k12 v9 v10 wr) (fun _ v10 _ => k12 - (intOf v10).toNat)
    case atStart =>
      show AgInv _ _ _ _ _ _ _ _
      unfold AgInv
      exact ⟨0, Xx, _, _, [], by omega, rfl, by simp, by show _ = _; rw [sortE_congr pXx.out]; rfl, htab_2, hXx, h90⟩
    case round =>
      obtain ⟨k, X, q, H7, dn, hk, rfl, hdk, hdn, htab7, hX, hs⟩ := hrel
      obtain ⟨a9, c9, rfl⟩ := hs.row_form 0 rfl
      obtain ⟨L, hL⟩ : ∃ L, Hid (Hp.size X = L) := ⟨_, show _ = _ from rfl⟩
      have sX := hL.out
      have oX := hX.ok
      have hdl : dn.length + L = a.length := by
        have h1 := congrArg List.length hdn.out
        rw [List.length_append, sortE_length, sortE_length] at h1
        rw [← sX]; exact h1
      by_cases hlt : k < k12
      · have e1 : IntKind.i64.wrap ((k : Int) + 1) = (k : Int) + 1 := IntWalk.i64_in _ (by omega)
        have hsp := Hp.size_pop oX
        cases hm : Hp.min? X with
        | none =>
          have hmX := hm
          have hL0 : L = 0 := by rw [← sX, Hp.size_eq, Hp.min_none oX hm]; rfl
          subst hL0
          refine wp_seq ?_
          refine wp_seq ?_
          repeat (first | simp only [List.nil_append] at hs | simp only [List.cons_append] at hs | simp only [List.set_cons_zero] at hs | simp only [List.set_cons_succ] at hs | simp only [List.eraseIdx_zero] at hs | simp only [List.tail_cons] at hs | simp only [List.eraseIdx_cons_zero] at hs | simp only [List.eraseIdx_cons_succ] at hs | simp only [List.setIfInBounds_toArray] at hs)
          refine wp_region_lit ?_
          iterate 5 (refine wpList_plainQ rfl (fun K Q' hK => ?_); go_simp; refine hK _ _ ?_; clear hK K; try clear Q')
          refine wpList_nil ?_
          show Code.wp _ _ _ _ _
          -- stops at: cond
          refine wp_cond_true (rfl) ?_
          refine wp_skip ?_
          show Code.wp _ _ _ _ _
          refine wp_seq ?_
          refine wp_block ?_
          refine wp_seq ?_
          refine wp_region_lit ?_
          have c_0_0 := hs.cell 0 rfl 0 rfl
          iterate 1 (refine wpList_plainQ rfl (fun K Q' hK => ?_); go_simp; refine hK _ _ ?_; clear hK K; try clear Q')
          clear c_0_0
          -- stops at: eff:call (Go.Op.call {'callee': (Go.Callee.value (Go.Operand.func 27)), 'args': [(Go.Operand.tmp 35), (Go.Operand.const (Go.Value.pointer none))], 'argTypes': [26, 36]}) slot 36
          refine wpList_plainQ rfl (fun K Q' hK => ?_); go_simp
          refine (hmin_ok (m := none) hs.pre (by omega) hX).mono ?_
          rintro e wMn ⟨HMn, rfl, hpMn⟩
          try simp only [hmX]
          try simp only [Option.getD_some, Option.isSome_some]
          try simp only [Option.getD_none, Option.isSome_none]
          have h5 := hs.call0 hpMn
          have htab7_5 := htab7.mono hpMn.le
          have hX_5 := hX.mono hpMn.le
          refine hK _ _ ?_; clear hK K; try clear Q'
          iterate 3 (refine wpList_plainQ rfl (fun K Q' hK => ?_); go_simp; refine hK _ _ ?_; clear hK K; try clear Q')
          refine wpList_plainQ rfl (fun K Q' hK => ?_); go_simp
          refine h5.k_alloc (fun w6 h6 => ?_)
          refine hK _ _ ?_; clear hK K; try clear Q'
          have c_0 := h6.cell 1 rfl 0 rfl
          have f_0 := h6.free 1 rfl 0
          have c_1 := h6.cell 1 rfl 1 rfl
          have f_1 := h6.free 1 rfl 1
          refine wpList_plainQ rfl (fun K Q' hK => ?_); go_simp
          clear c_0 f_0 c_1 f_1
          refine (h6.set (i := 1) rfl 0 _).k_set 1 rfl (fun w7 h7 => ?_)
          refine hK _ _ ?_; clear hK K; try clear Q'
          iterate 1 (refine wpList_plainQ rfl (fun K Q' hK => ?_); go_simp; refine hK _ _ ?_; clear hK K; try clear Q')
          refine wpList_nil ?_
          show Code.wp _ _ _ _ _
          refine wp_seq ?_
          repeat (first | simp only [List.nil_append] at h7 | simp only [List.cons_append] at h7 | simp only [List.set_cons_zero] at h7 | simp only [List.set_cons_succ] at h7 | simp only [List.eraseIdx_zero] at h7 | simp only [List.tail_cons] at h7 | simp only [List.eraseIdx_cons_zero] at h7 | simp only [List.eraseIdx_cons_succ] at h7 | simp only [List.setIfInBounds_toArray] at h7)
          refine wp_region_lit ?_
          have c_0_0 := h7.cell 0 rfl 0 rfl
          iterate 1 (refine wpList_plainQ rfl (fun K Q' hK => ?_); go_simp; refine hK _ _ ?_; clear hK K; try clear Q')
          clear c_0_0
          -- stops at: eff:call (Go.Op.call {'callee': (Go.Callee.value (Go.Operand.func 25)), 'args': [(Go.Operand.tmp 40), (Go.Operand.const (Go.Value.pointer none))], 'argTypes': [26, 36]}) slot 41
          refine wpList_plainQ rfl (fun K Q' hK => ?_); go_simp
          refine (hpop_ok (m := none) h7.pre (by omega) hX_5).mono ?_
          rintro e wXp ⟨rXp, HXp, rfl, hpXp, hXp⟩
          try simp only [hmX]
          try simp only [Option.isSome_some]
          try simp only [Option.isSome_none]
          obtain ⟨Xp, eXp⟩ : ∃ hp0, Hid (Hp.pop X = hp0) := ⟨_, show _ = _ from rfl⟩
          rw [eXp.out] at hXp
          have oXp := hXp.ok
          have h8 := h7.call0 hpXp
          have htab7_8 := htab7_5.mono hpXp.le
          have hX_8 := hX_5.mono hpXp.le
          refine hK _ _ ?_; clear hK K; try clear Q'
          iterate 3 (refine wpList_plainQ rfl (fun K Q' hK => ?_); go_simp; refine hK _ _ ?_; clear hK K; try clear Q')
          refine wpList_plainQ rfl (fun K Q' hK => ?_); go_simp
          refine h8.k_alloc (fun w9 h9 => ?_)
          refine hK _ _ ?_; clear hK K; try clear Q'
          have c_0 := h9.cell 2 rfl 0 rfl
          have f_0 := h9.free 2 rfl 0
          refine wpList_plainQ rfl (fun K Q' hK => ?_); go_simp
          clear c_0 f_0
          refine h9.k_set 2 rfl (fun w10 h10 => ?_)
          refine hK _ _ ?_; clear hK K; try clear Q'
          iterate 1 (refine wpList_plainQ rfl (fun K Q' hK => ?_); go_simp; refine hK _ _ ?_; clear hK K; try clear Q')
          refine wpList_nil ?_
          show Code.wp _ _ _ _ _
          refine wp_seq ?_
          refine wp_seq ?_
          repeat (first | simp only [List.nil_append] at h10 | simp only [List.cons_append] at h10 | simp only [List.set_cons_zero] at h10 | simp only [List.set_cons_succ] at h10 | simp only [List.eraseIdx_zero] at h10 | simp only [List.tail_cons] at h10 | simp only [List.eraseIdx_cons_zero] at h10 | simp only [List.eraseIdx_cons_succ] at h10 | simp only [List.setIfInBounds_toArray] at h10)
          refine wp_region_lit ?_
          iterate 4 (refine wpList_plainQ rfl (fun K Q' hK => ?_); go_simp; refine hK _ _ ?_; clear hK K; try clear Q')
          have c_0_0 := h10.cell 0 rfl 0 rfl
          first | go_skip | (iterate 2 (refine wpList_stepQ (o := { dst := _, op := _, type := _, pos := _, after := _, guard := some (3, false) }) (fun K Q' hK => ?_); go_simp; refine hK _ _ ?_; clear hK K; try clear Q')) | skip
          clear c_0_0
          -- stops at: eff:call (Go.Op.call {'callee': (Go.Callee.value (Go.Operand.func 20)), 'args': [(Go.Operand.tmp 49)], 'argTypes': [26]}) slot 50
          refine wpList_stepQ (fun K Q' hK => ?_); go_simp
          refine (hsize_ok h10.fits (by omega) hX_8).mono ?_
          rintro e wZ1 ⟨HZ1, rfl, hpZ1⟩
          rw [sX]
          have h11 := h10.call0 hpZ1
          have htab7_11 := htab7_8.mono hpZ1.le
          have hX_11 := hX_8.mono hpZ1.le
          have hXp_11 := hXp.mono hpZ1.le
          refine hK _ _ ?_; clear hK K; try clear Q'
          first | go_skip | (iterate 2 (refine wpList_stepQ (o := { dst := _, op := _, type := _, pos := _, after := _, guard := some (3, false) }) (fun K Q' hK => ?_); go_simp; refine hK _ _ ?_; clear hK K; try clear Q')) | skip
          iterate 1 (refine wpList_plainQ rfl (fun K Q' hK => ?_); go_simp; refine hK _ _ ?_; clear hK K; try clear Q')
          refine wpList_nil ?_
          show Code.wp _ _ _ _ _
          -- stops at: cond
          refine wp_cond_false (rfl) ?_
          refine wp_skip ?_
          show Code.wp _ _ _ _ _
          refine wp_seq ?_
          refine wp_seq ?_
          repeat (first | simp only [List.nil_append] at h11 | simp only [List.cons_append] at h11 | simp only [List.set_cons_zero] at h11 | simp only [List.set_cons_succ] at h11 | simp only [List.eraseIdx_zero] at h11 | simp only [List.tail_cons] at h11 | simp only [List.eraseIdx_cons_zero] at h11 | simp only [List.eraseIdx_cons_succ] at h11 | simp only [List.setIfInBounds_toArray] at h11)
          refine wp_region_lit ?_
          iterate 1 (refine wpList_plainQ rfl (fun K Q' hK => ?_); go_simp; refine hK _ _ ?_; clear hK K; try clear Q')
          refine wpList_nil ?_
          show Code.wp _ _ _ _ _
          -- stops at: cond
          refine wp_cond_false (rfl) ?_
          refine wp_skip ?_
          show Code.wp _ _ _ _ _
          refine wp_region_lit ?_
          have c_2_0 := h11.cell 2 rfl 0 rfl
          iterate 1 (refine wpList_plainQ rfl (fun K Q' hK => ?_); go_simp; refine hK _ _ ?_; clear hK K; try clear Q')
          clear c_2_0
          have c_0 := h11.cell 0 rfl 0 rfl
          have f_0 := h11.free 0 rfl 0
          refine wpList_plainQ rfl (fun K Q' hK => ?_); go_simp
          clear c_0 f_0
          refine h11.k_set 0 rfl (fun w12 h12 => ?_)
          refine hK _ _ ?_; clear hK K; try clear Q'
          refine wpList_nil ?_
          show Code.wp _ _ _ _ _
          repeat (first | simp only [List.nil_append] at h12 | simp only [List.cons_append] at h12 | simp only [List.set_cons_zero] at h12 | simp only [List.set_cons_succ] at h12 | simp only [List.eraseIdx_zero] at h12 | simp only [List.tail_cons] at h12 | simp only [List.eraseIdx_cons_zero] at h12 | simp only [List.eraseIdx_cons_succ] at h12 | simp only [List.setIfInBounds_toArray] at h12)
          refine wp_region_lit ?_
          iterate 3 (refine wpList_plainQ rfl (fun K Q' hK => ?_); go_simp; refine hK _ _ ?_; clear hK K; try clear Q')
          refine wpList_nil ?_
          -- stops at: end ('roundend',)
          show _ ∧ _
          go_roundw
          case rel =>
            show AgInv _ _ _ _ _ _ _ _
            unfold AgInv
            refine ⟨k + 1, Xp, _, _, dn, by omega, by simp, by omega, ?_, htab7_11, hXp_11, h12.take 1⟩
            rw [← eXp.out, Hp.pop_none oX hm]; exact hdn
          case measure => simp [intOf]; omega
        | some x =>
          have hmX := hm
          have hL0 : 0 < L := by
            have h1 := Hp.sort_min oX hm
            have h2 := congrArg List.length h1
            rw [sortE_length] at h2
            rw [← sX, Hp.size_eq, h2]; simp
          have d0 : decide (0 < L) = true := decide_eq_true hL0
          refine wp_seq ?_
          refine wp_seq ?_
          repeat (first | simp only [List.nil_append] at hs | simp only [List.cons_append] at hs | simp only [List.set_cons_zero] at hs | simp only [List.set_cons_succ] at hs | simp only [List.eraseIdx_zero] at hs | simp only [List.tail_cons] at hs | simp only [List.eraseIdx_cons_zero] at hs | simp only [List.eraseIdx_cons_succ] at hs | simp only [List.setIfInBounds_toArray] at hs)
          refine wp_region_lit ?_
          iterate 5 (refine wpList_plainQ rfl (fun K Q' hK => ?_); go_simp; refine hK _ _ ?_; clear hK K; try clear Q')
          refine wpList_nil ?_
          show Code.wp _ _ _ _ _
          -- stops at: cond
          refine wp_cond_true (rfl) ?_
          refine wp_skip ?_
          show Code.wp _ _ _ _ _
          refine wp_seq ?_
          refine wp_block ?_
          refine wp_seq ?_
          refine wp_region_lit ?_
          have c_0_0 := hs.cell 0 rfl 0 rfl
          iterate 1 (refine wpList_plainQ rfl (fun K Q' hK => ?_); go_simp; refine hK _ _ ?_; clear hK K; try clear Q')
          clear c_0_0
          -- stops at: eff:call (Go.Op.call {'callee': (Go.Callee.value (Go.Operand.func 27)), 'args': [(Go.Operand.tmp 35), (Go.Operand.const (Go.Value.pointer none))], 'argTypes': [26, 36]}) slot 36
          refine wpList_plainQ rfl (fun K Q' hK => ?_); go_simp
          refine (hmin_ok (m := none) hs.pre (by omega) hX).mono ?_
          rintro e wMn ⟨HMn, rfl, hpMn⟩
          try simp only [hmX]
          try simp only [Option.getD_some, Option.isSome_some]
          try simp only [Option.getD_none, Option.isSome_none]
          have h13 := hs.call0 hpMn
          have htab7_13 := htab7.mono hpMn.le
          have hX_13 := hX.mono hpMn.le
          refine hK _ _ ?_; clear hK K; try clear Q'
          iterate 3 (refine wpList_plainQ rfl (fun K Q' hK => ?_); go_simp; refine hK _ _ ?_; clear hK K; try clear Q')
          refine wpList_plainQ rfl (fun K Q' hK => ?_); go_simp
          refine h13.k_alloc (fun w14 h14 => ?_)
          refine hK _ _ ?_; clear hK K; try clear Q'
          have c_0 := h14.cell 1 rfl 0 rfl
          have f_0 := h14.free 1 rfl 0
          have c_1 := h14.cell 1 rfl 1 rfl
          have f_1 := h14.free 1 rfl 1
          refine wpList_plainQ rfl (fun K Q' hK => ?_); go_simp
          clear c_0 f_0 c_1 f_1
          refine (h14.set (i := 1) rfl 0 _).k_set 1 rfl (fun w15 h15 => ?_)
          refine hK _ _ ?_; clear hK K; try clear Q'
          iterate 1 (refine wpList_plainQ rfl (fun K Q' hK => ?_); go_simp; refine hK _ _ ?_; clear hK K; try clear Q')
          refine wpList_nil ?_
          show Code.wp _ _ _ _ _
          refine wp_seq ?_
          repeat (first | simp only [List.nil_append] at h15 | simp only [List.cons_append] at h15 | simp only [List.set_cons_zero] at h15 | simp only [List.set_cons_succ] at h15 | simp only [List.eraseIdx_zero] at h15 | simp only [List.tail_cons] at h15 | simp only [List.eraseIdx_cons_zero] at h15 | simp only [List.eraseIdx_cons_succ] at h15 | simp only [List.setIfInBounds_toArray] at h15)
          refine wp_region_lit ?_
          have c_0_0 := h15.cell 0 rfl 0 rfl
          iterate 1 (refine wpList_plainQ rfl (fun K Q' hK => ?_); go_simp; refine hK _ _ ?_; clear hK K; try clear Q')
          clear c_0_0
          -- stops at: eff:call (Go.Op.call {'callee': (Go.Callee.value (Go.Operand.func 25)), 'args': [(Go.Operand.tmp 40), (Go.Operand.const (Go.Value.pointer none))], 'argTypes': [26, 36]}) slot 41
          refine wpList_plainQ rfl (fun K Q' hK => ?_); go_simp
          refine (hpop_ok (m := none) h15.pre (by omega) hX_13).mono ?_
          rintro e wXp ⟨rXp, HXp, rfl, hpXp, hXp⟩
          try simp only [hmX]
          try simp only [Option.isSome_some]
          try simp only [Option.isSome_none]
          obtain ⟨Xp, eXp⟩ : ∃ hp0, Hid (Hp.pop X = hp0) := ⟨_, show _ = _ from rfl⟩
          rw [eXp.out] at hXp
          have oXp := hXp.ok
          have h16 := h15.call0 hpXp
          have htab7_16 := htab7_13.mono hpXp.le
          have hX_16 := hX_13.mono hpXp.le
          refine hK _ _ ?_; clear hK K; try clear Q'
          iterate 3 (refine wpList_plainQ rfl (fun K Q' hK => ?_); go_simp; refine hK _ _ ?_; clear hK K; try clear Q')
          refine wpList_plainQ rfl (fun K Q' hK => ?_); go_simp
          refine h16.k_alloc (fun w17 h17 => ?_)
          refine hK _ _ ?_; clear hK K; try clear Q'
          have c_0 := h17.cell 2 rfl 0 rfl
          have f_0 := h17.free 2 rfl 0
          refine wpList_plainQ rfl (fun K Q' hK => ?_); go_simp
          clear c_0 f_0
          refine h17.k_set 2 rfl (fun w18 h18 => ?_)
          refine hK _ _ ?_; clear hK K; try clear Q'
          iterate 1 (refine wpList_plainQ rfl (fun K Q' hK => ?_); go_simp; refine hK _ _ ?_; clear hK K; try clear Q')
          refine wpList_nil ?_
          show Code.wp _ _ _ _ _
          refine wp_seq ?_
          refine wp_seq ?_
          repeat (first | simp only [List.nil_append] at h18 | simp only [List.cons_append] at h18 | simp only [List.set_cons_zero] at h18 | simp only [List.set_cons_succ] at h18 | simp only [List.eraseIdx_zero] at h18 | simp only [List.tail_cons] at h18 | simp only [List.eraseIdx_cons_zero] at h18 | simp only [List.eraseIdx_cons_succ] at h18 | simp only [List.setIfInBounds_toArray] at h18)
          refine wp_region_lit ?_
          iterate 4 (refine wpList_plainQ rfl (fun K Q' hK => ?_); go_simp; refine hK _ _ ?_; clear hK K; try clear Q')
          have c_0_0 := h18.cell 0 rfl 0 rfl
          first | go_skip | (iterate 2 (refine wpList_stepQ (o := { dst := _, op := _, type := _, pos := _, after := _, guard := some (3, false) }) (fun K Q' hK => ?_); go_simp; refine hK _ _ ?_; clear hK K; try clear Q')) | skip
          clear c_0_0
          -- stops at: eff:call (Go.Op.call {'callee': (Go.Callee.value (Go.Operand.func 20)), 'args': [(Go.Operand.tmp 49)], 'argTypes': [26]}) slot 50
          refine wpList_stepQ (fun K Q' hK => ?_); go_simp
          refine (hsize_ok h18.fits (by omega) hX_16).mono ?_
          rintro e wZ1 ⟨HZ1, rfl, hpZ1⟩
          rw [sX]
          have h19 := h18.call0 hpZ1
          have htab7_19 := htab7_16.mono hpZ1.le
          have hX_19 := hX_16.mono hpZ1.le
          have hXp_19 := hXp.mono hpZ1.le
          refine hK _ _ ?_; clear hK K; try clear Q'
          first | go_skip | (iterate 2 (refine wpList_stepQ (o := { dst := _, op := _, type := _, pos := _, after := _, guard := some (3, false) }) (fun K Q' hK => ?_); go_simp; refine hK _ _ ?_; clear hK K; try clear Q')) | skip
          iterate 1 (refine wpList_plainQ rfl (fun K Q' hK => ?_); go_simp; refine hK _ _ ?_; clear hK K; try clear Q')
          refine wpList_nil ?_
          show Code.wp _ _ _ _ _
          -- stops at: cond
          refine wp_cond_false (rfl) ?_
          refine wp_skip ?_
          show Code.wp _ _ _ _ _
          refine wp_seq ?_
          refine wp_seq ?_
          repeat (first | simp only [List.nil_append] at h19 | simp only [List.cons_append] at h19 | simp only [List.set_cons_zero] at h19 | simp only [List.set_cons_succ] at h19 | simp only [List.eraseIdx_zero] at h19 | simp only [List.tail_cons] at h19 | simp only [List.eraseIdx_cons_zero] at h19 | simp only [List.eraseIdx_cons_succ] at h19 | simp only [List.setIfInBounds_toArray] at h19)
          refine wp_region_lit ?_
          iterate 1 (refine wpList_plainQ rfl (fun K Q' hK => ?_); go_simp; refine hK _ _ ?_; clear hK K; try clear Q')
          refine wpList_nil ?_
          show Code.wp _ _ _ _ _
          -- stops at: cond
          refine wp_cond_true (rfl) ?_
          refine wp_region_lit ?_
          have c_1_0 := h19.cell 1 rfl 0 rfl
          have c_1_1 := h19.cell 1 rfl 1 rfl
          iterate 2 (refine wpList_plainQ rfl (fun K Q' hK => ?_); go_simp; refine hK _ _ ?_; clear hK K; try clear Q')
          clear c_1_0 c_1_1
          refine wpList_plainQ rfl (fun K Q' hK => ?_); go_simp
          refine h19.k_alloc (fun w20 h20 => ?_)
          refine hK _ _ ?_; clear hK K; try clear Q'
          -- stops at: eff:Builtin.append (Go.Op.call {'callee': (Go.Callee.builtin Go.Builtin.append), 'args': [(Go.Operand.tmp 55), (Go.Operand.tmp 57)], 'argTypes': [22, 22]}) slot 58
          refine wpList_plainQ rfl (fun K Q' hK => ?_)
          refine h20.op_append 0 rfl rfl infoE rfl [.int .i64 x.1, .int .i64 x.2] rfl rfl (fun j u hj => ?_) (by simp [Value.oneCell']) (by omega) (by unfold maxLen; omega) (fun v2 wC hC oC hnC => ?_)
          · match j, hj with
            | 0, hj => exact h20.cell 3 rfl 0 hj
            | 1, hj => exact h20.cell 3 rfl 1 hj
          refine hK _ _ ?_; clear hK K; try clear Q'
          iterate 1 (refine wpList_plainQ rfl (fun K Q' hK => ?_); go_simp; refine hK _ _ ?_; clear hK K; try clear Q')
          refine wpList_nil ?_
          show Code.wp _ _ _ _ _
          repeat (first | simp only [List.nil_append] at hC | simp only [List.cons_append] at hC | simp only [List.set_cons_zero] at hC | simp only [List.set_cons_succ] at hC | simp only [List.eraseIdx_zero] at hC | simp only [List.tail_cons] at hC | simp only [List.eraseIdx_cons_zero] at hC | simp only [List.eraseIdx_cons_succ] at hC | simp only [List.setIfInBounds_toArray] at hC)
          refine wp_region_lit ?_
          have c_2_0 := hC.cell 2 rfl 0 rfl
          iterate 1 (refine wpList_plainQ rfl (fun K Q' hK => ?_); go_simp; refine hK _ _ ?_; clear hK K; try clear Q')
          clear c_2_0
          have c_0 := hC.cell 0 rfl 0 rfl
          have f_0 := hC.free 0 rfl 0
          refine wpList_plainQ rfl (fun K Q' hK => ?_); go_simp
          clear c_0 f_0
          refine hC.k_set 0 rfl (fun w21 h21 => ?_)
          refine hK _ _ ?_; clear hK K; try clear Q'
          refine wpList_nil ?_
          show Code.wp _ _ _ _ _
          repeat (first | simp only [List.nil_append] at h21 | simp only [List.cons_append] at h21 | simp only [List.set_cons_zero] at h21 | simp only [List.set_cons_succ] at h21 | simp only [List.eraseIdx_zero] at h21 | simp only [List.tail_cons] at h21 | simp only [List.eraseIdx_cons_zero] at h21 | simp only [List.eraseIdx_cons_succ] at h21 | simp only [List.setIfInBounds_toArray] at h21)
          refine wp_region_lit ?_
          iterate 3 (refine wpList_plainQ rfl (fun K Q' hK => ?_); go_simp; refine hK _ _ ?_; clear hK K; try clear Q')
          refine wpList_nil ?_
          -- stops at: end ('roundend',)
          show _ ∧ _
          go_roundw
          case rel =>
            show AgInv _ _ _ _ _ _ _ _
            unfold AgInv
            refine ⟨k + 1, Xp, _, _, dn ++ [x], by omega, by simp, by simp; omega, ?_, htab7_19, hXp_19, ?_⟩
            · show _ = _
              rw [← eXp.out, ← hdn.out, Hp.sort_min oX hm, List.append_assoc]; rfl
            · rw [show (dn ++ [x]).length = dn.length + 1 by simp, show (dn ++ [x]).flatMap elC = dn.flatMap elC ++ [.int .i64 x.1, .int .i64 x.2] by simp [List.flatMap_append, elC]]
              exact h21.take 1
          case measure => simp [intOf]; omega
      · obtain rfl : k = k12 := by omega
        have rDa : a.length ≤ 40 := hl
        refine wp_seq ?_
        refine wp_seq ?_
        repeat (first | simp only [List.nil_append] at hs | simp only [List.cons_append] at hs | simp only [List.set_cons_zero] at hs | simp only [List.set_cons_succ] at hs | simp only [List.eraseIdx_zero] at hs | simp only [List.tail_cons] at hs | simp only [List.eraseIdx_cons_zero] at hs | simp only [List.eraseIdx_cons_succ] at hs | simp only [List.setIfInBounds_toArray] at hs)
        refine wp_region_lit ?_
        iterate 5 (refine wpList_plainQ rfl (fun K Q' hK => ?_); go_simp; refine hK _ _ ?_; clear hK K; try clear Q')
        refine wpList_nil ?_
        show Code.wp _ _ _ _ _
        -- stops at: cond
        refine wp_cond_false (rfl) ?_
        refine wp_exit ?_
        show Code.wp _ _ _ _ _
        refine wp_seq ?_
        refine wp_region_lit ?_
        refine wpList_plainQ rfl (fun K Q' hK => ?_); go_simp
        refine hs.k_alloc (fun w22 h22 => ?_)
        refine hK _ _ ?_; clear hK K; try clear Q'
        refine wpList_nil ?_
        show Code.wp _ _ _ _ _
        refine wp_seq ?_
        repeat (first | simp only [List.nil_append] at h22 | simp only [List.cons_append] at h22 | simp only [List.set_cons_zero] at h22 | simp only [List.set_cons_succ] at h22 | simp only [List.eraseIdx_zero] at h22 | simp only [List.tail_cons] at h22 | simp only [List.eraseIdx_cons_zero] at h22 | simp only [List.eraseIdx_cons_succ] at h22 | simp only [List.setIfInBounds_toArray] at h22)
        refine wp_region_lit ?_
        have c_0_0 := h22.cell 0 rfl 0 rfl
        iterate 1 (refine wpList_plainQ rfl (fun K Q' hK => ?_); go_simp; refine hK _ _ ?_; clear hK K; try clear Q')
        clear c_0_0
        refine wpList_plainQ rfl (fun K Q' hK => ?_); go_simp
        refine h22.k_alloc (fun w23 h23 => ?_)
        refine hK _ _ ?_; clear hK K; try clear Q'
        have c_0 := h23.cell 2 rfl 0 rfl
        have f_0 := h23.free 2 rfl 0
        refine wpList_plainQ rfl (fun K Q' hK => ?_); go_simp
        clear c_0 f_0
        refine h23.k_set 2 rfl (fun w24 h24 => ?_)
        refine hK _ _ ?_; clear hK K; try clear Q'
        refine wpList_nil ?_
        show Code.wp _ _ _ _ _
        refine wp_seq ?_
        refine wp_seq ?_
        repeat (first | simp only [List.nil_append] at h24 | simp only [List.cons_append] at h24 | simp only [List.set_cons_zero] at h24 | simp only [List.set_cons_succ] at h24 | simp only [List.eraseIdx_zero] at h24 | simp only [List.tail_cons] at h24 | simp only [List.eraseIdx_cons_zero] at h24 | simp only [List.eraseIdx_cons_succ] at h24 | simp only [List.setIfInBounds_toArray] at h24)
        refine wp_region_lit ?_
        iterate 1 (refine wpList_plainQ rfl (fun K Q' hK => ?_); go_simp; refine hK _ _ ?_; clear hK K; try clear Q')
        refine wpList_nil ?_
        show Code.wp _ _ _ _ _
        refine wp_block ?_
        -- stops at: loop
        repeat (first | simp only [List.nil_append] at h24 | simp only [List.cons_append] at h24 | simp only [List.set_cons_zero] at h24 | simp only [List.set_cons_succ] at h24 | simp only [List.eraseIdx_zero] at h24 | simp only [List.tail_cons] at h24 | simp only [List.eraseIdx_cons_zero] at h24 | simp only [List.eraseIdx_cons_succ] at h24 | simp only [List.setIfInBounds_toArray] at h24)
        obtain ⟨H6, h66, rD, leD⟩ := h24.settleRow 0 rfl
        have htab7_25 := htab7.mono leD
        have hX_25 := hX.mono leD
        have rDe : ElRep H6 (.slice a9 dn.length c9) dn := rD
        have fdn : ∀ y ∈ dn, El.fits y := fun y hy => fa y ((sortE_perm a).subset (by rw [← hdn.out]; exact List.mem_append_left _ hy))
        go_loopw [17] (fun v17 wr2 => AgInv2 w H H6 wXx.heap.size wr.heap.size w22.heap.size X q dn b v17 wr2) (fun v17 _ => dn.length - (intOf v17).toNat)
        case atStart =>
          show AgInv2 _ _ _ _ _ _ _ _ _ _ _ _
          unfold AgInv2
          exact ⟨0, Hp.nil, X, none, q, _, by omega, rfl, GH.le_refl _, HpR.nil _, hX_25, by simp [Hp.els_nil, Hid], by simp [Hid], h66⟩
        case round =>
          obtain ⟨j, O, Bk, r, s, H8, hj, rfl, hle8, hO, hBk, pO, pBk, hs2⟩ := hrel
          have hXr := (hX_25).mono hle8
          have oO := hO.ok
          have oBk := hBk.ok
          have sO : Hp.size O = j := by rw [Hp.size_eq, pO.out.length_eq]; simp
          have sBk : Hp.size Bk = L + j := by
            have h1 : (Hp.els X).length = L := sX
            rw [Hp.size_eq, pBk.out.length_eq]; simp; omega
          by_cases hlt2 : j < dn.length
          · obtain ⟨b9, o9, cap9, ee, _⟩ := rD.ne_nil (by omega)
            simp only [Value.slice.injEq, true_and] at ee
            obtain ⟨rfl, rfl⟩ := ee
            obtain ⟨ix, hix, hixl, hixe⟩ : ∃ i : Nat, ((j : Int) + (b : Int)).tmod (dn.length : Int) = (i : Int) ∧ i < dn.length ∧ Hid (i = (j + b) % dn.length) := ⟨(j + b) % dn.length, rfl, Nat.mod_lt _ (by omega), rfl⟩
            obtain ⟨iy, hiy, hiyl, hiye⟩ : ∃ i : Nat, (dn.length : Int) - 1 - (j : Int) = (i : Int) ∧ i < dn.length ∧ Hid (i = dn.length - 1 - j) := ⟨dn.length - 1 - j, by omega, by omega, rfl⟩
            obtain ⟨c1, c2⟩ := elRep_cells rD (k := ix) (a := dn[ix]) (by simp [hixl])
            obtain ⟨d1, d2⟩ := elRep_cells rD (k := iy) (a := dn[iy]) (by simp [hiyl])
            obtain ⟨y1, hy1⟩ : ∃ y0, Hid (dn[ix] = y0) := ⟨dn[ix], show _ = _ from rfl⟩
            obtain ⟨y2, hy2⟩ : ∃ y0, Hid (dn[iy] = y0) := ⟨dn[iy], show _ = _ from rfl⟩
            rw [hy1.out] at c1 c2
            rw [hy2.out] at d1 d2
            have fy1 : El.fits y1 := by rw [← hy1.out]; exact fdn _ (List.getElem_mem hixl)
            have fy2 : El.fits y2 := by rw [← hy2.out]; exact fdn _ (List.getElem_mem hiyl)
            have e1 : IntKind.i64.wrap ((j : Int) + 1) = (j : Int) + 1 := IntWalk.i64_in _ (by omega)
            have eB1 : IntKind.i64.wrap ((j : Int) + (b : Int)) = (j : Int) + (b : Int) := IntWalk.i64_in _ (by omega)
            have eB2 : IntKind.i64.wrap ((dn.length : Int) - 1) = (dn.length : Int) - 1 := IntWalk.i64_in _ (by omega)
            have eB3 : IntKind.i64.wrap ((dn.length : Int) - 1 - (j : Int)) = (iy : Int) := by rw [hiy]; exact IntWalk.i64_in _ (by omega)
            have eB4 : IntKind.i64.wrap (iy : Int) = (iy : Int) := IntWalk.i64_in _ (by omega)
            have hdn0 : ¬ dn = [] := by rintro rfl; simp at hlt2
            have py1 : Hid (dn.getD ((j + b) % dn.length) (0, 0) = y1) := by
              show _ = _
              rw [← hixe.out, List.getD_eq_getElem?_getD, List.getElem?_eq_getElem hixl, hy1.out]; rfl
            have py2 : Hid (dn.reverse[j]? = some y2) := by
              show _ = _
              rw [List.getElem?_reverse hlt2, ← hiye.out, List.getElem?_eq_getElem hiyl, hy2.out]
            refine wp_seq ?_
            refine wp_seq ?_
            repeat (first | simp only [List.nil_append] at hs2 | simp only [List.cons_append] at hs2 | simp only [List.set_cons_zero] at hs2 | simp only [List.set_cons_succ] at hs2 | simp only [List.eraseIdx_zero] at hs2 | simp only [List.tail_cons] at hs2 | simp only [List.eraseIdx_cons_zero] at hs2 | simp only [List.eraseIdx_cons_succ] at hs2 | simp only [List.setIfInBounds_toArray] at hs2)
            refine wp_region_lit ?_
            iterate 4 (refine wpList_plainQ rfl (fun K Q' hK => ?_); go_simp; refine hK _ _ ?_; clear hK K; try clear Q')
            refine wpList_nil ?_
            show Code.wp _ _ _ _ _
            -- stops at: cond
            refine wp_cond_true (rfl) ?_
            refine wp_skip ?_
            show Code.wp _ _ _ _ _
            refine wp_seq ?_
            refine wp_block ?_
            refine wp_seq ?_
            refine hs2.region [] [(1, true), (2, true), (3, true), (4, true), (5, true), (6, true), (7, true), (8, true), (9, true), (10, true), (0, false), (11, false), (12, false)] (by kernel_rfl) (by kernel_rfl) (fun w26 h26 => ?_)
            refine wpOrd_hide (fun _ _ d _ _ h => by cases d <;> exact h) (fun QR hQn hQp => ?_)
            simp only [ordOps, List.map_cons, List.map_nil, List.getD_cons_zero, List.getD_cons_succ]
            iterate 9 (refine wpOrd_quiet (v := ?_) rfl (fun _ _ _ => hQp _ _ _ _ _) ?_ ?_; rotate_left; (intro w' hS; (first | (go_simp; done) | (go_simp; with_reducible rfl))); simp only [Act.put, List.setIfInBounds_toArray, List.set_cons_zero, List.set_cons_succ])
            -- stops at: load (Go.Op.load 41 (Go.Operand.tmp 76)) slot 77
            iterate 1 (refine wpOrd_quiet (v := ?_) rfl (fun _ _ _ => hQp _ _ _ _ _) ?_ ?_; rotate_left; (intro w' hS; have ce := c1.out _ (hS.1.le hle8); have ce2 := c2.out _ (hS.1.le hle8); (first | (go_simp; done) | (go_simp; with_reducible rfl))); simp only [Act.put, List.setIfInBounds_toArray, List.set_cons_zero, List.set_cons_succ])
            have c_1_0 := h26.cell 1 rfl 0 rfl
            refine wpOrd_effQ rfl (fun K Q' hK => ?_); go_simp
            refine hK _ _ (h26.sat' (GH.le_refl _) [] (by kernel_rfl)) ?_; clear hK K; try clear Q'
            clear c_1_0
            -- stops at: eff:call (Go.Op.call {'callee': (Go.Callee.value (Go.Operand.func 23)), 'args': [(Go.Operand.tmp 67), (Go.Operand.const (Go.Value.pointer none)), (Go.Operand.tmp 77)], ' slot 78
            refine wpOrd_effQ rfl (fun K Q' hK => ?_); go_simp
            refine (hinsert_ok (m := none) y1 fy1 h26.pre (by omega) hO).mono ?_
            rintro e wI ⟨rI, HI, rfl, hpI, hI⟩
            have h27 := h26.call0 hpI
            have hXr_27 := hXr.mono hpI.le
            have hO_27 := hO.mono hpI.le
            have hBk_27 := hBk.mono hpI.le
            refine hK _ _ (h27.sat' hpI.le [] (by kernel_rfl)) ?_; clear hK K; try clear Q'
            have c_0 := h27.cell 1 rfl 0 rfl
            have f_0 := h27.free 1 rfl 0
            refine wpOrd_effQ rfl (fun K Q' hK => ?_); go_simp
            clear c_0 f_0
            refine h27.k_set 1 rfl (fun w28 h28 => ?_)
            refine hK _ _ (h28.sat' hpI.le [] (by kernel_rfl)) ?_; clear hK K; try clear Q'
            refine wpOrd_nil (hQn _ _ ?_); clear hQn hQp QR
            show Code.wp _ _ _ _ _
            repeat (first | simp only [List.nil_append] at h28 | simp only [List.cons_append] at h28 | simp only [List.set_cons_zero] at h28 | simp only [List.set_cons_succ] at h28 | simp only [List.eraseIdx_zero] at h28 | simp only [List.tail_cons] at h28 | simp only [List.eraseIdx_cons_zero] at h28 | simp only [List.eraseIdx_cons_succ] at h28 | simp only [List.setIfInBounds_toArray] at h28)
            refine h28.region [] [(1, true), (2, true), (3, true), (4, true), (5, true), (6, true), (7, true), (8, true), (0, false), (9, false), (10, false)] (by kernel_rfl) (by kernel_rfl) (fun w29 h29 => ?_)
            refine wpOrd_hide (fun _ _ d _ _ h => by cases d <;> exact h) (fun QR hQn hQp => ?_)
            simp only [ordOps, List.map_cons, List.map_nil, List.getD_cons_zero, List.getD_cons_succ]
            iterate 7 (refine wpOrd_quiet (v := ?_) rfl (fun _ _ _ => hQp _ _ _ _ _) ?_ ?_; rotate_left; (intro w' hS; (first | (go_simp; done) | (go_simp; with_reducible rfl))); simp only [Act.put, List.setIfInBounds_toArray, List.set_cons_zero, List.set_cons_succ])
            -- stops at: load (Go.Op.load 41 (Go.Operand.tmp 86)) slot 87
            iterate 1 (refine wpOrd_quiet (v := ?_) rfl (fun _ _ _ => hQp _ _ _ _ _) ?_ ?_; rotate_left; (intro w' hS; have ce := d1.out _ (hS.1.le (hle8.trans hpI.le)); have ce2 := d2.out _ (hS.1.le (hle8.trans hpI.le)); (first | (go_simp; done) | (go_simp; with_reducible rfl))); simp only [Act.put, List.setIfInBounds_toArray, List.set_cons_zero, List.set_cons_succ])
            have c_2_0 := h29.cell 2 rfl 0 rfl
            refine wpOrd_effQ rfl (fun K Q' hK => ?_); go_simp
            refine hK _ _ (h29.sat' (GH.le_refl _) [] (by kernel_rfl)) ?_; clear hK K; try clear Q'
            clear c_2_0
            -- stops at: eff:call (Go.Op.call {'callee': (Go.Callee.value (Go.Operand.func 23)), 'args': [(Go.Operand.tmp 79), (Go.Operand.const (Go.Value.pointer none)), (Go.Operand.tmp 87)], ' slot 88
            refine wpOrd_effQ rfl (fun K Q' hK => ?_); go_simp
            refine (hinsert_ok (m := none) y2 fy2 h29.pre (by omega) hBk_27).mono ?_
            rintro e wJ ⟨rJ, HJ, rfl, hpJ, hJ⟩
            have h30 := h29.call0 hpJ
            have hXr_30 := hXr_27.mono hpJ.le
            have hO_30 := hO_27.mono hpJ.le
            have hBk_30 := hBk_27.mono hpJ.le
            have hI_30 := hI.mono hpJ.le
            refine hK _ _ (h30.sat' hpJ.le [] (by kernel_rfl)) ?_; clear hK K; try clear Q'
            have c_0 := h30.cell 2 rfl 0 rfl
            have f_0 := h30.free 2 rfl 0
            refine wpOrd_effQ rfl (fun K Q' hK => ?_); go_simp
            clear c_0 f_0
            refine h30.k_set 2 rfl (fun w31 h31 => ?_)
            refine hK _ _ (h31.sat' hpJ.le [] (by kernel_rfl)) ?_; clear hK K; try clear Q'
            refine wpOrd_nil (hQn _ _ ?_); clear hQn hQp QR
            show Code.wp _ _ _ _ _
            repeat (first | simp only [List.nil_append] at h31 | simp only [List.cons_append] at h31 | simp only [List.set_cons_zero] at h31 | simp only [List.set_cons_succ] at h31 | simp only [List.eraseIdx_zero] at h31 | simp only [List.tail_cons] at h31 | simp only [List.eraseIdx_cons_zero] at h31 | simp only [List.eraseIdx_cons_succ] at h31 | simp only [List.setIfInBounds_toArray] at h31)
            refine wp_region_lit ?_
            iterate 3 (refine wpList_plainQ rfl (fun K Q' hK => ?_); go_simp; refine hK _ _ ?_; clear hK K; try clear Q')
            refine wpList_nil ?_
            -- stops at: end ('roundend',)
            show _ ∧ _
            go_roundw
            case rel =>
              show AgInv2 _ _ _ _ _ _ _ _ _ _ _ _
              unfold AgInv2
              refine ⟨j + 1, _, _, rI, rJ, _, by omega, by simp, hle8.trans (hpI.le.trans hpJ.le), hI_30, hJ, ?_, ?_, h31⟩
              · show List.Perm _ _
                rw [List.range_succ, List.map_append, List.map_cons, List.map_nil, py1.out]
                exact (Hp.els_insert y1 oO).trans ((pO.out.cons y1).trans (List.perm_append_comm (l₁ := [y1])))
              · show List.Perm _ _
                rw [List.take_add_one, py2.out, ← List.append_assoc]
                exact (Hp.els_insert y2 oBk).trans ((pBk.out.cons y2).trans (List.perm_append_comm (l₁ := [y2])))
            case measure => simp [intOf]; omega
          · obtain rfl : j = dn.length := by omega
            have pOd : Hid ((Hp.els O).Perm dn) := by
              show List.Perm _ _
              by_cases h0 : dn.length = 0
              · obtain rfl := List.eq_nil_of_length_eq_zero h0
                exact pO.out
              · exact pO.out.trans (rot_perm dn b (by omega))
            have pBd : Hid (sortE (Hp.els Bk) = sortE a) := by
              show _ = _
              rw [sortE_congr pBk.out, List.take_of_length_le (by simp), ← sortE_sort a, ← hdn.out]
              exact sortE_congr (List.perm_append_comm.trans ((List.reverse_perm dn).append (sortE_perm _).symm))
            have htake : Hid ((sortE a).take dn.length = dn) := by
              show _ = _
              rw [← hdn.out, List.take_left]
            have hdle : dn.length ≤ a.length := by omega
            refine wp_seq ?_
            refine wp_seq ?_
            repeat (first | simp only [List.nil_append] at hs2 | simp only [List.cons_append] at hs2 | simp only [List.set_cons_zero] at hs2 | simp only [List.set_cons_succ] at hs2 | simp only [List.eraseIdx_zero] at hs2 | simp only [List.tail_cons] at hs2 | simp only [List.eraseIdx_cons_zero] at hs2 | simp only [List.eraseIdx_cons_succ] at hs2 | simp only [List.setIfInBounds_toArray] at hs2)
            refine wp_region_lit ?_
            iterate 4 (refine wpList_plainQ rfl (fun K Q' hK => ?_); go_simp; refine hK _ _ ?_; clear hK K; try clear Q')
            refine wpList_nil ?_
            show Code.wp _ _ _ _ _
            -- stops at: cond
            refine wp_cond_false (rfl) ?_
            refine wp_exit ?_
            show Code.wp _ _ _ _ _
            refine wp_seq ?_
            refine wp_region_lit ?_
            iterate 1 (refine wpList_plainQ rfl (fun K Q' hK => ?_); go_simp; refine hK _ _ ?_; clear hK K; try clear Q')
            -- stops at: eff:call (Go.Op.call {'callee': (Go.Callee.value (Go.Operand.func 16)), 'args': [(Go.Operand.tmp 89)], 'argTypes': [22]}) slot 90
            refine wpList_plainQ rfl (fun K Q' hK => ?_); go_simp
            refine (rsort_ok _ _ _ a (by omega) hs2.fits (ha.mono hs2.le)).mono ?_
            rintro e wSp ⟨vSp, HSp, rfl, hpSp, dSp⟩
            obtain ⟨aS, cS, hvS, hcS, _⟩ := dSp.nil_or
            rw [sortE_length] at hvS hcS
            subst hvS
            have hdc : dn.length ≤ cS := by omega
            have dTk := ElRep.upto dSp (sortE_length a).symm dn.length hdle
            rw [htake.out] at dTk
            have dDn := rDe.mono (hle8.trans hpSp.le)
            have h32 := hs2.call0 hpSp
            have hXr_32 := hXr.mono hpSp.le
            have hO_32 := hO.mono hpSp.le
            have hBk_32 := hBk.mono hpSp.le
            refine hK _ _ ?_; clear hK K; try clear Q'
            iterate 1 (refine wpList_plainQ rfl (fun K Q' hK => ?_); go_simp; refine hK _ _ ?_; clear hK K; try clear Q')
            refine wpList_nil ?_
            show Code.wp _ _ _ _ _
            refine wp_seq ?_
            repeat (first | simp only [List.nil_append] at h32 | simp only [List.cons_append] at h32 | simp only [List.set_cons_zero] at h32 | simp only [List.set_cons_succ] at h32 | simp only [List.eraseIdx_zero] at h32 | simp only [List.tail_cons] at h32 | simp only [List.eraseIdx_cons_zero] at h32 | simp only [List.eraseIdx_cons_succ] at h32 | simp only [List.setIfInBounds_toArray] at h32)
            refine wp_region_lit ?_
            iterate 5 (refine wpList_plainQ rfl (fun K Q' hK => ?_); go_simp; refine hK _ _ ?_; clear hK K; try clear Q')
            -- stops at: eff:call (Go.Op.call {'callee': (Go.Callee.value (Go.Operand.func 18)), 'args': [(Go.Operand.tmp 94), (Go.Operand.tmp 95)], 'argTypes': [22, 22]}) slot 96
            refine wpList_plainQ rfl (fun K Q' hK => ?_); go_simp
            refine (rsame_ok _ _ _ _ dn dn (by omega) (by omega) h32.fits dTk dDn).mono ?_
            rintro e wE1 ⟨rfl, hkE1⟩
            rw [decide_eq_true rfl]
            have h33 := h32.callk hkE1
            refine hK _ _ ?_; clear hK K; try clear Q'
            iterate 1 (refine wpList_plainQ rfl (fun K Q' hK => ?_); go_simp; refine hK _ _ ?_; clear hK K; try clear Q')
            have c_1_0 := h33.cell 1 rfl 0 rfl
            have c_0_0 := h33.cell 0 rfl 0 rfl
            first | go_skip | (iterate 2 (refine wpList_stepQ (o := { dst := _, op := _, type := _, pos := _, after := _, guard := some (6, true) }) (fun K Q' hK => ?_); go_simp; refine hK _ _ ?_; clear hK K; try clear Q')) | skip
            clear c_1_0 c_0_0
            -- stops at: eff:call (Go.Op.call {'callee': (Go.Callee.value (Go.Operand.func 15)), 'args': [(Go.Operand.tmp 98), (Go.Operand.const (Go.Value.pointer none)), (Go.Operand.tmp 99)], ' slot 100
            refine wpList_stepQ (fun K Q' hK => ?_); go_simp
            refine (hmeld_ok (m := none) h33.pre (by omega) hO_32 hXr_32).mono ?_
            rintro e wMl ⟨rMl, HMl, rfl, hpMl, hMl⟩
            have sMl := Hp.size_meld oO oX
            have qMl : sortE (Hp.els (Hp.meld O X)) = sortE a := by
              rw [sortE_congr ((Hp.els_meld oO oX).trans (pOd.out.append (sortE_perm _).symm)), hdn.out, sortE_sort]
            have h34 := h33.call0 hpMl
            have hXr_34 := hXr_32.mono hpMl.le
            have hO_34 := hO_32.mono hpMl.le
            have hBk_34 := hBk_32.mono hpMl.le
            have dSp_34 := dSp.mono hpMl.le
            refine hK _ _ ?_; clear hK K; try clear Q'
            -- stops at: eff:call (Go.Op.call {'callee': (Go.Callee.value (Go.Operand.func 17)), 'args': [(Go.Operand.tmp 100), (Go.Operand.const (Go.Value.int Go.IntKind.i64 200))], 'argTypes': slot 101
            refine wpList_stepQ (fun K Q' hK => ?_); go_simp
            refine (drain_ok _ _ _ (Hp.meld O X) 200 (by omega) (by omega) h34.fits hMl).mono ?_
            rintro e wD3 ⟨vD3, HD3, rfl, hpD3, dD3⟩
            rw [drainL_all 200 _ (Hp.ok_meld oO oX) (by omega), qMl] at dD3
            have h35 := h34.call0 hpD3
            have hXr_35 := hXr_34.mono hpD3.le
            have hO_35 := hO_34.mono hpD3.le
            have hBk_35 := hBk_34.mono hpD3.le
            have dSp_35 := dSp_34.mono hpD3.le
            have hMl_35 := hMl.mono hpD3.le
            refine hK _ _ ?_; clear hK K; try clear Q'
            first | go_skip | (iterate 1 (refine wpList_stepQ (o := { dst := _, op := _, type := _, pos := _, after := _, guard := some (6, true) }) (fun K Q' hK => ?_); go_simp; refine hK _ _ ?_; clear hK K; try clear Q')) | skip
            -- stops at: eff:call (Go.Op.call {'callee': (Go.Callee.value (Go.Operand.func 18)), 'args': [(Go.Operand.tmp 101), (Go.Operand.tmp 102)], 'argTypes': [22, 22]}) slot 103
            refine wpList_stepQ (fun K Q' hK => ?_); go_simp
            refine (rsame_ok _ _ _ _ (sortE a) (sortE a) (by rw [sortE_length]; omega) (by rw [sortE_length]; omega) h35.fits dD3 dSp_35).mono ?_
            rintro e wE2 ⟨rfl, hkE2⟩
            rw [decide_eq_true rfl]
            have h36 := h35.callk hkE2
            refine hK _ _ ?_; clear hK K; try clear Q'
            iterate 2 (refine wpList_plainQ rfl (fun K Q' hK => ?_); go_simp; refine hK _ _ ?_; clear hK K; try clear Q')
            have c_2_0 := h36.cell 2 rfl 0 rfl
            first | go_skip | (iterate 1 (refine wpList_stepQ (o := { dst := _, op := _, type := _, pos := _, after := _, guard := some (14, true) }) (fun K Q' hK => ?_); go_simp; refine hK _ _ ?_; clear hK K; try clear Q')) | skip
            clear c_2_0
            -- stops at: eff:call (Go.Op.call {'callee': (Go.Callee.value (Go.Operand.func 17)), 'args': [(Go.Operand.tmp 106), (Go.Operand.const (Go.Value.int Go.IntKind.i64 200))], 'argTypes': slot 107
            refine wpList_stepQ (fun K Q' hK => ?_); go_simp
            refine (drain_ok _ _ _ Bk 200 (by omega) (by omega) h36.fits hBk_35).mono ?_
            rintro e wD4 ⟨vD4, HD4, rfl, hpD4, dD4⟩
            rw [drainL_all 200 _ oBk (by omega), pBd.out] at dD4
            have h37 := h36.call0 hpD4
            have hXr_37 := hXr_35.mono hpD4.le
            have hO_37 := hO_35.mono hpD4.le
            have hBk_37 := hBk_35.mono hpD4.le
            have dSp_37 := dSp_35.mono hpD4.le
            have hMl_37 := hMl_35.mono hpD4.le
            have dD3_37 := dD3.mono hpD4.le
            refine hK _ _ ?_; clear hK K; try clear Q'
            first | go_skip | (iterate 1 (refine wpList_stepQ (o := { dst := _, op := _, type := _, pos := _, after := _, guard := some (14, true) }) (fun K Q' hK => ?_); go_simp; refine hK _ _ ?_; clear hK K; try clear Q')) | skip
            -- stops at: eff:call (Go.Op.call {'callee': (Go.Callee.value (Go.Operand.func 18)), 'args': [(Go.Operand.tmp 107), (Go.Operand.tmp 108)], 'argTypes': [22, 22]}) slot 109
            refine wpList_stepQ (fun K Q' hK => ?_); go_simp
            refine (rsame_ok _ _ _ _ (sortE a) (sortE a) (by rw [sortE_length]; omega) (by rw [sortE_length]; omega) h37.fits dD4 dSp_37).mono ?_
            rintro e wE3 ⟨rfl, hkE3⟩
            rw [decide_eq_true rfl]
            have h38 := h37.callk hkE3
            refine hK _ _ ?_; clear hK K; try clear Q'
            iterate 2 (refine wpList_plainQ rfl (fun K Q' hK => ?_); go_simp; refine hK _ _ ?_; clear hK K; try clear Q')
            refine wpList_nil ?_
            show Code.wp _ _ _ _ _
            -- stops at: ret
            refine wp_ret ?_
            go_ret
            exact ⟨rfl, h38.post.keep⟩
  · have hl1 : decide ((40 : Int) < (a.length : Int)) = true := by simp; omega
    go_enter Tryd.func11, Tryd.ntmps11
    have h0 := St.start hpre
    refine wp_seq ?_
    repeat (first | simp only [List.nil_append] at h0 | simp only [List.cons_append] at h0 | simp only [List.set_cons_zero] at h0 | simp only [List.set_cons_succ] at h0 | simp only [List.eraseIdx_zero] at h0 | simp only [List.tail_cons] at h0 | simp only [List.eraseIdx_cons_zero] at h0 | simp only [List.eraseIdx_cons_succ] at h0 | simp only [List.setIfInBounds_toArray] at h0)
    refine wp_region_lit ?_
    iterate 1 (refine wpList_plainQ rfl (fun K Q' hK => ?_); go_simp; refine hK _ _ ?_; clear hK K; try clear Q')
    refine wpList_nil ?_
    show Code.wp _ _ _ _ _
    refine wp_seq ?_
    refine wp_region_lit ?_
    -- stops at: eff:call (Go.Op.call {'callee': (Go.Callee.value (Go.Operand.func 13)), 'args': [], 'argTypes': []}) slot 19
    refine wpList_plainQ rfl (fun K Q' hK => ?_); go_simp
    refine (awake_ok H _ h0.fits htab).mono ?_
    rintro e wAw ⟨HAw, rfl, hpAw⟩
    have h1 := h0.call0 hpAw
    have htab_1 := htab.mono hpAw.le
    refine hK _ _ ?_; clear hK K; try clear Q'
    iterate 1 (refine wpList_plainQ rfl (fun K Q' hK => ?_); go_simp; refine hK _ _ ?_; clear hK K; try clear Q')
    refine wpList_nil ?_
    show Code.wp _ _ _ _ _
    refine wp_seq ?_
    refine wp_seq ?_
    repeat (first | simp only [List.nil_append] at h1 | simp only [List.cons_append] at h1 | simp only [List.set_cons_zero] at h1 | simp only [List.set_cons_succ] at h1 | simp only [List.eraseIdx_zero] at h1 | simp only [List.tail_cons] at h1 | simp only [List.eraseIdx_cons_zero] at h1 | simp only [List.eraseIdx_cons_succ] at h1 | simp only [List.setIfInBounds_toArray] at h1)
    refine wp_region_lit ?_
    iterate 2 (refine wpList_plainQ rfl (fun K Q' hK => ?_); go_simp; refine hK _ _ ?_; clear hK K; try clear Q')
    refine wpList_nil ?_
    show Code.wp _ _ _ _ _
    -- stops at: cond
    refine wp_cond_false (rfl) ?_
    refine wp_skip ?_
    show Code.wp _ _ _ _ _
    refine wp_seq ?_
    refine wp_seq ?_
    refine wp_region_lit ?_
    iterate 3 (refine wpList_plainQ rfl (fun K Q' hK => ?_); go_simp; refine hK _ _ ?_; clear hK K; try clear Q')
    refine wpList_nil ?_
    show Code.wp _ _ _ _ _
    -- stops at: cond
    refine wp_cond_true (rfl) ?_
    refine wp_seq ?_
    refine wp_region_lit ?_
    iterate 1 (refine wpList_plainQ rfl (fun K Q' hK => ?_); go_simp; refine hK _ _ ?_; clear hK K; try clear Q')
    refine wpList_nil ?_
    show Code.wp _ _ _ _ _
    -- stops at: ret
    refine wp_ret ?_
    go_ret
    exact ⟨rfl, h1.post.keep⟩
end Go.Proofs.YtceamdacacacjaaDoor
