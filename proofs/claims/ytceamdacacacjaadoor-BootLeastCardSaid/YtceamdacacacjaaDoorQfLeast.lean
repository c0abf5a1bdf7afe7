/-
Least: its walk.
-/
import Derived.Test.YtceamdacacacjaaDoorQbPlain
namespace Go.Proofs.YtceamdacacacjaaDoor
open Go Go.RowKit
set_option linter.unusedVariables false


set_option maxRecDepth 100000 in
set_option maxHeartbeats 16000000 in
theorem least_walk (H : GH) (w : World) (v : Value) (a : List El) (x : El) (n : Int) (hf : Fits w H) (htab : TabH H) (ha : ElRep H v a) (fa : ∀ x ∈ a, El.fits x) (fx : El.fits x) (hn : 0 ≤ n ∧ n ≤ 255) :
    Calls Tryd.prog 6 #[v, elV x, .int .u8 n] w fun e w' => e = .returned (.bool true) ∧ Keep none w w' := by
  have hpre : Pre w H none 0 0 := Pre.none hf 0 0
  obtain ⟨aa, ca, rfl, _, _⟩ := ha.nil_or
  obtain ⟨n, rfl⟩ := Int.eq_ofNat_of_zero_le hn.1
  have en : IntKind.i64.wrap (n : Int) = (n : Int) := IntWalk.i64_in _ (by omega)
  obtain ⟨k6, hk6, hk6l⟩ : ∃ k : Nat, (n : Int).tmod 6 = (k : Int) ∧ k < 6 := ⟨n % 6, rfl, Nat.mod_lt _ (by omega)⟩
  by_cases hl : a.length ≤ 60
  · have hl1 : decide ((60 : Int) < (a.length : Int)) = false := by simp; omega
    go_enter Tryd.func6, Tryd.ntmps6
    have h0 := St.start hpre
    refine wp_seq ?_
    repeat (first | simp only [List.nil_append] at h0 | simp only [List.cons_append] at h0 | simp only [List.set_cons_zero] at h0 | simp only [List.set_cons_succ] at h0 | simp only [List.eraseIdx_zero] at h0 | simp only [List.tail_cons] at h0 | simp only [List.eraseIdx_cons_zero] at h0 | simp only [List.eraseIdx_cons_succ] at h0 | simp only [List.setIfInBounds_toArray] at h0)
    refine wp_region_lit ?_
    refine wpList_plainQ rfl (fun K Q' hK => ?_); go_simp
    refine h0.k_alloc (fun w1 h1 => ?_)
    refine hK _ _ ?_; clear hK K; try clear Q'
    iterate 1 (refine wpList_plainQ rfl (fun K Q' hK => ?_); go_simp; refine hK _ _ ?_; clear hK K; try clear Q')
    refine wpList_nil ?_
    show Code.wp _ _ _ _ _
    refine wp_seq ?_
    repeat (first | simp only [List.nil_append] at h1 | simp only [List.cons_append] at h1 | simp only [List.set_cons_zero] at h1 | simp only [List.set_cons_succ] at h1 | simp only [List.eraseIdx_zero] at h1 | simp only [List.tail_cons] at h1 | simp only [List.eraseIdx_cons_zero] at h1 | simp only [List.eraseIdx_cons_succ] at h1 | simp only [List.setIfInBounds_toArray] at h1)
    refine wp_region_lit ?_
    -- stops at: eff:call (Go.Op.call {'callee': (Go.Callee.value (Go.Operand.func 13)), 'args': [], 'argTypes': []}) slot 19
    refine wpList_plainQ rfl (fun K Q' hK => ?_); go_simp
    refine (awake_ok H _ h1.fits htab).mono ?_
    rintro e wAw ⟨HAw, rfl, hpAw⟩
    have h2 := h1.call0 hpAw
    have htab_2 := htab.mono hpAw.le
    have ha_2 := ha.mono hpAw.le
    refine hK _ _ ?_; clear hK K; try clear Q'
    iterate 1 (refine wpList_plainQ rfl (fun K Q' hK => ?_); go_simp; refine hK _ _ ?_; clear hK K; try clear Q')
    refine wpList_nil ?_
    show Code.wp _ _ _ _ _
    refine wp_seq ?_
    refine wp_seq ?_
    repeat (first | simp only [List.nil_append] at h2 | simp only [List.cons_append] at h2 | simp only [List.set_cons_zero] at h2 | simp only [List.set_cons_succ] at h2 | simp only [List.eraseIdx_zero] at h2 | simp only [List.tail_cons] at h2 | simp only [List.eraseIdx_cons_zero] at h2 | simp only [List.eraseIdx_cons_succ] at h2 | simp only [List.setIfInBounds_toArray] at h2)
    refine wp_region_lit ?_
    iterate 2 (refine wpList_plainQ rfl (fun K Q' hK => ?_); go_simp; refine hK _ _ ?_; clear hK K; try clear Q')
    refine wpList_nil ?_
    show Code.wp _ _ _ _ _
    -- stops at: cond
    refine wp_cond_false (rfl) ?_
    refine wp_skip ?_
    show Code.wp _ _ _ _ _
    refine wp_seq ?_
    refine wp_seq ?_
    refine wp_region_lit ?_
    iterate 3 (refine wpList_plainQ rfl (fun K Q' hK => ?_); go_simp; refine hK _ _ ?_; clear hK K; try clear Q')
    refine wpList_nil ?_
    show Code.wp _ _ _ _ _
    -- stops at: cond
    refine wp_cond_false (rfl) ?_
    refine wp_skip ?_
    show Code.wp _ _ _ _ _
    refine wp_seq ?_
    refine wp_region_lit ?_
    iterate 1 (refine wpList_plainQ rfl (fun K Q' hK => ?_); go_simp; refine hK _ _ ?_; clear hK K; try clear Q')
    -- stops at: eff:call (Go.Op.call {'callee': (Go.Callee.value (Go.Operand.func 14)), 'args': [(Go.Operand.const (Go.Value.pointer none)), (Go.Operand.tmp 25)], 'argTypes': [36, 22]}) slot 26
    refine wpList_plainQ rfl (fun K Q' hK => ?_); go_simp
    refine (hof_ok (m := none) (xs := a) fa h2.pre (by omega) ha_2).mono ?_
    rintro e wXx ⟨rXx, HXx, rfl, hpXx, hXx⟩
    obtain ⟨Xx, eXx⟩ : ∃ hp0, Hid (Hp.ofL a = hp0) := ⟨_, show _ = _ from rfl⟩
    rw [eXx.out] at hXx
    have oXx := hXx.ok
    have pXx : Hid ((Hp.els Xx).Perm (a)) := by rw [← eXx.out]; exact Hp.els_ofL _
    have sXx : Hp.size Xx = (a).length := pXx.out.length_eq
    have h3 := h2.call0 hpXx
    have htab_3 := htab_2.mono hpXx.le
    have ha_3 := ha_2.mono hpXx.le
    refine hK _ _ ?_; clear hK K; try clear Q'
    refine wpList_plainQ rfl (fun K Q' hK => ?_); go_simp
    refine h3.k_alloc (fun w4 h4 => ?_)
    refine hK _ _ ?_; clear hK K; try clear Q'
    have c_0 := h4.cell 1 rfl 0 rfl
    have f_0 := h4.free 1 rfl 0
    refine wpList_plainQ rfl (fun K Q' hK => ?_); go_simp
    clear c_0 f_0
    refine h4.k_set 1 rfl (fun w5 h5 => ?_)
    refine hK _ _ ?_; clear hK K; try clear Q'
    refine wpList_nil ?_
    show Code.wp _ _ _ _ _
    refine wp_seq ?_
    refine wp_seq ?_
    repeat (first | simp only [List.nil_append] at h5 | simp only [List.cons_append] at h5 | simp only [List.set_cons_zero] at h5 | simp only [List.set_cons_succ] at h5 | simp only [List.eraseIdx_zero] at h5 | simp only [List.tail_cons] at h5 | simp only [List.eraseIdx_cons_zero] at h5 | simp only [List.eraseIdx_cons_succ] at h5 | simp only [List.setIfInBounds_toArray] at h5)
    refine wp_region_lit ?_
    iterate 1 (refine wpList_plainQ rfl (fun K Q' hK => ?_); go_simp; refine hK _ _ ?_; clear hK K; try clear Q')
    refine wpList_nil ?_
    show Code.wp _ _ _ _ _
    refine wp_block ?_
    -- stops at: loop
    go_loopw [9] (fun v9 wr => ∃ (k : Nat) (X : Hp) (q : Option Addr) (H' : GH), k ≤ k6 ∧ v9 = .int .i64 k ∧ Hid (Hp.size X ≤ 60) ∧ HpR H' q X ∧ St w H none 0 0 wr H' [(w.heap.size, .cells #[.int .i64 x.1, .int .i64 x.2] 41), (wXx.heap.size, .cells #[.pointer q] 26)] []) (fun v9 _ => k6 - (intOf v9).toNat)
    case atStart => exact ⟨0, Xx, _, _, by omega, rfl, by show _ ≤ _; omega, hXx, h5⟩
    case round =>
      obtain ⟨k, Xh, q, H7, hk, rfl, hs60, hXh, hs⟩ := hrel
      have oXh := hXh.ok
      have hs60' : Hp.size Xh ≤ 60 := hs60.out
      by_cases hlt : k < k6
      · have e1 : IntKind.i64.wrap ((k : Int) + 1) = (k : Int) + 1 := IntWalk.i64_in _ (by omega)
        have hsp := Hp.size_pop oXh
        refine wp_seq ?_
        refine wp_seq ?_
        repeat (first | simp only [List.nil_append] at hs | simp only [List.cons_append] at hs | simp only [List.set_cons_zero] at hs | simp only [List.set_cons_succ] at hs | simp only [List.eraseIdx_zero] at hs | simp only [List.tail_cons] at hs | simp only [List.eraseIdx_cons_zero] at hs | simp only [List.eraseIdx_cons_succ] at hs | simp only [List.setIfInBounds_toArray] at hs)
        refine wp_region_lit ?_
        iterate 5 (refine wpList_plainQ rfl (fun K Q' hK => ?_); go_simp; refine hK _ _ ?_; clear hK K; try clear Q')
        refine wpList_nil ?_
        show Code.wp _ _ _ _ _
        -- stops at: cond
        refine wp_cond_true (rfl) ?_
        refine wp_skip ?_
        show Code.wp _ _ _ _ _
        refine wp_seq ?_
        refine wp_block ?_
        refine wp_region_lit ?_
        have c_1_0 := hs.cell 1 rfl 0 rfl
        iterate 1 (refine wpList_plainQ rfl (fun K Q' hK => ?_); go_simp; refine hK _ _ ?_; clear hK K; try clear Q')
        clear c_1_0
        -- stops at: eff:call (Go.Op.call {'callee': (Go.Callee.value (Go.Operand.func 25)), 'args': [(Go.Operand.tmp 35), (Go.Operand.const (Go.Value.pointer none))], 'argTypes': [26, 36]}) slot 36
        refine wpList_plainQ rfl (fun K Q' hK => ?_); go_simp
        refine (hpop_ok (m := none) hs.pre (by omega) hXh).mono ?_
        rintro e wXp ⟨rXp, HXp, rfl, hpXp, hXp⟩
        try simp only [hmXh]
        try simp only []
        try simp only [Option.isSome_none]
        obtain ⟨Xp, eXp⟩ : ∃ hp0, Hid (Hp.pop Xh = hp0) := ⟨_, show _ = _ from rfl⟩
        rw [eXp.out] at hXp
        have oXp := hXp.ok
        have h6 := hs.call0 hpXp
        have hXh_6 := hXh.mono hpXp.le
        refine hK _ _ ?_; clear hK K; try clear Q'
        iterate 3 (refine wpList_plainQ rfl (fun K Q' hK => ?_); go_simp; refine hK _ _ ?_; clear hK K; try clear Q')
        have c_0 := h6.cell 1 rfl 0 rfl
        have f_0 := h6.free 1 rfl 0
        refine wpList_plainQ rfl (fun K Q' hK => ?_); go_simp
        clear c_0 f_0
        refine h6.k_set 1 rfl (fun w7 h7 => ?_)
        refine hK _ _ ?_; clear hK K; try clear Q'
        refine wpList_nil ?_
        show Code.wp _ _ _ _ _
        repeat (first | simp only [List.nil_append] at h7 | simp only [List.cons_append] at h7 | simp only [List.set_cons_zero] at h7 | simp only [List.set_cons_succ] at h7 | simp only [List.eraseIdx_zero] at h7 | simp only [List.tail_cons] at h7 | simp only [List.eraseIdx_cons_zero] at h7 | simp only [List.eraseIdx_cons_succ] at h7 | simp only [List.setIfInBounds_toArray] at h7)
        refine wp_region_lit ?_
        iterate 3 (refine wpList_plainQ rfl (fun K Q' hK => ?_); go_simp; refine hK _ _ ?_; clear hK K; try clear Q')
        refine wpList_nil ?_
        -- stops at: end ('roundend',)
        show _ ∧ _
        go_roundw
        case rel => exact ⟨k + 1, Xp, _, _, by omega, by simp, by rw [← eXp.out]; show _ ≤ _; omega, hXp, h7⟩
        case measure => simp [intOf]; omega
      · obtain rfl : k = k6 := by omega
        obtain ⟨L, hL⟩ : ∃ L, Hid ((Hp.els Xh).length = L) := ⟨_, show _ = _ from rfl⟩
        have sXh : Hp.size Xh = L := hL.out
        have e9 : IntKind.i64.wrap ((L : Int) + 1) = (L : Int) + 1 := IntWalk.i64_in _ (by omega)
        have pXh : Hid ((Hp.els Xh).Perm (Hp.els Xh)) := List.Perm.refl _
        refine wp_seq ?_
        refine wp_seq ?_
        repeat (first | simp only [List.nil_append] at hs | simp only [List.cons_append] at hs | simp only [List.set_cons_zero] at hs | simp only [List.set_cons_succ] at hs | simp only [List.eraseIdx_zero] at hs | simp only [List.tail_cons] at hs | simp only [List.eraseIdx_cons_zero] at hs | simp only [List.eraseIdx_cons_succ] at hs | simp only [List.setIfInBounds_toArray] at hs)
        refine wp_region_lit ?_
        iterate 5 (refine wpList_plainQ rfl (fun K Q' hK => ?_); go_simp; refine hK _ _ ?_; clear hK K; try clear Q')
        refine wpList_nil ?_
        show Code.wp _ _ _ _ _
        -- stops at: cond
        refine wp_cond_false (rfl) ?_
        refine wp_exit ?_
        show Code.wp _ _ _ _ _
        refine wp_seq ?_
        refine wp_region_lit ?_
        have c_1_0 := hs.cell 1 rfl 0 rfl
        iterate 1 (refine wpList_plainQ rfl (fun K Q' hK => ?_); go_simp; refine hK _ _ ?_; clear hK K; try clear Q')
        clear c_1_0
        -- stops at: eff:call (Go.Op.call {'callee': (Go.Callee.value (Go.Operand.func 27)), 'args': [(Go.Operand.tmp 40), (Go.Operand.const (Go.Value.pointer none))], 'argTypes': [26, 36]}) slot 41
        cases hS : sortE (Hp.els Xh) with
        | nil =>
          have hmXh := Hp.min_of_nil oXh hS
          refine wpList_plainQ rfl (fun K Q' hK => ?_); go_simp
          refine (hmin_ok (m := none) hs.pre (by omega) hXh).mono ?_
          rintro e wMn ⟨HMn, rfl, hpMn⟩
          try simp only [hmXh]
          try simp only [Option.getD_some, Option.isSome_some]
          try simp only [Option.getD_none, Option.isSome_none]
          have h8 := hs.call0 hpMn
          have hXh_8 := hXh.mono hpMn.le
          refine hK _ _ ?_; clear hK K; try clear Q'
          iterate 3 (refine wpList_plainQ rfl (fun K Q' hK => ?_); go_simp; refine hK _ _ ?_; clear hK K; try clear Q')
          refine wpList_plainQ rfl (fun K Q' hK => ?_); go_simp
          refine h8.k_alloc (fun w9 h9 => ?_)
          refine hK _ _ ?_; clear hK K; try clear Q'
          have c_0 := h9.cell 2 rfl 0 rfl
          have f_0 := h9.free 2 rfl 0
          have c_1 := h9.cell 2 rfl 1 rfl
          have f_1 := h9.free 2 rfl 1
          refine wpList_plainQ rfl (fun K Q' hK => ?_); go_simp
          clear c_0 f_0 c_1 f_1
          refine (h9.set (i := 2) rfl 0 _).k_set 2 rfl (fun w10 h10 => ?_)
          refine hK _ _ ?_; clear hK K; try clear Q'
          iterate 1 (refine wpList_plainQ rfl (fun K Q' hK => ?_); go_simp; refine hK _ _ ?_; clear hK K; try clear Q')
          refine wpList_nil ?_
          show Code.wp _ _ _ _ _
          refine wp_seq ?_
          repeat (first | simp only [List.nil_append] at h10 | simp only [List.cons_append] at h10 | simp only [List.set_cons_zero] at h10 | simp only [List.set_cons_succ] at h10 | simp only [List.eraseIdx_zero] at h10 | simp only [List.tail_cons] at h10 | simp only [List.eraseIdx_cons_zero] at h10 | simp only [List.eraseIdx_cons_succ] at h10 | simp only [List.setIfInBounds_toArray] at h10)
          refine wp_region_lit ?_
          have c_1_0 := h10.cell 1 rfl 0 rfl
          have c_0_0 := h10.cell 0 rfl 0 rfl
          have c_0_1 := h10.cell 0 rfl 1 rfl
          iterate 2 (refine wpList_plainQ rfl (fun K Q' hK => ?_); go_simp; refine hK _ _ ?_; clear hK K; try clear Q')
          clear c_1_0 c_0_0 c_0_1
          -- stops at: eff:call (Go.Op.call {'callee': (Go.Callee.value (Go.Operand.func 23)), 'args': [(Go.Operand.tmp 44), (Go.Operand.const (Go.Value.pointer none)), (Go.Operand.tmp 45)], ' slot 46
          refine wpList_plainQ rfl (fun K Q' hK => ?_); go_simp
          refine (hinsert_ok (m := none) x fx h10.pre (by omega) hXh_8).mono ?_
          rintro e wXg ⟨rXg, HXg, rfl, hpXg, hXg⟩
          obtain ⟨Xg, eXg⟩ : ∃ hp0, Hid (Hp.insert x Xh = hp0) := ⟨_, show _ = _ from rfl⟩
          rw [eXg.out] at hXg
          have oXg := hXg.ok
          have pXg : Hid ((Hp.els Xg).Perm (x :: Hp.els Xh)) := by
            rw [← eXg.out]
            exact (Hp.els_insert _ oXh).trans (pXh.out.cons _)
          have sXg : Hp.size Xg = L + 1 := by
            have hz : (Hp.els Xh).length = _ := sXh
            have hy := pXh.out.length_eq
            have hx := pXg.out.length_eq
            show (Hp.els Xg).length = _
            simp at *
            omega
          have h11 := h10.call0 hpXg
          have hXh_11 := hXh_8.mono hpXg.le
          refine hK _ _ ?_; clear hK K; try clear Q'
          refine wpList_plainQ rfl (fun K Q' hK => ?_); go_simp
          refine h11.k_alloc (fun w12 h12 => ?_)
          refine hK _ _ ?_; clear hK K; try clear Q'
          have c_0 := h12.cell 3 rfl 0 rfl
          have f_0 := h12.free 3 rfl 0
          refine wpList_plainQ rfl (fun K Q' hK => ?_); go_simp
          clear c_0 f_0
          refine h12.k_set 3 rfl (fun w13 h13 => ?_)
          refine hK _ _ ?_; clear hK K; try clear Q'
          refine wpList_nil ?_
          show Code.wp _ _ _ _ _
          refine wp_seq ?_
          repeat (first | simp only [List.nil_append] at h13 | simp only [List.cons_append] at h13 | simp only [List.set_cons_zero] at h13 | simp only [List.set_cons_succ] at h13 | simp only [List.eraseIdx_zero] at h13 | simp only [List.tail_cons] at h13 | simp only [List.eraseIdx_cons_zero] at h13 | simp only [List.eraseIdx_cons_succ] at h13 | simp only [List.setIfInBounds_toArray] at h13)
          refine wp_region_lit ?_
          have c_3_0 := h13.cell 3 rfl 0 rfl
          iterate 1 (refine wpList_plainQ rfl (fun K Q' hK => ?_); go_simp; refine hK _ _ ?_; clear hK K; try clear Q')
          clear c_3_0
          -- stops at: eff:call (Go.Op.call {'callee': (Go.Callee.value (Go.Operand.func 27)), 'args': [(Go.Operand.tmp 48), (Go.Operand.const (Go.Value.pointer none))], 'argTypes': [26, 36]}) slot 49
          have hsg : Hid (sortE (Hp.els Xg) = putE (sortE (Hp.els Xh)) x) := by show _ = _; rw [sortE_congr pXg.out, putE_sort]
          have hput : Hid (putE (sortE (Hp.els Xh)) x = (x) :: (([] : List El))) := by show _ = _; rw [hS]; rfl
          have hmXg : Hp.min? Xg = some (x) := (Hp.min_of_cons oXg (hsg.out.trans hput.out)).1
          refine wpList_plainQ rfl (fun K Q' hK => ?_); go_simp
          refine (hmin_ok (m := none) h13.pre (by omega) hXg).mono ?_
          rintro e wMg ⟨HMg, rfl, hpMg⟩
          try simp only [hmXg]
          try simp only [Option.getD_some, Option.isSome_some]
          try simp only [Option.getD_none, Option.isSome_none]
          have h14 := h13.call0 hpMg
          have hXh_14 := hXh_11.mono hpMg.le
          have hXg_14 := hXg.mono hpMg.le
          refine hK _ _ ?_; clear hK K; try clear Q'
          iterate 3 (refine wpList_plainQ rfl (fun K Q' hK => ?_); go_simp; refine hK _ _ ?_; clear hK K; try clear Q')
          refine wpList_plainQ rfl (fun K Q' hK => ?_); go_simp
          refine h14.k_alloc (fun w15 h15 => ?_)
          refine hK _ _ ?_; clear hK K; try clear Q'
          have c_0 := h15.cell 4 rfl 0 rfl
          have f_0 := h15.free 4 rfl 0
          have c_1 := h15.cell 4 rfl 1 rfl
          have f_1 := h15.free 4 rfl 1
          refine wpList_plainQ rfl (fun K Q' hK => ?_); go_simp
          clear c_0 f_0 c_1 f_1
          refine (h15.set (i := 4) rfl 0 _).k_set 4 rfl (fun w16 h16 => ?_)
          refine hK _ _ ?_; clear hK K; try clear Q'
          iterate 1 (refine wpList_plainQ rfl (fun K Q' hK => ?_); go_simp; refine hK _ _ ?_; clear hK K; try clear Q')
          refine wpList_nil ?_
          show Code.wp _ _ _ _ _
          refine wp_seq ?_
          repeat (first | simp only [List.nil_append] at h16 | simp only [List.cons_append] at h16 | simp only [List.set_cons_zero] at h16 | simp only [List.set_cons_succ] at h16 | simp only [List.eraseIdx_zero] at h16 | simp only [List.tail_cons] at h16 | simp only [List.eraseIdx_cons_zero] at h16 | simp only [List.eraseIdx_cons_succ] at h16 | simp only [List.setIfInBounds_toArray] at h16)
          refine wp_region_lit ?_
          iterate 3 (refine wpList_plainQ rfl (fun K Q' hK => ?_); go_simp; refine hK _ _ ?_; clear hK K; try clear Q')
          have c_0_0 := h16.cell 0 rfl 0 rfl
          have c_0_1 := h16.cell 0 rfl 1 rfl
          have c_2_0 := h16.cell 2 rfl 0 rfl
          have c_2_1 := h16.cell 2 rfl 1 rfl
          first | go_skip | (iterate 2 (refine wpList_stepQ (o := { dst := _, op := _, type := _, pos := _, after := _, guard := some (2, false) }) (fun K Q' hK => ?_); go_simp; refine hK _ _ ?_; clear hK K; try clear Q')) | skip
          clear c_0_0 c_0_1 c_2_0 c_2_1
          -- stops at: eff:call (Go.Op.call {'callee': (Go.Callee.value (Go.Operand.func 28)), 'args': [(Go.Operand.tmp 55), (Go.Operand.tmp 56)], 'argTypes': [41, 41]}) slot 57
          first | go_skip | (refine wpList_skip rfl ?_; simp only [Act.put, List.setIfInBounds_toArray, List.set_cons_zero, List.set_cons_succ]) | skip
          iterate 2 (refine wpList_plainQ rfl (fun K Q' hK => ?_); go_simp; refine hK _ _ ?_; clear hK K; try clear Q')
          refine wpList_nil ?_
          show Code.wp _ _ _ _ _
          refine wp_seq ?_
          refine wp_seq ?_
          refine h16.region [0, 1, 2, 3, 4] [(0, true), (1, true), (2, true), (3, true), (4, true), (5, true), (6, true), (7, true), (8, true), (9, true), (10, true), (11, true), (12, true), (13, true), (14, true), (15, true), (16, true), (17, true), (18, true), (19, true), (20, true), (22, true), (21, false), (23, false), (24, true), (25, true), (26, true)] (by kernel_rfl) (by kernel_rfl) (fun w17 h17 => ?_)
          refine wpOrd_hide (fun _ _ d _ _ h => by cases d <;> exact h) (fun QR hQn hQp => ?_)
          simp only [ordOps, List.map_cons, List.map_nil, List.getD_cons_zero, List.getD_cons_succ]
          iterate 3 (refine wpOrd_quiet (v := ?_) rfl (fun _ _ _ => hQp _ _ _ _ _) ?_ ?_; rotate_left; (intro w' hS; (first | (go_simp; done) | (go_simp; with_reducible rfl))); simp only [Act.put, List.setIfInBounds_toArray, List.set_cons_zero, List.set_cons_succ])
          iterate 2 (first | (refine wpOrd_skip rfl (fun _ _ _ => hQp _ _ _ _ _) ?_; simp only [Act.put, List.setIfInBounds_toArray, List.set_cons_zero, List.set_cons_succ]) | (refine wpOrd_quiet (v := ?_) rfl (fun _ _ _ => hQp _ _ _ _ _) ?_ ?_; rotate_left; (intro w' hS; (first | (go_simp; done) | (go_simp; with_reducible rfl))); simp only [Act.put, List.setIfInBounds_toArray, List.set_cons_zero, List.set_cons_succ]))
          iterate 3 (first | (refine wpOrd_skip rfl (fun _ _ _ => hQp _ _ _ _ _) ?_; simp only [Act.put, List.setIfInBounds_toArray, List.set_cons_zero, List.set_cons_succ]) | (refine wpOrd_quiet (v := ?_) rfl (fun _ _ _ => hQp _ _ _ _ _) ?_ ?_; rotate_left; (intro w' hS; have c_4_0 := hS.cell 4 rfl 0 rfl; have c_4_1 := hS.cell 4 rfl 1 rfl; have c_0_0 := hS.cell 0 rfl 0 rfl; have c_0_1 := hS.cell 0 rfl 1 rfl; (first | (go_simp; done) | (go_simp; with_reducible rfl))); simp only [Act.put, List.setIfInBounds_toArray, List.set_cons_zero, List.set_cons_succ]))
          iterate 1 (first | (refine wpOrd_skip rfl (fun _ _ _ => hQp _ _ _ _ _) ?_; simp only [Act.put, List.setIfInBounds_toArray, List.set_cons_zero, List.set_cons_succ]) | (refine wpOrd_quiet (v := ?_) rfl (fun _ _ _ => hQp _ _ _ _ _) ?_ ?_; rotate_left; (intro w' hS; (first | (go_simp; done) | (go_simp; with_reducible rfl))); simp only [Act.put, List.setIfInBounds_toArray, List.set_cons_zero, List.set_cons_succ]))
          iterate 2 (refine wpOrd_quiet (v := ?_) rfl (fun _ _ _ => hQp _ _ _ _ _) ?_ ?_; rotate_left; (intro w' hS; (first | (go_simp; done) | (go_simp; with_reducible rfl))); simp only [Act.put, List.setIfInBounds_toArray, List.set_cons_zero, List.set_cons_succ])
          iterate 3 (first | (refine wpOrd_skip rfl (fun _ _ _ => hQp _ _ _ _ _) ?_; simp only [Act.put, List.setIfInBounds_toArray, List.set_cons_zero, List.set_cons_succ]) | (refine wpOrd_quiet (v := ?_) rfl (fun _ _ _ => hQp _ _ _ _ _) ?_ ?_; rotate_left; (intro w' hS; (first | (go_simp; done) | (go_simp; with_reducible rfl))); simp only [Act.put, List.setIfInBounds_toArray, List.set_cons_zero, List.set_cons_succ]))
          iterate 3 (first | (refine wpOrd_skip rfl (fun _ _ _ => hQp _ _ _ _ _) ?_; simp only [Act.put, List.setIfInBounds_toArray, List.set_cons_zero, List.set_cons_succ]) | (refine wpOrd_quiet (v := ?_) rfl (fun _ _ _ => hQp _ _ _ _ _) ?_ ?_; rotate_left; (intro w' hS; have c_4_0 := hS.cell 4 rfl 0 rfl; have c_4_1 := hS.cell 4 rfl 1 rfl; have c_2_0 := hS.cell 2 rfl 0 rfl; have c_2_1 := hS.cell 2 rfl 1 rfl; (first | (go_simp; done) | (go_simp; with_reducible rfl))); simp only [Act.put, List.setIfInBounds_toArray, List.set_cons_zero, List.set_cons_succ]))
          iterate 1 (first | (refine wpOrd_skip rfl (fun _ _ _ => hQp _ _ _ _ _) ?_; simp only [Act.put, List.setIfInBounds_toArray, List.set_cons_zero, List.set_cons_succ]) | (refine wpOrd_quiet (v := ?_) rfl (fun _ _ _ => hQp _ _ _ _ _) ?_ ?_; rotate_left; (intro w' hS; (first | (go_simp; done) | (go_simp; with_reducible rfl))); simp only [Act.put, List.setIfInBounds_toArray, List.set_cons_zero, List.set_cons_succ]))
          iterate 2 (refine wpOrd_quiet (v := ?_) rfl (fun _ _ _ => hQp _ _ _ _ _) ?_ ?_; rotate_left; (intro w' hS; (first | (go_simp; done) | (go_simp; with_reducible rfl))); simp only [Act.put, List.setIfInBounds_toArray, List.set_cons_zero, List.set_cons_succ])
          iterate 2 (first | (refine wpOrd_skip rfl (fun _ _ _ => hQp _ _ _ _ _) ?_; simp only [Act.put, List.setIfInBounds_toArray, List.set_cons_zero, List.set_cons_succ]) | (refine wpOrd_quiet (v := ?_) rfl (fun _ _ _ => hQp _ _ _ _ _) ?_ ?_; rotate_left; (intro w' hS; have c_3_0 := hS.cell 3 rfl 0 rfl; have c_1_0 := hS.cell 1 rfl 0 rfl; (first | (go_simp; done) | (go_simp; with_reducible rfl))); simp only [Act.put, List.setIfInBounds_toArray, List.set_cons_zero, List.set_cons_succ]))
          -- stops at: eff:call (Go.Op.call {'callee': (Go.Callee.value (Go.Operand.func 20)), 'args': [(Go.Operand.tmp 79)], 'argTypes': [26]}) slot 80
          refine wpOrd_effQ rfl (fun K Q' hK => ?_); go_simp
          refine (hsize_ok h17.fits (by omega) hXg_14).mono ?_
          rintro e wZa ⟨HZa, rfl, hpZa⟩
          rw [sXg]
          have h18 := h17.call0 hpZa
          have hXh_18 := hXh_14.mono hpZa.le
          have hXg_18 := hXg_14.mono hpZa.le
          refine hK _ _ (h18.sat' hpZa.le [0, 1, 2, 3, 4] (by kernel_rfl)) ?_; clear hK K; try clear Q'
          -- stops at: eff:call (Go.Op.call {'callee': (Go.Callee.value (Go.Operand.func 20)), 'args': [(Go.Operand.tmp 81)], 'argTypes': [26]}) slot 82
          refine wpOrd_effQ rfl (fun K Q' hK => ?_); go_simp
          refine (hsize_ok h18.fits (by omega) hXh_18).mono ?_
          rintro e wZb ⟨HZb, rfl, hpZb⟩
          rw [sXh]
          have h19 := h18.call0 hpZb
          have hXh_19 := hXh_18.mono hpZb.le
          have hXg_19 := hXg_18.mono hpZb.le
          refine hK _ _ (h19.sat' (GH.le.trans hpZa.le hpZb.le) [0, 1, 2, 3, 4] (by kernel_rfl)) ?_; clear hK K; try clear Q'
          iterate 2 (first | (refine wpOrd_skip rfl (fun _ _ _ => hQp _ _ _ _ _) ?_; simp only [Act.put, List.setIfInBounds_toArray, List.set_cons_zero, List.set_cons_succ]) | (refine wpOrd_quiet (v := ?_) rfl (fun _ _ _ => hQp _ _ _ _ _) ?_ ?_; rotate_left; (intro w' hS; (first | (go_simp; done) | (go_simp; with_reducible rfl))); simp only [Act.put, List.setIfInBounds_toArray, List.set_cons_zero, List.set_cons_succ]))
          iterate 1 (refine wpOrd_quiet (v := ?_) rfl (fun _ _ _ => hQp _ _ _ _ _) ?_ ?_; rotate_left; (intro w' hS; (first | (go_simp; done) | (go_simp; with_reducible rfl))); simp only [Act.put, List.setIfInBounds_toArray, List.set_cons_zero, List.set_cons_succ])
          refine wpOrd_nil (hQn _ _ ?_); clear hQn hQp QR
          show Code.wp _ _ _ _ _
          -- stops at: cond
          refine wp_cond_false (rfl) ?_
          refine wp_skip ?_
          show Code.wp _ _ _ _ _
          refine wp_seq ?_
          repeat (first | simp only [List.nil_append] at h19 | simp only [List.cons_append] at h19 | simp only [List.set_cons_zero] at h19 | simp only [List.set_cons_succ] at h19 | simp only [List.eraseIdx_zero] at h19 | simp only [List.tail_cons] at h19 | simp only [List.eraseIdx_cons_zero] at h19 | simp only [List.eraseIdx_cons_succ] at h19 | simp only [List.setIfInBounds_toArray] at h19)
          refine wp_region_lit ?_
          have c_3_0 := h19.cell 3 rfl 0 rfl
          iterate 1 (refine wpList_plainQ rfl (fun K Q' hK => ?_); go_simp; refine hK _ _ ?_; clear hK K; try clear Q')
          clear c_3_0
          -- stops at: eff:call (Go.Op.call {'callee': (Go.Callee.value (Go.Operand.func 25)), 'args': [(Go.Operand.tmp 87), (Go.Operand.const (Go.Value.pointer none))], 'argTypes': [26, 36]}) slot 88
          refine wpList_plainQ rfl (fun K Q' hK => ?_); go_simp
          refine (hpop_ok (m := none) h19.pre (by omega) hXg_19).mono ?_
          rintro e wXk ⟨rXk, HXk, rfl, hpXk, hXk⟩
          try simp only [hmXg]
          try simp only [Option.isSome_some]
          try simp only [Option.isSome_none]
          obtain ⟨Xk, eXk⟩ : ∃ hp0, Hid (Hp.pop Xg = hp0) := ⟨_, show _ = _ from rfl⟩
          rw [eXk.out] at hXk
          have oXk := hXk.ok
          have h20 := h19.call0 hpXk
          have hXh_20 := hXh_19.mono hpXk.le
          have hXg_20 := hXg_19.mono hpXk.le
          refine hK _ _ ?_; clear hK K; try clear Q'
          iterate 3 (refine wpList_plainQ rfl (fun K Q' hK => ?_); go_simp; refine hK _ _ ?_; clear hK K; try clear Q')
          refine wpList_plainQ rfl (fun K Q' hK => ?_); go_simp
          refine h20.k_alloc (fun w21 h21 => ?_)
          refine hK _ _ ?_; clear hK K; try clear Q'
          have c_0 := h21.cell 5 rfl 0 rfl
          have f_0 := h21.free 5 rfl 0
          refine wpList_plainQ rfl (fun K Q' hK => ?_); go_simp
          clear c_0 f_0
          refine h21.k_set 5 rfl (fun w22 h22 => ?_)
          refine hK _ _ ?_; clear hK K; try clear Q'
          iterate 1 (refine wpList_plainQ rfl (fun K Q' hK => ?_); go_simp; refine hK _ _ ?_; clear hK K; try clear Q')
          refine wpList_nil ?_
          show Code.wp _ _ _ _ _
          refine wp_seq ?_
          refine wp_seq ?_
          repeat (first | simp only [List.nil_append] at h22 | simp only [List.cons_append] at h22 | simp only [List.set_cons_zero] at h22 | simp only [List.set_cons_succ] at h22 | simp only [List.eraseIdx_zero] at h22 | simp only [List.tail_cons] at h22 | simp only [List.eraseIdx_cons_zero] at h22 | simp only [List.eraseIdx_cons_succ] at h22 | simp only [List.setIfInBounds_toArray] at h22)
          refine h22.region [1, 5] [(0, true), (1, true), (2, true), (3, true), (5, true), (4, false), (6, false), (7, true), (8, true)] (by kernel_rfl) (by kernel_rfl) (fun w23 h23 => ?_)
          refine wpOrd_hide (fun _ _ d _ _ h => by cases d <;> exact h) (fun QR hQn hQp => ?_)
          simp only [ordOps, List.map_cons, List.map_nil, List.getD_cons_zero, List.getD_cons_succ]
          iterate 3 (refine wpOrd_quiet (v := ?_) rfl (fun _ _ _ => hQp _ _ _ _ _) ?_ ?_; rotate_left; (intro w' hS; (first | (go_simp; done) | (go_simp; with_reducible rfl))); simp only [Act.put, List.setIfInBounds_toArray, List.set_cons_zero, List.set_cons_succ])
          iterate 2 (first | (refine wpOrd_skip rfl (fun _ _ _ => hQp _ _ _ _ _) ?_; simp only [Act.put, List.setIfInBounds_toArray, List.set_cons_zero, List.set_cons_succ]) | (refine wpOrd_quiet (v := ?_) rfl (fun _ _ _ => hQp _ _ _ _ _) ?_ ?_; rotate_left; (intro w' hS; have c_5_0 := hS.cell 1 rfl 0 rfl; have c_1_0 := hS.cell 0 rfl 0 rfl; (first | (go_simp; done) | (go_simp; with_reducible rfl))); simp only [Act.put, List.setIfInBounds_toArray, List.set_cons_zero, List.set_cons_succ]))
          -- stops at: eff:call (Go.Op.call {'callee': (Go.Callee.value (Go.Operand.func 20)), 'args': [(Go.Operand.tmp 94)], 'argTypes': [26]}) slot 95
          have pXk : Hid ((Hp.els Xk).Perm (([] : List El))) := by
            have h1 := Hp.pop_perm oXg
            rw [eXk.out, hsg.out, hput.out] at h1
            exact h1
          have sXk : Hp.size Xk = L := by
            have h1 := congrArg List.length hput.out
            rw [putE_length, sortE_length] at h1
            have h2 := hL.out
            rw [Hp.size_eq, pXk.out.length_eq]
            simp only [List.length_cons] at h1 ⊢
            omega
          refine wpOrd_effQ rfl (fun K Q' hK => ?_); go_simp
          refine (hsize_ok h23.fits (by omega) hXk).mono ?_
          rintro e wZc ⟨HZc, rfl, hpZc⟩
          rw [sXk]
          have h24 := h23.call0 hpZc
          have hXh_24 := hXh_20.mono hpZc.le
          have hXg_24 := hXg_20.mono hpZc.le
          have hXk_24 := hXk.mono hpZc.le
          refine hK _ _ (h24.sat' hpZc.le [1, 5] (by kernel_rfl)) ?_; clear hK K; try clear Q'
          -- stops at: eff:call (Go.Op.call {'callee': (Go.Callee.value (Go.Operand.func 20)), 'args': [(Go.Operand.tmp 96)], 'argTypes': [26]}) slot 97
          refine wpOrd_effQ rfl (fun K Q' hK => ?_); go_simp
          refine (hsize_ok h24.fits (by omega) hXh_24).mono ?_
          rintro e wZd ⟨HZd, rfl, hpZd⟩
          rw [sXh]
          have h25 := h24.call0 hpZd
          have hXh_25 := hXh_24.mono hpZd.le
          have hXg_25 := hXg_24.mono hpZd.le
          have hXk_25 := hXk_24.mono hpZd.le
          refine hK _ _ (h25.sat' (GH.le.trans hpZc.le hpZd.le) [1, 5] (by kernel_rfl)) ?_; clear hK K; try clear Q'
          iterate 1 (first | (refine wpOrd_skip rfl (fun _ _ _ => hQp _ _ _ _ _) ?_; simp only [Act.put, List.setIfInBounds_toArray, List.set_cons_zero, List.set_cons_succ]) | (refine wpOrd_quiet (v := ?_) rfl (fun _ _ _ => hQp _ _ _ _ _) ?_ ?_; rotate_left; (intro w' hS; (first | (go_simp; done) | (go_simp; with_reducible rfl))); simp only [Act.put, List.setIfInBounds_toArray, List.set_cons_zero, List.set_cons_succ]))
          iterate 1 (refine wpOrd_quiet (v := ?_) rfl (fun _ _ _ => hQp _ _ _ _ _) ?_ ?_; rotate_left; (intro w' hS; (first | (go_simp; done) | (go_simp; with_reducible rfl))); simp only [Act.put, List.setIfInBounds_toArray, List.set_cons_zero, List.set_cons_succ])
          refine wpOrd_nil (hQn _ _ ?_); clear hQn hQp QR
          show Code.wp _ _ _ _ _
          -- stops at: cond
          refine wp_cond_false (rfl) ?_
          refine wp_skip ?_
          show Code.wp _ _ _ _ _
          refine wp_seq ?_
          repeat (first | simp only [List.nil_append] at h25 | simp only [List.cons_append] at h25 | simp only [List.set_cons_zero] at h25 | simp only [List.set_cons_succ] at h25 | simp only [List.eraseIdx_zero] at h25 | simp only [List.tail_cons] at h25 | simp only [List.eraseIdx_cons_zero] at h25 | simp only [List.eraseIdx_cons_succ] at h25 | simp only [List.setIfInBounds_toArray] at h25)
          refine wp_region_lit ?_
          have c_1_0 := h25.cell 1 rfl 0 rfl
          iterate 1 (refine wpList_plainQ rfl (fun K Q' hK => ?_); go_simp; refine hK _ _ ?_; clear hK K; try clear Q')
          clear c_1_0
          -- stops at: eff:call (Go.Op.call {'callee': (Go.Callee.value (Go.Operand.func 17)), 'args': [(Go.Operand.tmp 100), (Go.Operand.const (Go.Value.int Go.IntKind.i64 200))], 'argTypes': slot 101
          refine wpList_plainQ rfl (fun K Q' hK => ?_); go_simp
          refine (drain_ok _ _ _ Xh 200 (by omega) (by omega) h25.fits hXh_25).mono ?_
          rintro e wDh ⟨vDh, HDh, rfl, hpDh, dDh⟩
          rw [drainL_all 200 Xh oXh (by omega), sortE_congr pXh.out] at dDh
          have h26 := h25.call0 hpDh
          have hXh_26 := hXh_25.mono hpDh.le
          have hXg_26 := hXg_25.mono hpDh.le
          have hXk_26 := hXk_25.mono hpDh.le
          refine hK _ _ ?_; clear hK K; try clear Q'
          iterate 1 (refine wpList_plainQ rfl (fun K Q' hK => ?_); go_simp; refine hK _ _ ?_; clear hK K; try clear Q')
          refine wpList_nil ?_
          show Code.wp _ _ _ _ _
          refine wp_seq ?_
          refine wp_seq ?_
          repeat (first | simp only [List.nil_append] at h26 | simp only [List.cons_append] at h26 | simp only [List.set_cons_zero] at h26 | simp only [List.set_cons_succ] at h26 | simp only [List.eraseIdx_zero] at h26 | simp only [List.tail_cons] at h26 | simp only [List.eraseIdx_cons_zero] at h26 | simp only [List.eraseIdx_cons_succ] at h26 | simp only [List.setIfInBounds_toArray] at h26)
          refine wp_region_lit ?_
          iterate 2 (refine wpList_plainQ rfl (fun K Q' hK => ?_); go_simp; refine hK _ _ ?_; clear hK K; try clear Q')
          refine wpList_nil ?_
          show Code.wp _ _ _ _ _
          -- stops at: cond
          refine wp_cond_false (rfl) ?_
          refine wp_skip ?_
          show Code.wp _ _ _ _ _
          refine wp_seq ?_
          refine wp_region_lit ?_
          have c_5_0 := h26.cell 5 rfl 0 rfl
          iterate 1 (refine wpList_plainQ rfl (fun K Q' hK => ?_); go_simp; refine hK _ _ ?_; clear hK K; try clear Q')
          clear c_5_0
          -- stops at: eff:call (Go.Op.call {'callee': (Go.Callee.value (Go.Operand.func 17)), 'args': [(Go.Operand.tmp 108), (Go.Operand.const (Go.Value.int Go.IntKind.i64 200))], 'argTypes': slot 109
          refine wpList_plainQ rfl (fun K Q' hK => ?_); go_simp
          refine (drain_ok _ _ _ Xk 200 (by omega) (by omega) h26.fits hXk_26).mono ?_
          rintro e wDk ⟨vDk, HDk, rfl, hpDk, dDk⟩
          rw [drainL_all 200 Xk oXk (by omega), sortE_congr pXk.out] at dDk
          have h27 := h26.call0 hpDk
          have hXh_27 := hXh_26.mono hpDk.le
          have hXg_27 := hXg_26.mono hpDk.le
          have hXk_27 := hXk_26.mono hpDk.le
          have dDh_27 := dDh.mono hpDk.le
          refine hK _ _ ?_; clear hK K; try clear Q'
          iterate 1 (refine wpList_plainQ rfl (fun K Q' hK => ?_); go_simp; refine hK _ _ ?_; clear hK K; try clear Q')
          -- stops at: eff:call (Go.Op.call {'callee': (Go.Callee.value (Go.Operand.func 18)), 'args': [(Go.Operand.tmp 109), (Go.Operand.tmp 110)], 'argTypes': [22, 22]}) slot 111
          refine wpList_plainQ rfl (fun K Q' hK => ?_); go_simp
          refine (rsame_ok _ _ _ _ _ _ (by simp only [sortE_nil, List.length_nil]; omega) (by simp only [hS, List.length_nil]; omega) h27.fits dDk dDh_27).mono ?_
          rintro e wE1 ⟨rfl, hkE1⟩
          rw [decide_eq_true (by rw [hS]; rfl)]
          have h28 := h27.callk hkE1
          refine hK _ _ ?_; clear hK K; try clear Q'
          iterate 1 (refine wpList_plainQ rfl (fun K Q' hK => ?_); go_simp; refine hK _ _ ?_; clear hK K; try clear Q')
          refine wpList_nil ?_
          show Code.wp _ _ _ _ _
          -- stops at: ret
          refine wp_ret ?_
          go_ret
          exact ⟨rfl, h28.post.keep⟩
        | cons o R =>
          have hmXh := (Hp.min_of_cons oXh hS).1
          have hsr : Sorted (o :: R) := by rw [← hS]; exact sortE_sorted _
          have hRl : (o :: R).length ≤ 60 := by rw [← hS, sortE_length]; have := hL.out; omega
          cases hlt : El.lt x o with
          | true =>
            refine wpList_plainQ rfl (fun K Q' hK => ?_); go_simp
            refine (hmin_ok (m := none) hs.pre (by omega) hXh).mono ?_
            rintro e wMn ⟨HMn, rfl, hpMn⟩
            try simp only [hmXh]
            try simp only [Option.getD_some, Option.isSome_some]
            try simp only [Option.getD_none, Option.isSome_none]
            have h29 := hs.call0 hpMn
            have hXh_29 := hXh.mono hpMn.le
            refine hK _ _ ?_; clear hK K; try clear Q'
            iterate 3 (refine wpList_plainQ rfl (fun K Q' hK => ?_); go_simp; refine hK _ _ ?_; clear hK K; try clear Q')
            refine wpList_plainQ rfl (fun K Q' hK => ?_); go_simp
            refine h29.k_alloc (fun w30 h30 => ?_)
            refine hK _ _ ?_; clear hK K; try clear Q'
            have c_0 := h30.cell 2 rfl 0 rfl
            have f_0 := h30.free 2 rfl 0
            have c_1 := h30.cell 2 rfl 1 rfl
            have f_1 := h30.free 2 rfl 1
            refine wpList_plainQ rfl (fun K Q' hK => ?_); go_simp
            clear c_0 f_0 c_1 f_1
            refine (h30.set (i := 2) rfl 0 _).k_set 2 rfl (fun w31 h31 => ?_)
            refine hK _ _ ?_; clear hK K; try clear Q'
            iterate 1 (refine wpList_plainQ rfl (fun K Q' hK => ?_); go_simp; refine hK _ _ ?_; clear hK K; try clear Q')
            refine wpList_nil ?_
            show Code.wp _ _ _ _ _
            refine wp_seq ?_
            repeat (first | simp only [List.nil_append] at h31 | simp only [List.cons_append] at h31 | simp only [List.set_cons_zero] at h31 | simp only [List.set_cons_succ] at h31 | simp only [List.eraseIdx_zero] at h31 | simp only [List.tail_cons] at h31 | simp only [List.eraseIdx_cons_zero] at h31 | simp only [List.eraseIdx_cons_succ] at h31 | simp only [List.setIfInBounds_toArray] at h31)
            refine wp_region_lit ?_
            have c_1_0 := h31.cell 1 rfl 0 rfl
            have c_0_0 := h31.cell 0 rfl 0 rfl
            have c_0_1 := h31.cell 0 rfl 1 rfl
            iterate 2 (refine wpList_plainQ rfl (fun K Q' hK => ?_); go_simp; refine hK _ _ ?_; clear hK K; try clear Q')
            clear c_1_0 c_0_0 c_0_1
            -- stops at: eff:call (Go.Op.call {'callee': (Go.Callee.value (Go.Operand.func 23)), 'args': [(Go.Operand.tmp 44), (Go.Operand.const (Go.Value.pointer none)), (Go.Operand.tmp 45)], ' slot 46
            refine wpList_plainQ rfl (fun K Q' hK => ?_); go_simp
            refine (hinsert_ok (m := none) x fx h31.pre (by omega) hXh_29).mono ?_
            rintro e wXg ⟨rXg, HXg, rfl, hpXg, hXg⟩
            obtain ⟨Xg, eXg⟩ : ∃ hp0, Hid (Hp.insert x Xh = hp0) := ⟨_, show _ = _ from rfl⟩
            rw [eXg.out] at hXg
            have oXg := hXg.ok
            have pXg : Hid ((Hp.els Xg).Perm (x :: Hp.els Xh)) := by
              rw [← eXg.out]
              exact (Hp.els_insert _ oXh).trans (pXh.out.cons _)
            have sXg : Hp.size Xg = L + 1 := by
              have hz : (Hp.els Xh).length = _ := sXh
              have hy := pXh.out.length_eq
              have hx := pXg.out.length_eq
              show (Hp.els Xg).length = _
              simp at *
              omega
            have h32 := h31.call0 hpXg
            have hXh_32 := hXh_29.mono hpXg.le
            refine hK _ _ ?_; clear hK K; try clear Q'
            refine wpList_plainQ rfl (fun K Q' hK => ?_); go_simp
            refine h32.k_alloc (fun w33 h33 => ?_)
            refine hK _ _ ?_; clear hK K; try clear Q'
            have c_0 := h33.cell 3 rfl 0 rfl
            have f_0 := h33.free 3 rfl 0
            refine wpList_plainQ rfl (fun K Q' hK => ?_); go_simp
            clear c_0 f_0
            refine h33.k_set 3 rfl (fun w34 h34 => ?_)
            refine hK _ _ ?_; clear hK K; try clear Q'
            refine wpList_nil ?_
            show Code.wp _ _ _ _ _
            refine wp_seq ?_
            repeat (first | simp only [List.nil_append] at h34 | simp only [List.cons_append] at h34 | simp only [List.set_cons_zero] at h34 | simp only [List.set_cons_succ] at h34 | simp only [List.eraseIdx_zero] at h34 | simp only [List.tail_cons] at h34 | simp only [List.eraseIdx_cons_zero] at h34 | simp only [List.eraseIdx_cons_succ] at h34 | simp only [List.setIfInBounds_toArray] at h34)
            refine wp_region_lit ?_
            have c_3_0 := h34.cell 3 rfl 0 rfl
            iterate 1 (refine wpList_plainQ rfl (fun K Q' hK => ?_); go_simp; refine hK _ _ ?_; clear hK K; try clear Q')
            clear c_3_0
            -- stops at: eff:call (Go.Op.call {'callee': (Go.Callee.value (Go.Operand.func 27)), 'args': [(Go.Operand.tmp 48), (Go.Operand.const (Go.Value.pointer none))], 'argTypes': [26, 36]}) slot 49
            have hsg : Hid (sortE (Hp.els Xg) = putE (sortE (Hp.els Xh)) x) := by show _ = _; rw [sortE_congr pXg.out, putE_sort]
            have hput : Hid (putE (sortE (Hp.els Xh)) x = (x) :: (o :: R)) := by show _ = _; rw [hS]; exact put_first R hlt
            have hmXg : Hp.min? Xg = some (x) := (Hp.min_of_cons oXg (hsg.out.trans hput.out)).1
            refine wpList_plainQ rfl (fun K Q' hK => ?_); go_simp
            refine (hmin_ok (m := none) h34.pre (by omega) hXg).mono ?_
            rintro e wMg ⟨HMg, rfl, hpMg⟩
            try simp only [hmXg]
            try simp only [Option.getD_some, Option.isSome_some]
            try simp only [Option.getD_none, Option.isSome_none]
            have h35 := h34.call0 hpMg
            have hXh_35 := hXh_32.mono hpMg.le
            have hXg_35 := hXg.mono hpMg.le
            refine hK _ _ ?_; clear hK K; try clear Q'
            iterate 3 (refine wpList_plainQ rfl (fun K Q' hK => ?_); go_simp; refine hK _ _ ?_; clear hK K; try clear Q')
            refine wpList_plainQ rfl (fun K Q' hK => ?_); go_simp
            refine h35.k_alloc (fun w36 h36 => ?_)
            refine hK _ _ ?_; clear hK K; try clear Q'
            have c_0 := h36.cell 4 rfl 0 rfl
            have f_0 := h36.free 4 rfl 0
            have c_1 := h36.cell 4 rfl 1 rfl
            have f_1 := h36.free 4 rfl 1
            refine wpList_plainQ rfl (fun K Q' hK => ?_); go_simp
            clear c_0 f_0 c_1 f_1
            refine (h36.set (i := 4) rfl 0 _).k_set 4 rfl (fun w37 h37 => ?_)
            refine hK _ _ ?_; clear hK K; try clear Q'
            iterate 1 (refine wpList_plainQ rfl (fun K Q' hK => ?_); go_simp; refine hK _ _ ?_; clear hK K; try clear Q')
            refine wpList_nil ?_
            show Code.wp _ _ _ _ _
            refine wp_seq ?_
            repeat (first | simp only [List.nil_append] at h37 | simp only [List.cons_append] at h37 | simp only [List.set_cons_zero] at h37 | simp only [List.set_cons_succ] at h37 | simp only [List.eraseIdx_zero] at h37 | simp only [List.tail_cons] at h37 | simp only [List.eraseIdx_cons_zero] at h37 | simp only [List.eraseIdx_cons_succ] at h37 | simp only [List.setIfInBounds_toArray] at h37)
            refine wp_region_lit ?_
            iterate 3 (refine wpList_plainQ rfl (fun K Q' hK => ?_); go_simp; refine hK _ _ ?_; clear hK K; try clear Q')
            have c_0_0 := h37.cell 0 rfl 0 rfl
            have c_0_1 := h37.cell 0 rfl 1 rfl
            have c_2_0 := h37.cell 2 rfl 0 rfl
            have c_2_1 := h37.cell 2 rfl 1 rfl
            first | go_skip | (iterate 2 (refine wpList_stepQ (o := { dst := _, op := _, type := _, pos := _, after := _, guard := some (2, false) }) (fun K Q' hK => ?_); go_simp; refine hK _ _ ?_; clear hK K; try clear Q')) | skip
            clear c_0_0 c_0_1 c_2_0 c_2_1
            -- stops at: eff:call (Go.Op.call {'callee': (Go.Callee.value (Go.Operand.func 28)), 'args': [(Go.Operand.tmp 55), (Go.Operand.tmp 56)], 'argTypes': [41, 41]}) slot 57
            refine wpList_stepQ (fun K Q' hK => ?_); go_simp
            refine (rless_ok _ _ x o h37.fits).mono ?_
            rintro e wL ⟨rfl, hkL⟩
            rw [hlt]
            have h38 := h37.callk hkL
            refine hK _ _ ?_; clear hK K; try clear Q'
            iterate 2 (refine wpList_plainQ rfl (fun K Q' hK => ?_); go_simp; refine hK _ _ ?_; clear hK K; try clear Q')
            refine wpList_nil ?_
            show Code.wp _ _ _ _ _
            refine wp_seq ?_
            refine wp_seq ?_
            repeat (first | simp only [List.nil_append] at h38 | simp only [List.cons_append] at h38 | simp only [List.set_cons_zero] at h38 | simp only [List.set_cons_succ] at h38 | simp only [List.eraseIdx_zero] at h38 | simp only [List.tail_cons] at h38 | simp only [List.eraseIdx_cons_zero] at h38 | simp only [List.eraseIdx_cons_succ] at h38 | simp only [List.setIfInBounds_toArray] at h38)
            refine h38.region [0, 1, 2, 3, 4] [(0, true), (1, true), (2, true), (3, true), (4, true), (5, true), (6, true), (7, true), (8, true), (9, true), (10, true), (11, true), (12, true), (13, true), (14, true), (15, true), (16, true), (17, true), (18, true), (19, true), (20, true), (22, true), (21, false), (23, false), (24, true), (25, true), (26, true)] (by kernel_rfl) (by kernel_rfl) (fun w39 h39 => ?_)
            refine wpOrd_hide (fun _ _ d _ _ h => by cases d <;> exact h) (fun QR hQn hQp => ?_)
            simp only [ordOps, List.map_cons, List.map_nil, List.getD_cons_zero, List.getD_cons_succ]
            iterate 3 (refine wpOrd_quiet (v := ?_) rfl (fun _ _ _ => hQp _ _ _ _ _) ?_ ?_; rotate_left; (intro w' hS; (first | (go_simp; done) | (go_simp; with_reducible rfl))); simp only [Act.put, List.setIfInBounds_toArray, List.set_cons_zero, List.set_cons_succ])
            iterate 2 (first | (refine wpOrd_skip rfl (fun _ _ _ => hQp _ _ _ _ _) ?_; simp only [Act.put, List.setIfInBounds_toArray, List.set_cons_zero, List.set_cons_succ]) | (refine wpOrd_quiet (v := ?_) rfl (fun _ _ _ => hQp _ _ _ _ _) ?_ ?_; rotate_left; (intro w' hS; (first | (go_simp; done) | (go_simp; with_reducible rfl))); simp only [Act.put, List.setIfInBounds_toArray, List.set_cons_zero, List.set_cons_succ]))
            iterate 3 (first | (refine wpOrd_skip rfl (fun _ _ _ => hQp _ _ _ _ _) ?_; simp only [Act.put, List.setIfInBounds_toArray, List.set_cons_zero, List.set_cons_succ]) | (refine wpOrd_quiet (v := ?_) rfl (fun _ _ _ => hQp _ _ _ _ _) ?_ ?_; rotate_left; (intro w' hS; have c_4_0 := hS.cell 4 rfl 0 rfl; have c_4_1 := hS.cell 4 rfl 1 rfl; have c_0_0 := hS.cell 0 rfl 0 rfl; have c_0_1 := hS.cell 0 rfl 1 rfl; (first | (go_simp; done) | (go_simp; with_reducible rfl))); simp only [Act.put, List.setIfInBounds_toArray, List.set_cons_zero, List.set_cons_succ]))
            iterate 1 (first | (refine wpOrd_skip rfl (fun _ _ _ => hQp _ _ _ _ _) ?_; simp only [Act.put, List.setIfInBounds_toArray, List.set_cons_zero, List.set_cons_succ]) | (refine wpOrd_quiet (v := ?_) rfl (fun _ _ _ => hQp _ _ _ _ _) ?_ ?_; rotate_left; (intro w' hS; (first | (go_simp; done) | (go_simp; with_reducible rfl))); simp only [Act.put, List.setIfInBounds_toArray, List.set_cons_zero, List.set_cons_succ]))
            iterate 2 (refine wpOrd_quiet (v := ?_) rfl (fun _ _ _ => hQp _ _ _ _ _) ?_ ?_; rotate_left; (intro w' hS; (first | (go_simp; done) | (go_simp; with_reducible rfl))); simp only [Act.put, List.setIfInBounds_toArray, List.set_cons_zero, List.set_cons_succ])
            iterate 3 (first | (refine wpOrd_skip rfl (fun _ _ _ => hQp _ _ _ _ _) ?_; simp only [Act.put, List.setIfInBounds_toArray, List.set_cons_zero, List.set_cons_succ]) | (refine wpOrd_quiet (v := ?_) rfl (fun _ _ _ => hQp _ _ _ _ _) ?_ ?_; rotate_left; (intro w' hS; (first | (go_simp; done) | (go_simp; with_reducible rfl))); simp only [Act.put, List.setIfInBounds_toArray, List.set_cons_zero, List.set_cons_succ]))
            iterate 3 (first | (refine wpOrd_skip rfl (fun _ _ _ => hQp _ _ _ _ _) ?_; simp only [Act.put, List.setIfInBounds_toArray, List.set_cons_zero, List.set_cons_succ]) | (refine wpOrd_quiet (v := ?_) rfl (fun _ _ _ => hQp _ _ _ _ _) ?_ ?_; rotate_left; (intro w' hS; have c_4_0 := hS.cell 4 rfl 0 rfl; have c_4_1 := hS.cell 4 rfl 1 rfl; have c_2_0 := hS.cell 2 rfl 0 rfl; have c_2_1 := hS.cell 2 rfl 1 rfl; (first | (go_simp; done) | (go_simp; with_reducible rfl))); simp only [Act.put, List.setIfInBounds_toArray, List.set_cons_zero, List.set_cons_succ]))
            iterate 1 (first | (refine wpOrd_skip rfl (fun _ _ _ => hQp _ _ _ _ _) ?_; simp only [Act.put, List.setIfInBounds_toArray, List.set_cons_zero, List.set_cons_succ]) | (refine wpOrd_quiet (v := ?_) rfl (fun _ _ _ => hQp _ _ _ _ _) ?_ ?_; rotate_left; (intro w' hS; (first | (go_simp; done) | (go_simp; with_reducible rfl))); simp only [Act.put, List.setIfInBounds_toArray, List.set_cons_zero, List.set_cons_succ]))
            iterate 2 (refine wpOrd_quiet (v := ?_) rfl (fun _ _ _ => hQp _ _ _ _ _) ?_ ?_; rotate_left; (intro w' hS; (first | (go_simp; done) | (go_simp; with_reducible rfl))); simp only [Act.put, List.setIfInBounds_toArray, List.set_cons_zero, List.set_cons_succ])
            iterate 2 (first | (refine wpOrd_skip rfl (fun _ _ _ => hQp _ _ _ _ _) ?_; simp only [Act.put, List.setIfInBounds_toArray, List.set_cons_zero, List.set_cons_succ]) | (refine wpOrd_quiet (v := ?_) rfl (fun _ _ _ => hQp _ _ _ _ _) ?_ ?_; rotate_left; (intro w' hS; have c_3_0 := hS.cell 3 rfl 0 rfl; have c_1_0 := hS.cell 1 rfl 0 rfl; (first | (go_simp; done) | (go_simp; with_reducible rfl))); simp only [Act.put, List.setIfInBounds_toArray, List.set_cons_zero, List.set_cons_succ]))
            -- stops at: eff:call (Go.Op.call {'callee': (Go.Callee.value (Go.Operand.func 20)), 'args': [(Go.Operand.tmp 79)], 'argTypes': [26]}) slot 80
            refine wpOrd_effQ rfl (fun K Q' hK => ?_); go_simp
            refine (hsize_ok h39.fits (by omega) hXg_35).mono ?_
            rintro e wZa ⟨HZa, rfl, hpZa⟩
            rw [sXg]
            have h40 := h39.call0 hpZa
            have hXh_40 := hXh_35.mono hpZa.le
            have hXg_40 := hXg_35.mono hpZa.le
            refine hK _ _ (h40.sat' hpZa.le [0, 1, 2, 3, 4] (by kernel_rfl)) ?_; clear hK K; try clear Q'
            -- stops at: eff:call (Go.Op.call {'callee': (Go.Callee.value (Go.Operand.func 20)), 'args': [(Go.Operand.tmp 81)], 'argTypes': [26]}) slot 82
            refine wpOrd_effQ rfl (fun K Q' hK => ?_); go_simp
            refine (hsize_ok h40.fits (by omega) hXh_40).mono ?_
            rintro e wZb ⟨HZb, rfl, hpZb⟩
            rw [sXh]
            have h41 := h40.call0 hpZb
            have hXh_41 := hXh_40.mono hpZb.le
            have hXg_41 := hXg_40.mono hpZb.le
            refine hK _ _ (h41.sat' (GH.le.trans hpZa.le hpZb.le) [0, 1, 2, 3, 4] (by kernel_rfl)) ?_; clear hK K; try clear Q'
            iterate 2 (first | (refine wpOrd_skip rfl (fun _ _ _ => hQp _ _ _ _ _) ?_; simp only [Act.put, List.setIfInBounds_toArray, List.set_cons_zero, List.set_cons_succ]) | (refine wpOrd_quiet (v := ?_) rfl (fun _ _ _ => hQp _ _ _ _ _) ?_ ?_; rotate_left; (intro w' hS; (first | (go_simp; done) | (go_simp; with_reducible rfl))); simp only [Act.put, List.setIfInBounds_toArray, List.set_cons_zero, List.set_cons_succ]))
            iterate 1 (refine wpOrd_quiet (v := ?_) rfl (fun _ _ _ => hQp _ _ _ _ _) ?_ ?_; rotate_left; (intro w' hS; (first | (go_simp; done) | (go_simp; with_reducible rfl))); simp only [Act.put, List.setIfInBounds_toArray, List.set_cons_zero, List.set_cons_succ])
            refine wpOrd_nil (hQn _ _ ?_); clear hQn hQp QR
            show Code.wp _ _ _ _ _
            -- stops at: cond
            refine wp_cond_false (rfl) ?_
            refine wp_skip ?_
            show Code.wp _ _ _ _ _
            refine wp_seq ?_
            repeat (first | simp only [List.nil_append] at h41 | simp only [List.cons_append] at h41 | simp only [List.set_cons_zero] at h41 | simp only [List.set_cons_succ] at h41 | simp only [List.eraseIdx_zero] at h41 | simp only [List.tail_cons] at h41 | simp only [List.eraseIdx_cons_zero] at h41 | simp only [List.eraseIdx_cons_succ] at h41 | simp only [List.setIfInBounds_toArray] at h41)
            refine wp_region_lit ?_
            have c_3_0 := h41.cell 3 rfl 0 rfl
            iterate 1 (refine wpList_plainQ rfl (fun K Q' hK => ?_); go_simp; refine hK _ _ ?_; clear hK K; try clear Q')
            clear c_3_0
            -- stops at: eff:call (Go.Op.call {'callee': (Go.Callee.value (Go.Operand.func 25)), 'args': [(Go.Operand.tmp 87), (Go.Operand.const (Go.Value.pointer none))], 'argTypes': [26, 36]}) slot 88
            refine wpList_plainQ rfl (fun K Q' hK => ?_); go_simp
            refine (hpop_ok (m := none) h41.pre (by omega) hXg_41).mono ?_
            rintro e wXk ⟨rXk, HXk, rfl, hpXk, hXk⟩
            try simp only [hmXg]
            try simp only [Option.isSome_some]
            try simp only [Option.isSome_none]
            obtain ⟨Xk, eXk⟩ : ∃ hp0, Hid (Hp.pop Xg = hp0) := ⟨_, show _ = _ from rfl⟩
            rw [eXk.out] at hXk
            have oXk := hXk.ok
            have h42 := h41.call0 hpXk
            have hXh_42 := hXh_41.mono hpXk.le
            have hXg_42 := hXg_41.mono hpXk.le
            refine hK _ _ ?_; clear hK K; try clear Q'
            iterate 3 (refine wpList_plainQ rfl (fun K Q' hK => ?_); go_simp; refine hK _ _ ?_; clear hK K; try clear Q')
            refine wpList_plainQ rfl (fun K Q' hK => ?_); go_simp
            refine h42.k_alloc (fun w43 h43 => ?_)
            refine hK _ _ ?_; clear hK K; try clear Q'
            have c_0 := h43.cell 5 rfl 0 rfl
            have f_0 := h43.free 5 rfl 0
            refine wpList_plainQ rfl (fun K Q' hK => ?_); go_simp
            clear c_0 f_0
            refine h43.k_set 5 rfl (fun w44 h44 => ?_)
            refine hK _ _ ?_; clear hK K; try clear Q'
            iterate 1 (refine wpList_plainQ rfl (fun K Q' hK => ?_); go_simp; refine hK _ _ ?_; clear hK K; try clear Q')
            refine wpList_nil ?_
            show Code.wp _ _ _ _ _
            refine wp_seq ?_
            refine wp_seq ?_
            repeat (first | simp only [List.nil_append] at h44 | simp only [List.cons_append] at h44 | simp only [List.set_cons_zero] at h44 | simp only [List.set_cons_succ] at h44 | simp only [List.eraseIdx_zero] at h44 | simp only [List.tail_cons] at h44 | simp only [List.eraseIdx_cons_zero] at h44 | simp only [List.eraseIdx_cons_succ] at h44 | simp only [List.setIfInBounds_toArray] at h44)
            refine h44.region [1, 5] [(0, true), (1, true), (2, true), (3, true), (5, true), (4, false), (6, false), (7, true), (8, true)] (by kernel_rfl) (by kernel_rfl) (fun w45 h45 => ?_)
            refine wpOrd_hide (fun _ _ d _ _ h => by cases d <;> exact h) (fun QR hQn hQp => ?_)
            simp only [ordOps, List.map_cons, List.map_nil, List.getD_cons_zero, List.getD_cons_succ]
            iterate 3 (refine wpOrd_quiet (v := ?_) rfl (fun _ _ _ => hQp _ _ _ _ _) ?_ ?_; rotate_left; (intro w' hS; (first | (go_simp; done) | (go_simp; with_reducible rfl))); simp only [Act.put, List.setIfInBounds_toArray, List.set_cons_zero, List.set_cons_succ])
            iterate 2 (first | (refine wpOrd_skip rfl (fun _ _ _ => hQp _ _ _ _ _) ?_; simp only [Act.put, List.setIfInBounds_toArray, List.set_cons_zero, List.set_cons_succ]) | (refine wpOrd_quiet (v := ?_) rfl (fun _ _ _ => hQp _ _ _ _ _) ?_ ?_; rotate_left; (intro w' hS; have c_5_0 := hS.cell 1 rfl 0 rfl; have c_1_0 := hS.cell 0 rfl 0 rfl; (first | (go_simp; done) | (go_simp; with_reducible rfl))); simp only [Act.put, List.setIfInBounds_toArray, List.set_cons_zero, List.set_cons_succ]))
            -- stops at: eff:call (Go.Op.call {'callee': (Go.Callee.value (Go.Operand.func 20)), 'args': [(Go.Operand.tmp 94)], 'argTypes': [26]}) slot 95
            have pXk : Hid ((Hp.els Xk).Perm (o :: R)) := by
              have h1 := Hp.pop_perm oXg
              rw [eXk.out, hsg.out, hput.out] at h1
              exact h1
            have sXk : Hp.size Xk = L := by
              have h1 := congrArg List.length hput.out
              rw [putE_length, sortE_length] at h1
              have h2 := hL.out
              rw [Hp.size_eq, pXk.out.length_eq]
              simp only [List.length_cons] at h1 ⊢
              omega
            refine wpOrd_effQ rfl (fun K Q' hK => ?_); go_simp
            refine (hsize_ok h45.fits (by omega) hXk).mono ?_
            rintro e wZc ⟨HZc, rfl, hpZc⟩
            rw [sXk]
            have h46 := h45.call0 hpZc
            have hXh_46 := hXh_42.mono hpZc.le
            have hXg_46 := hXg_42.mono hpZc.le
            have hXk_46 := hXk.mono hpZc.le
            refine hK _ _ (h46.sat' hpZc.le [1, 5] (by kernel_rfl)) ?_; clear hK K; try clear Q'
            -- stops at: eff:call (Go.Op.call {'callee': (Go.Callee.value (Go.Operand.func 20)), 'args': [(Go.Operand.tmp 96)], 'argTypes': [26]}) slot 97
            refine wpOrd_effQ rfl (fun K Q' hK => ?_); go_simp
            refine (hsize_ok h46.fits (by omega) hXh_46).mono ?_
            rintro e wZd ⟨HZd, rfl, hpZd⟩
            rw [sXh]
            have h47 := h46.call0 hpZd
            have hXh_47 := hXh_46.mono hpZd.le
            have hXg_47 := hXg_46.mono hpZd.le
            have hXk_47 := hXk_46.mono hpZd.le
            refine hK _ _ (h47.sat' (GH.le.trans hpZc.le hpZd.le) [1, 5] (by kernel_rfl)) ?_; clear hK K; try clear Q'
            iterate 1 (first | (refine wpOrd_skip rfl (fun _ _ _ => hQp _ _ _ _ _) ?_; simp only [Act.put, List.setIfInBounds_toArray, List.set_cons_zero, List.set_cons_succ]) | (refine wpOrd_quiet (v := ?_) rfl (fun _ _ _ => hQp _ _ _ _ _) ?_ ?_; rotate_left; (intro w' hS; (first | (go_simp; done) | (go_simp; with_reducible rfl))); simp only [Act.put, List.setIfInBounds_toArray, List.set_cons_zero, List.set_cons_succ]))
            iterate 1 (refine wpOrd_quiet (v := ?_) rfl (fun _ _ _ => hQp _ _ _ _ _) ?_ ?_; rotate_left; (intro w' hS; (first | (go_simp; done) | (go_simp; with_reducible rfl))); simp only [Act.put, List.setIfInBounds_toArray, List.set_cons_zero, List.set_cons_succ])
            refine wpOrd_nil (hQn _ _ ?_); clear hQn hQp QR
            show Code.wp _ _ _ _ _
            -- stops at: cond
            refine wp_cond_false (rfl) ?_
            refine wp_skip ?_
            show Code.wp _ _ _ _ _
            refine wp_seq ?_
            repeat (first | simp only [List.nil_append] at h47 | simp only [List.cons_append] at h47 | simp only [List.set_cons_zero] at h47 | simp only [List.set_cons_succ] at h47 | simp only [List.eraseIdx_zero] at h47 | simp only [List.tail_cons] at h47 | simp only [List.eraseIdx_cons_zero] at h47 | simp only [List.eraseIdx_cons_succ] at h47 | simp only [List.setIfInBounds_toArray] at h47)
            refine wp_region_lit ?_
            have c_1_0 := h47.cell 1 rfl 0 rfl
            iterate 1 (refine wpList_plainQ rfl (fun K Q' hK => ?_); go_simp; refine hK _ _ ?_; clear hK K; try clear Q')
            clear c_1_0
            -- stops at: eff:call (Go.Op.call {'callee': (Go.Callee.value (Go.Operand.func 17)), 'args': [(Go.Operand.tmp 100), (Go.Operand.const (Go.Value.int Go.IntKind.i64 200))], 'argTypes': slot 101
            refine wpList_plainQ rfl (fun K Q' hK => ?_); go_simp
            refine (drain_ok _ _ _ Xh 200 (by omega) (by omega) h47.fits hXh_47).mono ?_
            rintro e wDh ⟨vDh, HDh, rfl, hpDh, dDh⟩
            rw [drainL_all 200 Xh oXh (by omega), sortE_congr pXh.out] at dDh
            have h48 := h47.call0 hpDh
            have hXh_48 := hXh_47.mono hpDh.le
            have hXg_48 := hXg_47.mono hpDh.le
            have hXk_48 := hXk_47.mono hpDh.le
            refine hK _ _ ?_; clear hK K; try clear Q'
            iterate 1 (refine wpList_plainQ rfl (fun K Q' hK => ?_); go_simp; refine hK _ _ ?_; clear hK K; try clear Q')
            refine wpList_nil ?_
            show Code.wp _ _ _ _ _
            refine wp_seq ?_
            refine wp_seq ?_
            repeat (first | simp only [List.nil_append] at h48 | simp only [List.cons_append] at h48 | simp only [List.set_cons_zero] at h48 | simp only [List.set_cons_succ] at h48 | simp only [List.eraseIdx_zero] at h48 | simp only [List.tail_cons] at h48 | simp only [List.eraseIdx_cons_zero] at h48 | simp only [List.eraseIdx_cons_succ] at h48 | simp only [List.setIfInBounds_toArray] at h48)
            refine wp_region_lit ?_
            iterate 2 (refine wpList_plainQ rfl (fun K Q' hK => ?_); go_simp; refine hK _ _ ?_; clear hK K; try clear Q')
            refine wpList_nil ?_
            show Code.wp _ _ _ _ _
            -- stops at: cond
            refine wp_cond_false (rfl) ?_
            refine wp_skip ?_
            show Code.wp _ _ _ _ _
            refine wp_seq ?_
            refine wp_region_lit ?_
            have c_5_0 := h48.cell 5 rfl 0 rfl
            iterate 1 (refine wpList_plainQ rfl (fun K Q' hK => ?_); go_simp; refine hK _ _ ?_; clear hK K; try clear Q')
            clear c_5_0
            -- stops at: eff:call (Go.Op.call {'callee': (Go.Callee.value (Go.Operand.func 17)), 'args': [(Go.Operand.tmp 108), (Go.Operand.const (Go.Value.int Go.IntKind.i64 200))], 'argTypes': slot 109
            refine wpList_plainQ rfl (fun K Q' hK => ?_); go_simp
            refine (drain_ok _ _ _ Xk 200 (by omega) (by omega) h48.fits hXk_48).mono ?_
            rintro e wDk ⟨vDk, HDk, rfl, hpDk, dDk⟩
            rw [drainL_all 200 Xk oXk (by omega), sortE_congr pXk.out] at dDk
            have h49 := h48.call0 hpDk
            have hXh_49 := hXh_48.mono hpDk.le
            have hXg_49 := hXg_48.mono hpDk.le
            have hXk_49 := hXk_48.mono hpDk.le
            have dDh_49 := dDh.mono hpDk.le
            refine hK _ _ ?_; clear hK K; try clear Q'
            iterate 1 (refine wpList_plainQ rfl (fun K Q' hK => ?_); go_simp; refine hK _ _ ?_; clear hK K; try clear Q')
            -- stops at: eff:call (Go.Op.call {'callee': (Go.Callee.value (Go.Operand.func 18)), 'args': [(Go.Operand.tmp 109), (Go.Operand.tmp 110)], 'argTypes': [22, 22]}) slot 111
            refine wpList_plainQ rfl (fun K Q' hK => ?_); go_simp
            refine (rsame_ok _ _ _ _ _ _ (by rw [sortE_length]; first | omega | (have := hL.out; omega)) (by rw [sortE_length]; first | omega | (have := hL.out; omega)) h49.fits dDk dDh_49).mono ?_
            rintro e wE1 ⟨rfl, hkE1⟩
            rw [decide_eq_true (by rw [hS, sortE_of_sorted hsr])]
            have h50 := h49.callk hkE1
            refine hK _ _ ?_; clear hK K; try clear Q'
            iterate 1 (refine wpList_plainQ rfl (fun K Q' hK => ?_); go_simp; refine hK _ _ ?_; clear hK K; try clear Q')
            refine wpList_nil ?_
            show Code.wp _ _ _ _ _
            -- stops at: ret
            refine wp_ret ?_
            go_ret
            exact ⟨rfl, h50.post.keep⟩
          | false =>
            refine wpList_plainQ rfl (fun K Q' hK => ?_); go_simp
            refine (hmin_ok (m := none) hs.pre (by omega) hXh).mono ?_
            rintro e wMn ⟨HMn, rfl, hpMn⟩
            try simp only [hmXh]
            try simp only [Option.getD_some, Option.isSome_some]
            try simp only [Option.getD_none, Option.isSome_none]
            have h51 := hs.call0 hpMn
            have hXh_51 := hXh.mono hpMn.le
            refine hK _ _ ?_; clear hK K; try clear Q'
            iterate 3 (refine wpList_plainQ rfl (fun K Q' hK => ?_); go_simp; refine hK _ _ ?_; clear hK K; try clear Q')
            refine wpList_plainQ rfl (fun K Q' hK => ?_); go_simp
            refine h51.k_alloc (fun w52 h52 => ?_)
            refine hK _ _ ?_; clear hK K; try clear Q'
            have c_0 := h52.cell 2 rfl 0 rfl
            have f_0 := h52.free 2 rfl 0
            have c_1 := h52.cell 2 rfl 1 rfl
            have f_1 := h52.free 2 rfl 1
            refine wpList_plainQ rfl (fun K Q' hK => ?_); go_simp
            clear c_0 f_0 c_1 f_1
            refine (h52.set (i := 2) rfl 0 _).k_set 2 rfl (fun w53 h53 => ?_)
            refine hK _ _ ?_; clear hK K; try clear Q'
            iterate 1 (refine wpList_plainQ rfl (fun K Q' hK => ?_); go_simp; refine hK _ _ ?_; clear hK K; try clear Q')
            refine wpList_nil ?_
            show Code.wp _ _ _ _ _
            refine wp_seq ?_
            repeat (first | simp only [List.nil_append] at h53 | simp only [List.cons_append] at h53 | simp only [List.set_cons_zero] at h53 | simp only [List.set_cons_succ] at h53 | simp only [List.eraseIdx_zero] at h53 | simp only [List.tail_cons] at h53 | simp only [List.eraseIdx_cons_zero] at h53 | simp only [List.eraseIdx_cons_succ] at h53 | simp only [List.setIfInBounds_toArray] at h53)
            refine wp_region_lit ?_
            have c_1_0 := h53.cell 1 rfl 0 rfl
            have c_0_0 := h53.cell 0 rfl 0 rfl
            have c_0_1 := h53.cell 0 rfl 1 rfl
            iterate 2 (refine wpList_plainQ rfl (fun K Q' hK => ?_); go_simp; refine hK _ _ ?_; clear hK K; try clear Q')
            clear c_1_0 c_0_0 c_0_1
            -- stops at: eff:call (Go.Op.call {'callee': (Go.Callee.value (Go.Operand.func 23)), 'args': [(Go.Operand.tmp 44), (Go.Operand.const (Go.Value.pointer none)), (Go.Operand.tmp 45)], ' slot 46
            refine wpList_plainQ rfl (fun K Q' hK => ?_); go_simp
            refine (hinsert_ok (m := none) x fx h53.pre (by omega) hXh_51).mono ?_
            rintro e wXg ⟨rXg, HXg, rfl, hpXg, hXg⟩
            obtain ⟨Xg, eXg⟩ : ∃ hp0, Hid (Hp.insert x Xh = hp0) := ⟨_, show _ = _ from rfl⟩
            rw [eXg.out] at hXg
            have oXg := hXg.ok
            have pXg : Hid ((Hp.els Xg).Perm (x :: Hp.els Xh)) := by
              rw [← eXg.out]
              exact (Hp.els_insert _ oXh).trans (pXh.out.cons _)
            have sXg : Hp.size Xg = L + 1 := by
              have hz : (Hp.els Xh).length = _ := sXh
              have hy := pXh.out.length_eq
              have hx := pXg.out.length_eq
              show (Hp.els Xg).length = _
              simp at *
              omega
            have h54 := h53.call0 hpXg
            have hXh_54 := hXh_51.mono hpXg.le
            refine hK _ _ ?_; clear hK K; try clear Q'
            refine wpList_plainQ rfl (fun K Q' hK => ?_); go_simp
            refine h54.k_alloc (fun w55 h55 => ?_)
            refine hK _ _ ?_; clear hK K; try clear Q'
            have c_0 := h55.cell 3 rfl 0 rfl
            have f_0 := h55.free 3 rfl 0
            refine wpList_plainQ rfl (fun K Q' hK => ?_); go_simp
            clear c_0 f_0
            refine h55.k_set 3 rfl (fun w56 h56 => ?_)
            refine hK _ _ ?_; clear hK K; try clear Q'
            refine wpList_nil ?_
            show Code.wp _ _ _ _ _
            refine wp_seq ?_
            repeat (first | simp only [List.nil_append] at h56 | simp only [List.cons_append] at h56 | simp only [List.set_cons_zero] at h56 | simp only [List.set_cons_succ] at h56 | simp only [List.eraseIdx_zero] at h56 | simp only [List.tail_cons] at h56 | simp only [List.eraseIdx_cons_zero] at h56 | simp only [List.eraseIdx_cons_succ] at h56 | simp only [List.setIfInBounds_toArray] at h56)
            refine wp_region_lit ?_
            have c_3_0 := h56.cell 3 rfl 0 rfl
            iterate 1 (refine wpList_plainQ rfl (fun K Q' hK => ?_); go_simp; refine hK _ _ ?_; clear hK K; try clear Q')
            clear c_3_0
            -- stops at: eff:call (Go.Op.call {'callee': (Go.Callee.value (Go.Operand.func 27)), 'args': [(Go.Operand.tmp 48), (Go.Operand.const (Go.Value.pointer none))], 'argTypes': [26, 36]}) slot 49
            have hsg : Hid (sortE (Hp.els Xg) = putE (sortE (Hp.els Xh)) x) := by show _ = _; rw [sortE_congr pXg.out, putE_sort]
            have hput : Hid (putE (sortE (Hp.els Xh)) x = (o) :: (putE R x)) := by show _ = _; rw [hS]; exact put_later hsr hlt
            have hmXg : Hp.min? Xg = some (o) := (Hp.min_of_cons oXg (hsg.out.trans hput.out)).1
            refine wpList_plainQ rfl (fun K Q' hK => ?_); go_simp
            refine (hmin_ok (m := none) h56.pre (by omega) hXg).mono ?_
            rintro e wMg ⟨HMg, rfl, hpMg⟩
            try simp only [hmXg]
            try simp only [Option.getD_some, Option.isSome_some]
            try simp only [Option.getD_none, Option.isSome_none]
            have h57 := h56.call0 hpMg
            have hXh_57 := hXh_54.mono hpMg.le
            have hXg_57 := hXg.mono hpMg.le
            refine hK _ _ ?_; clear hK K; try clear Q'
            iterate 3 (refine wpList_plainQ rfl (fun K Q' hK => ?_); go_simp; refine hK _ _ ?_; clear hK K; try clear Q')
            refine wpList_plainQ rfl (fun K Q' hK => ?_); go_simp
            refine h57.k_alloc (fun w58 h58 => ?_)
            refine hK _ _ ?_; clear hK K; try clear Q'
            have c_0 := h58.cell 4 rfl 0 rfl
            have f_0 := h58.free 4 rfl 0
            have c_1 := h58.cell 4 rfl 1 rfl
            have f_1 := h58.free 4 rfl 1
            refine wpList_plainQ rfl (fun K Q' hK => ?_); go_simp
            clear c_0 f_0 c_1 f_1
            refine (h58.set (i := 4) rfl 0 _).k_set 4 rfl (fun w59 h59 => ?_)
            refine hK _ _ ?_; clear hK K; try clear Q'
            iterate 1 (refine wpList_plainQ rfl (fun K Q' hK => ?_); go_simp; refine hK _ _ ?_; clear hK K; try clear Q')
            refine wpList_nil ?_
            show Code.wp _ _ _ _ _
            refine wp_seq ?_
            repeat (first | simp only [List.nil_append] at h59 | simp only [List.cons_append] at h59 | simp only [List.set_cons_zero] at h59 | simp only [List.set_cons_succ] at h59 | simp only [List.eraseIdx_zero] at h59 | simp only [List.tail_cons] at h59 | simp only [List.eraseIdx_cons_zero] at h59 | simp only [List.eraseIdx_cons_succ] at h59 | simp only [List.setIfInBounds_toArray] at h59)
            refine wp_region_lit ?_
            iterate 3 (refine wpList_plainQ rfl (fun K Q' hK => ?_); go_simp; refine hK _ _ ?_; clear hK K; try clear Q')
            have c_0_0 := h59.cell 0 rfl 0 rfl
            have c_0_1 := h59.cell 0 rfl 1 rfl
            have c_2_0 := h59.cell 2 rfl 0 rfl
            have c_2_1 := h59.cell 2 rfl 1 rfl
            first | go_skip | (iterate 2 (refine wpList_stepQ (o := { dst := _, op := _, type := _, pos := _, after := _, guard := some (2, false) }) (fun K Q' hK => ?_); go_simp; refine hK _ _ ?_; clear hK K; try clear Q')) | skip
            clear c_0_0 c_0_1 c_2_0 c_2_1
            -- stops at: eff:call (Go.Op.call {'callee': (Go.Callee.value (Go.Operand.func 28)), 'args': [(Go.Operand.tmp 55), (Go.Operand.tmp 56)], 'argTypes': [41, 41]}) slot 57
            refine wpList_stepQ (fun K Q' hK => ?_); go_simp
            refine (rless_ok _ _ x o h59.fits).mono ?_
            rintro e wL ⟨rfl, hkL⟩
            rw [hlt]
            have h60 := h59.callk hkL
            refine hK _ _ ?_; clear hK K; try clear Q'
            iterate 2 (refine wpList_plainQ rfl (fun K Q' hK => ?_); go_simp; refine hK _ _ ?_; clear hK K; try clear Q')
            refine wpList_nil ?_
            show Code.wp _ _ _ _ _
            refine wp_seq ?_
            refine wp_seq ?_
            repeat (first | simp only [List.nil_append] at h60 | simp only [List.cons_append] at h60 | simp only [List.set_cons_zero] at h60 | simp only [List.set_cons_succ] at h60 | simp only [List.eraseIdx_zero] at h60 | simp only [List.tail_cons] at h60 | simp only [List.eraseIdx_cons_zero] at h60 | simp only [List.eraseIdx_cons_succ] at h60 | simp only [List.setIfInBounds_toArray] at h60)
            refine h60.region [0, 1, 2, 3, 4] [(0, true), (1, true), (2, true), (3, true), (4, true), (5, true), (6, true), (7, true), (8, true), (9, true), (10, true), (11, true), (12, true), (13, true), (14, true), (15, true), (16, true), (17, true), (18, true), (19, true), (20, true), (22, true), (21, false), (23, false), (24, true), (25, true), (26, true)] (by kernel_rfl) (by kernel_rfl) (fun w61 h61 => ?_)
            refine wpOrd_hide (fun _ _ d _ _ h => by cases d <;> exact h) (fun QR hQn hQp => ?_)
            simp only [ordOps, List.map_cons, List.map_nil, List.getD_cons_zero, List.getD_cons_succ]
            iterate 3 (refine wpOrd_quiet (v := ?_) rfl (fun _ _ _ => hQp _ _ _ _ _) ?_ ?_; rotate_left; (intro w' hS; (first | (go_simp; done) | (go_simp; with_reducible rfl))); simp only [Act.put, List.setIfInBounds_toArray, List.set_cons_zero, List.set_cons_succ])
            iterate 2 (first | (refine wpOrd_skip rfl (fun _ _ _ => hQp _ _ _ _ _) ?_; simp only [Act.put, List.setIfInBounds_toArray, List.set_cons_zero, List.set_cons_succ]) | (refine wpOrd_quiet (v := ?_) rfl (fun _ _ _ => hQp _ _ _ _ _) ?_ ?_; rotate_left; (intro w' hS; (first | (go_simp; done) | (go_simp; with_reducible rfl))); simp only [Act.put, List.setIfInBounds_toArray, List.set_cons_zero, List.set_cons_succ]))
            iterate 3 (first | (refine wpOrd_skip rfl (fun _ _ _ => hQp _ _ _ _ _) ?_; simp only [Act.put, List.setIfInBounds_toArray, List.set_cons_zero, List.set_cons_succ]) | (refine wpOrd_quiet (v := ?_) rfl (fun _ _ _ => hQp _ _ _ _ _) ?_ ?_; rotate_left; (intro w' hS; have c_4_0 := hS.cell 4 rfl 0 rfl; have c_4_1 := hS.cell 4 rfl 1 rfl; have c_0_0 := hS.cell 0 rfl 0 rfl; have c_0_1 := hS.cell 0 rfl 1 rfl; (first | (go_simp; done) | (go_simp; with_reducible rfl))); simp only [Act.put, List.setIfInBounds_toArray, List.set_cons_zero, List.set_cons_succ]))
            iterate 1 (first | (refine wpOrd_skip rfl (fun _ _ _ => hQp _ _ _ _ _) ?_; simp only [Act.put, List.setIfInBounds_toArray, List.set_cons_zero, List.set_cons_succ]) | (refine wpOrd_quiet (v := ?_) rfl (fun _ _ _ => hQp _ _ _ _ _) ?_ ?_; rotate_left; (intro w' hS; (first | (go_simp; done) | (go_simp; with_reducible rfl))); simp only [Act.put, List.setIfInBounds_toArray, List.set_cons_zero, List.set_cons_succ]))
            iterate 2 (refine wpOrd_quiet (v := ?_) rfl (fun _ _ _ => hQp _ _ _ _ _) ?_ ?_; rotate_left; (intro w' hS; (first | (go_simp; done) | (go_simp; with_reducible rfl))); simp only [Act.put, List.setIfInBounds_toArray, List.set_cons_zero, List.set_cons_succ])
            iterate 3 (first | (refine wpOrd_skip rfl (fun _ _ _ => hQp _ _ _ _ _) ?_; simp only [Act.put, List.setIfInBounds_toArray, List.set_cons_zero, List.set_cons_succ]) | (refine wpOrd_quiet (v := ?_) rfl (fun _ _ _ => hQp _ _ _ _ _) ?_ ?_; rotate_left; (intro w' hS; (first | (go_simp; done) | (go_simp; with_reducible rfl))); simp only [Act.put, List.setIfInBounds_toArray, List.set_cons_zero, List.set_cons_succ]))
            iterate 3 (first | (refine wpOrd_skip rfl (fun _ _ _ => hQp _ _ _ _ _) ?_; simp only [Act.put, List.setIfInBounds_toArray, List.set_cons_zero, List.set_cons_succ]) | (refine wpOrd_quiet (v := ?_) rfl (fun _ _ _ => hQp _ _ _ _ _) ?_ ?_; rotate_left; (intro w' hS; have c_4_0 := hS.cell 4 rfl 0 rfl; have c_4_1 := hS.cell 4 rfl 1 rfl; have c_2_0 := hS.cell 2 rfl 0 rfl; have c_2_1 := hS.cell 2 rfl 1 rfl; (first | (go_simp; done) | (go_simp; with_reducible rfl))); simp only [Act.put, List.setIfInBounds_toArray, List.set_cons_zero, List.set_cons_succ]))
            iterate 1 (first | (refine wpOrd_skip rfl (fun _ _ _ => hQp _ _ _ _ _) ?_; simp only [Act.put, List.setIfInBounds_toArray, List.set_cons_zero, List.set_cons_succ]) | (refine wpOrd_quiet (v := ?_) rfl (fun _ _ _ => hQp _ _ _ _ _) ?_ ?_; rotate_left; (intro w' hS; (first | (go_simp; done) | (go_simp; with_reducible rfl))); simp only [Act.put, List.setIfInBounds_toArray, List.set_cons_zero, List.set_cons_succ]))
            iterate 2 (refine wpOrd_quiet (v := ?_) rfl (fun _ _ _ => hQp _ _ _ _ _) ?_ ?_; rotate_left; (intro w' hS; (first | (go_simp; done) | (go_simp; with_reducible rfl))); simp only [Act.put, List.setIfInBounds_toArray, List.set_cons_zero, List.set_cons_succ])
            iterate 2 (first | (refine wpOrd_skip rfl (fun _ _ _ => hQp _ _ _ _ _) ?_; simp only [Act.put, List.setIfInBounds_toArray, List.set_cons_zero, List.set_cons_succ]) | (refine wpOrd_quiet (v := ?_) rfl (fun _ _ _ => hQp _ _ _ _ _) ?_ ?_; rotate_left; (intro w' hS; have c_3_0 := hS.cell 3 rfl 0 rfl; have c_1_0 := hS.cell 1 rfl 0 rfl; (first | (go_simp; done) | (go_simp; with_reducible rfl))); simp only [Act.put, List.setIfInBounds_toArray, List.set_cons_zero, List.set_cons_succ]))
            -- stops at: eff:call (Go.Op.call {'callee': (Go.Callee.value (Go.Operand.func 20)), 'args': [(Go.Operand.tmp 79)], 'argTypes': [26]}) slot 80
            refine wpOrd_effQ rfl (fun K Q' hK => ?_); go_simp
            refine (hsize_ok h61.fits (by omega) hXg_57).mono ?_
            rintro e wZa ⟨HZa, rfl, hpZa⟩
            rw [sXg]
            have h62 := h61.call0 hpZa
            have hXh_62 := hXh_57.mono hpZa.le
            have hXg_62 := hXg_57.mono hpZa.le
            refine hK _ _ (h62.sat' hpZa.le [0, 1, 2, 3, 4] (by kernel_rfl)) ?_; clear hK K; try clear Q'
            -- stops at: eff:call (Go.Op.call {'callee': (Go.Callee.value (Go.Operand.func 20)), 'args': [(Go.Operand.tmp 81)], 'argTypes': [26]}) slot 82
            refine wpOrd_effQ rfl (fun K Q' hK => ?_); go_simp
            refine (hsize_ok h62.fits (by omega) hXh_62).mono ?_
            rintro e wZb ⟨HZb, rfl, hpZb⟩
            rw [sXh]
            have h63 := h62.call0 hpZb
            have hXh_63 := hXh_62.mono hpZb.le
            have hXg_63 := hXg_62.mono hpZb.le
            refine hK _ _ (h63.sat' (GH.le.trans hpZa.le hpZb.le) [0, 1, 2, 3, 4] (by kernel_rfl)) ?_; clear hK K; try clear Q'
            iterate 2 (first | (refine wpOrd_skip rfl (fun _ _ _ => hQp _ _ _ _ _) ?_; simp only [Act.put, List.setIfInBounds_toArray, List.set_cons_zero, List.set_cons_succ]) | (refine wpOrd_quiet (v := ?_) rfl (fun _ _ _ => hQp _ _ _ _ _) ?_ ?_; rotate_left; (intro w' hS; (first | (go_simp; done) | (go_simp; with_reducible rfl))); simp only [Act.put, List.setIfInBounds_toArray, List.set_cons_zero, List.set_cons_succ]))
            iterate 1 (refine wpOrd_quiet (v := ?_) rfl (fun _ _ _ => hQp _ _ _ _ _) ?_ ?_; rotate_left; (intro w' hS; (first | (go_simp; done) | (go_simp; with_reducible rfl))); simp only [Act.put, List.setIfInBounds_toArray, List.set_cons_zero, List.set_cons_succ])
            refine wpOrd_nil (hQn _ _ ?_); clear hQn hQp QR
            show Code.wp _ _ _ _ _
            -- stops at: cond
            refine wp_cond_false (rfl) ?_
            refine wp_skip ?_
            show Code.wp _ _ _ _ _
            refine wp_seq ?_
            repeat (first | simp only [List.nil_append] at h63 | simp only [List.cons_append] at h63 | simp only [List.set_cons_zero] at h63 | simp only [List.set_cons_succ] at h63 | simp only [List.eraseIdx_zero] at h63 | simp only [List.tail_cons] at h63 | simp only [List.eraseIdx_cons_zero] at h63 | simp only [List.eraseIdx_cons_succ] at h63 | simp only [List.setIfInBounds_toArray] at h63)
            refine wp_region_lit ?_
            have c_3_0 := h63.cell 3 rfl 0 rfl
            iterate 1 (refine wpList_plainQ rfl (fun K Q' hK => ?_); go_simp; refine hK _ _ ?_; clear hK K; try clear Q')
            clear c_3_0
            -- stops at: eff:call (Go.Op.call {'callee': (Go.Callee.value (Go.Operand.func 25)), 'args': [(Go.Operand.tmp 87), (Go.Operand.const (Go.Value.pointer none))], 'argTypes': [26, 36]}) slot 88
            refine wpList_plainQ rfl (fun K Q' hK => ?_); go_simp
            refine (hpop_ok (m := none) h63.pre (by omega) hXg_63).mono ?_
            rintro e wXk ⟨rXk, HXk, rfl, hpXk, hXk⟩
            try simp only [hmXg]
            try simp only [Option.isSome_some]
            try simp only [Option.isSome_none]
            obtain ⟨Xk, eXk⟩ : ∃ hp0, Hid (Hp.pop Xg = hp0) := ⟨_, show _ = _ from rfl⟩
            rw [eXk.out] at hXk
            have oXk := hXk.ok
            have h64 := h63.call0 hpXk
            have hXh_64 := hXh_63.mono hpXk.le
            have hXg_64 := hXg_63.mono hpXk.le
            refine hK _ _ ?_; clear hK K; try clear Q'
            iterate 3 (refine wpList_plainQ rfl (fun K Q' hK => ?_); go_simp; refine hK _ _ ?_; clear hK K; try clear Q')
            refine wpList_plainQ rfl (fun K Q' hK => ?_); go_simp
            refine h64.k_alloc (fun w65 h65 => ?_)
            refine hK _ _ ?_; clear hK K; try clear Q'
            have c_0 := h65.cell 5 rfl 0 rfl
            have f_0 := h65.free 5 rfl 0
            refine wpList_plainQ rfl (fun K Q' hK => ?_); go_simp
            clear c_0 f_0
            refine h65.k_set 5 rfl (fun w66 h66 => ?_)
            refine hK _ _ ?_; clear hK K; try clear Q'
            iterate 1 (refine wpList_plainQ rfl (fun K Q' hK => ?_); go_simp; refine hK _ _ ?_; clear hK K; try clear Q')
            refine wpList_nil ?_
            show Code.wp _ _ _ _ _
            refine wp_seq ?_
            refine wp_seq ?_
            repeat (first | simp only [List.nil_append] at h66 | simp only [List.cons_append] at h66 | simp only [List.set_cons_zero] at h66 | simp only [List.set_cons_succ] at h66 | simp only [List.eraseIdx_zero] at h66 | simp only [List.tail_cons] at h66 | simp only [List.eraseIdx_cons_zero] at h66 | simp only [List.eraseIdx_cons_succ] at h66 | simp only [List.setIfInBounds_toArray] at h66)
            refine h66.region [1, 5] [(0, true), (1, true), (2, true), (3, true), (5, true), (4, false), (6, false), (7, true), (8, true)] (by kernel_rfl) (by kernel_rfl) (fun w67 h67 => ?_)
            refine wpOrd_hide (fun _ _ d _ _ h => by cases d <;> exact h) (fun QR hQn hQp => ?_)
            simp only [ordOps, List.map_cons, List.map_nil, List.getD_cons_zero, List.getD_cons_succ]
            iterate 3 (refine wpOrd_quiet (v := ?_) rfl (fun _ _ _ => hQp _ _ _ _ _) ?_ ?_; rotate_left; (intro w' hS; (first | (go_simp; done) | (go_simp; with_reducible rfl))); simp only [Act.put, List.setIfInBounds_toArray, List.set_cons_zero, List.set_cons_succ])
            iterate 2 (first | (refine wpOrd_skip rfl (fun _ _ _ => hQp _ _ _ _ _) ?_; simp only [Act.put, List.setIfInBounds_toArray, List.set_cons_zero, List.set_cons_succ]) | (refine wpOrd_quiet (v := ?_) rfl (fun _ _ _ => hQp _ _ _ _ _) ?_ ?_; rotate_left; (intro w' hS; have c_5_0 := hS.cell 1 rfl 0 rfl; have c_1_0 := hS.cell 0 rfl 0 rfl; (first | (go_simp; done) | (go_simp; with_reducible rfl))); simp only [Act.put, List.setIfInBounds_toArray, List.set_cons_zero, List.set_cons_succ]))
            -- stops at: eff:call (Go.Op.call {'callee': (Go.Callee.value (Go.Operand.func 20)), 'args': [(Go.Operand.tmp 94)], 'argTypes': [26]}) slot 95
            have pXk : Hid ((Hp.els Xk).Perm (putE R x)) := by
              have h1 := Hp.pop_perm oXg
              rw [eXk.out, hsg.out, hput.out] at h1
              exact h1
            have sXk : Hp.size Xk = L := by
              have h1 := congrArg List.length hput.out
              rw [putE_length, sortE_length] at h1
              have h2 := hL.out
              rw [Hp.size_eq, pXk.out.length_eq]
              simp only [List.length_cons] at h1 ⊢
              omega
            refine wpOrd_effQ rfl (fun K Q' hK => ?_); go_simp
            refine (hsize_ok h67.fits (by omega) hXk).mono ?_
            rintro e wZc ⟨HZc, rfl, hpZc⟩
            rw [sXk]
            have h68 := h67.call0 hpZc
            have hXh_68 := hXh_64.mono hpZc.le
            have hXg_68 := hXg_64.mono hpZc.le
            have hXk_68 := hXk.mono hpZc.le
            refine hK _ _ (h68.sat' hpZc.le [1, 5] (by kernel_rfl)) ?_; clear hK K; try clear Q'
            -- stops at: eff:call (Go.Op.call {'callee': (Go.Callee.value (Go.Operand.func 20)), 'args': [(Go.Operand.tmp 96)], 'argTypes': [26]}) slot 97
            refine wpOrd_effQ rfl (fun K Q' hK => ?_); go_simp
            refine (hsize_ok h68.fits (by omega) hXh_68).mono ?_
            rintro e wZd ⟨HZd, rfl, hpZd⟩
            rw [sXh]
            have h69 := h68.call0 hpZd
            have hXh_69 := hXh_68.mono hpZd.le
            have hXg_69 := hXg_68.mono hpZd.le
            have hXk_69 := hXk_68.mono hpZd.le
            refine hK _ _ (h69.sat' (GH.le.trans hpZc.le hpZd.le) [1, 5] (by kernel_rfl)) ?_; clear hK K; try clear Q'
            iterate 1 (first | (refine wpOrd_skip rfl (fun _ _ _ => hQp _ _ _ _ _) ?_; simp only [Act.put, List.setIfInBounds_toArray, List.set_cons_zero, List.set_cons_succ]) | (refine wpOrd_quiet (v := ?_) rfl (fun _ _ _ => hQp _ _ _ _ _) ?_ ?_; rotate_left; (intro w' hS; (first | (go_simp; done) | (go_simp; with_reducible rfl))); simp only [Act.put, List.setIfInBounds_toArray, List.set_cons_zero, List.set_cons_succ]))
            iterate 1 (refine wpOrd_quiet (v := ?_) rfl (fun _ _ _ => hQp _ _ _ _ _) ?_ ?_; rotate_left; (intro w' hS; (first | (go_simp; done) | (go_simp; with_reducible rfl))); simp only [Act.put, List.setIfInBounds_toArray, List.set_cons_zero, List.set_cons_succ])
            refine wpOrd_nil (hQn _ _ ?_); clear hQn hQp QR
            show Code.wp _ _ _ _ _
            -- stops at: cond
            refine wp_cond_false (rfl) ?_
            refine wp_skip ?_
            show Code.wp _ _ _ _ _
            refine wp_seq ?_
            repeat (first | simp only [List.nil_append] at h69 | simp only [List.cons_append] at h69 | simp only [List.set_cons_zero] at h69 | simp only [List.set_cons_succ] at h69 | simp only [List.eraseIdx_zero] at h69 | simp only [List.tail_cons] at h69 | simp only [List.eraseIdx_cons_zero] at h69 | simp only [List.eraseIdx_cons_succ] at h69 | simp only [List.setIfInBounds_toArray] at h69)
            refine wp_region_lit ?_
            have c_1_0 := h69.cell 1 rfl 0 rfl
            iterate 1 (refine wpList_plainQ rfl (fun K Q' hK => ?_); go_simp; refine hK _ _ ?_; clear hK K; try clear Q')
            clear c_1_0
            -- stops at: eff:call (Go.Op.call {'callee': (Go.Callee.value (Go.Operand.func 17)), 'args': [(Go.Operand.tmp 100), (Go.Operand.const (Go.Value.int Go.IntKind.i64 200))], 'argTypes': slot 101
            refine wpList_plainQ rfl (fun K Q' hK => ?_); go_simp
            refine (drain_ok _ _ _ Xh 200 (by omega) (by omega) h69.fits hXh_69).mono ?_
            rintro e wDh ⟨vDh, HDh, rfl, hpDh, dDh⟩
            rw [drainL_all 200 Xh oXh (by omega), sortE_congr pXh.out] at dDh
            have h70 := h69.call0 hpDh
            have hXh_70 := hXh_69.mono hpDh.le
            have hXg_70 := hXg_69.mono hpDh.le
            have hXk_70 := hXk_69.mono hpDh.le
            refine hK _ _ ?_; clear hK K; try clear Q'
            iterate 1 (refine wpList_plainQ rfl (fun K Q' hK => ?_); go_simp; refine hK _ _ ?_; clear hK K; try clear Q')
            refine wpList_nil ?_
            show Code.wp _ _ _ _ _
            refine wp_seq ?_
            refine wp_seq ?_
            repeat (first | simp only [List.nil_append] at h70 | simp only [List.cons_append] at h70 | simp only [List.set_cons_zero] at h70 | simp only [List.set_cons_succ] at h70 | simp only [List.eraseIdx_zero] at h70 | simp only [List.tail_cons] at h70 | simp only [List.eraseIdx_cons_zero] at h70 | simp only [List.eraseIdx_cons_succ] at h70 | simp only [List.setIfInBounds_toArray] at h70)
            refine wp_region_lit ?_
            iterate 2 (refine wpList_plainQ rfl (fun K Q' hK => ?_); go_simp; refine hK _ _ ?_; clear hK K; try clear Q')
            refine wpList_nil ?_
            show Code.wp _ _ _ _ _
            -- stops at: cond
            obtain ⟨aD, cD, hvD, _, _⟩ := dDh.nil_or
            rw [hS, List.length_cons] at hvD
            subst hvD
            rw [hS] at dDh
            obtain ⟨b, off, cap2, ee, _⟩ := SliceRep.ne_nil dDh (by rw [List.length_cons]; omega)
            simp only [List.length_cons, Value.slice.injEq, true_and] at ee
            obtain ⟨rfl, rfl⟩ := ee
            obtain ⟨vS, hvS, r2⟩ : ∃ vS, (Value.slice (if cD = 1 then some ⟨b, off, none⟩ else some ⟨b, off + 2, none⟩) R.length (cD - 1)) = vS ∧ ElRep HDh vS R := by
              refine ⟨_, rfl, ?_⟩
              have h1 := ElRep.from dDh rfl 1 (by omega)
              have hadd : (⟨b, off, none⟩ : Addr).add (1 * 2) = ⟨b, off + 2, none⟩ := by unfold Addr.add; simp
              simp only [Option.map_some, hadd, Nat.add_sub_cancel, List.drop_succ_cons, List.drop_zero] at h1
              exact h1
            have hR1 : (1 : Int) ≤ (R.length : Int) + 1 := by omega
            refine wp_cond_true (rfl) ?_
            refine h70.region [0] [(0, true), (1, true), (2, true), (3, false), (4, true)] (by kernel_rfl) (by kernel_rfl) (fun w71 h71 => ?_)
            refine wpOrd_hide (fun _ _ d _ _ h => by cases d <;> exact h) (fun QR hQn hQp => ?_)
            simp only [ordOps, List.map_cons, List.map_nil, List.getD_cons_zero, List.getD_cons_succ]
            iterate 3 (refine wpOrd_quiet (v := ?_) rfl (fun _ _ _ => hQp _ _ _ _ _) ?_ ?_; rotate_left; (intro w' hS; have c_0_0 := hS.cell 0 rfl 0 rfl; have c_0_1 := hS.cell 0 rfl 1 rfl; (first | (go_simp; done) | (go_simp; with_reducible rfl))); simp only [Act.put, List.setIfInBounds_toArray, List.set_cons_zero, List.set_cons_succ])
            -- stops at: eff:call (Go.Op.call {'callee': (Go.Callee.value (Go.Operand.func 24)), 'args': [(Go.Operand.tmp 105), (Go.Operand.tmp 106)], 'argTypes': [22, 41]}) slot 107
            refine wpOrd_effQ rfl (fun K Q' hK => ?_); go_simp
            refine (rput_ok _ _ _ _ x (by simp at hRl; omega) h71.fits r2).mono ?_
            rintro e wPx ⟨vPx, HPx, rfl, hpPx, dPx⟩
            have h72 := h71.call0 hpPx
            have hXh_72 := hXh_70.mono hpPx.le
            have hXg_72 := hXg_70.mono hpPx.le
            have hXk_72 := hXk_70.mono hpPx.le
            have dDh_72 := dDh.mono hpPx.le
            refine hK _ _ (h72.sat' hpPx.le [0] (by kernel_rfl)) ?_; clear hK K; try clear Q'
            iterate 1 (refine wpOrd_quiet (v := ?_) rfl (fun _ _ _ => hQp _ _ _ _ _) ?_ ?_; rotate_left; (intro w' hS; (first | (go_simp; done) | (go_simp; with_reducible rfl))); simp only [Act.put, List.setIfInBounds_toArray, List.set_cons_zero, List.set_cons_succ])
            refine wpOrd_nil (hQn _ _ ?_); clear hQn hQp QR
            show Code.wp _ _ _ _ _
            refine wp_seq ?_
            repeat (first | simp only [List.nil_append] at h72 | simp only [List.cons_append] at h72 | simp only [List.set_cons_zero] at h72 | simp only [List.set_cons_succ] at h72 | simp only [List.eraseIdx_zero] at h72 | simp only [List.tail_cons] at h72 | simp only [List.eraseIdx_cons_zero] at h72 | simp only [List.eraseIdx_cons_succ] at h72 | simp only [List.setIfInBounds_toArray] at h72)
            refine wp_region_lit ?_
            have c_5_0 := h72.cell 5 rfl 0 rfl
            iterate 1 (refine wpList_plainQ rfl (fun K Q' hK => ?_); go_simp; refine hK _ _ ?_; clear hK K; try clear Q')
            clear c_5_0
            -- stops at: eff:call (Go.Op.call {'callee': (Go.Callee.value (Go.Operand.func 17)), 'args': [(Go.Operand.tmp 108), (Go.Operand.const (Go.Value.int Go.IntKind.i64 200))], 'argTypes': slot 109
            refine wpList_plainQ rfl (fun K Q' hK => ?_); go_simp
            refine (drain_ok _ _ _ Xk 200 (by omega) (by omega) h72.fits hXk_72).mono ?_
            rintro e wDk ⟨vDk, HDk, rfl, hpDk, dDk⟩
            rw [drainL_all 200 Xk oXk (by omega), sortE_congr pXk.out] at dDk
            have h73 := h72.call0 hpDk
            have hXh_73 := hXh_72.mono hpDk.le
            have hXg_73 := hXg_72.mono hpDk.le
            have hXk_73 := hXk_72.mono hpDk.le
            have dDh_73 := dDh_72.mono hpDk.le
            have dPx_73 := dPx.mono hpDk.le
            refine hK _ _ ?_; clear hK K; try clear Q'
            iterate 1 (refine wpList_plainQ rfl (fun K Q' hK => ?_); go_simp; refine hK _ _ ?_; clear hK K; try clear Q')
            -- stops at: eff:call (Go.Op.call {'callee': (Go.Callee.value (Go.Operand.func 18)), 'args': [(Go.Operand.tmp 109), (Go.Operand.tmp 110)], 'argTypes': [22, 22]}) slot 111
            refine wpList_plainQ rfl (fun K Q' hK => ?_); go_simp
            refine (rsame_ok _ _ _ _ _ _ (by rw [sortE_length, putE_length]; simp at hRl; omega) (by rw [putE_length]; simp at hRl; omega) h73.fits dDk dPx_73).mono ?_
            rintro e wE1 ⟨rfl, hkE1⟩
            rw [decide_eq_true (sortE_of_sorted (putE_sorted R x (List.pairwise_cons.1 hsr).2))]
            have h74 := h73.callk hkE1
            refine hK _ _ ?_; clear hK K; try clear Q'
            iterate 1 (refine wpList_plainQ rfl (fun K Q' hK => ?_); go_simp; refine hK _ _ ?_; clear hK K; try clear Q')
            refine wpList_nil ?_
            show Code.wp _ _ _ _ _
            -- stops at: ret
            refine wp_ret ?_
            go_ret
            exact ⟨rfl, h74.post.keep⟩
  · have hl1 : decide ((60 : Int) < (a.length : Int)) = true := by simp; omega
    go_enter Tryd.func6, Tryd.ntmps6
    have h0 := St.start hpre
    refine wp_seq ?_
    repeat (first | simp only [List.nil_append] at h0 | simp only [List.cons_append] at h0 | simp only [List.set_cons_zero] at h0 | simp only [List.set_cons_succ] at h0 | simp only [List.eraseIdx_zero] at h0 | simp only [List.tail_cons] at h0 | simp only [List.eraseIdx_cons_zero] at h0 | simp only [List.eraseIdx_cons_succ] at h0 | simp only [List.setIfInBounds_toArray] at h0)
    refine wp_region_lit ?_
    refine wpList_plainQ rfl (fun K Q' hK => ?_); go_simp
    refine h0.k_alloc (fun w1 h1 => ?_)
    refine hK _ _ ?_; clear hK K; try clear Q'
    iterate 1 (refine wpList_plainQ rfl (fun K Q' hK => ?_); go_simp; refine hK _ _ ?_; clear hK K; try clear Q')
    refine wpList_nil ?_
    show Code.wp _ _ _ _ _
    refine wp_seq ?_
    repeat (first | simp only [List.nil_append] at h1 | simp only [List.cons_append] at h1 | simp only [List.set_cons_zero] at h1 | simp only [List.set_cons_succ] at h1 | simp only [List.eraseIdx_zero] at h1 | simp only [List.tail_cons] at h1 | simp only [List.eraseIdx_cons_zero] at h1 | simp only [List.eraseIdx_cons_succ] at h1 | simp only [List.setIfInBounds_toArray] at h1)
    refine wp_region_lit ?_
    -- stops at: eff:call (Go.Op.call {'callee': (Go.Callee.value (Go.Operand.func 13)), 'args': [], 'argTypes': []}) slot 19
    refine wpList_plainQ rfl (fun K Q' hK => ?_); go_simp
    refine (awake_ok H _ h1.fits htab).mono ?_
    rintro e wAw ⟨HAw, rfl, hpAw⟩
    have h2 := h1.call0 hpAw
    have htab_2 := htab.mono hpAw.le
    refine hK _ _ ?_; clear hK K; try clear Q'
    iterate 1 (refine wpList_plainQ rfl (fun K Q' hK => ?_); go_simp; refine hK _ _ ?_; clear hK K; try clear Q')
    refine wpList_nil ?_
    show Code.wp _ _ _ _ _
    refine wp_seq ?_
    refine wp_seq ?_
    repeat (first | simp only [List.nil_append] at h2 | simp only [List.cons_append] at h2 | simp only [List.set_cons_zero] at h2 | simp only [List.set_cons_succ] at h2 | simp only [List.eraseIdx_zero] at h2 | simp only [List.tail_cons] at h2 | simp only [List.eraseIdx_cons_zero] at h2 | simp only [List.eraseIdx_cons_succ] at h2 | simp only [List.setIfInBounds_toArray] at h2)
    refine wp_region_lit ?_
    iterate 2 (refine wpList_plainQ rfl (fun K Q' hK => ?_); go_simp; refine hK _ _ ?_; clear hK K; try clear Q')
    refine wpList_nil ?_
    show Code.wp _ _ _ _ _
    -- stops at: cond
    refine wp_cond_false (rfl) ?_
    refine wp_skip ?_
    show Code.wp _ _ _ _ _
    refine wp_seq ?_
    refine wp_seq ?_
    refine wp_region_lit ?_
    iterate 3 (refine wpList_plainQ rfl (fun K Q' hK => ?_); go_simp; refine hK _ _ ?_; clear hK K; try clear Q')
    refine wpList_nil ?_
    show Code.wp _ _ _ _ _
    -- stops at: cond
    refine wp_cond_true (rfl) ?_
    refine wp_seq ?_
    refine wp_region_lit ?_
    iterate 1 (refine wpList_plainQ rfl (fun K Q' hK => ?_); go_simp; refine hK _ _ ?_; clear hK K; try clear Q')
    refine wpList_nil ?_
    show Code.wp _ _ _ _ _
    -- stops at: ret
    refine wp_ret ?_
    go_ret
    exact ⟨rfl, h2.post.keep⟩
end Go.Proofs.YtceamdacacacjaaDoor
