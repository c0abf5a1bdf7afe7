/-
SkewSteps: its walk (skew heaps' own law).
-/
import Derived.Test.YtdjbkdhjpkgajaaDoorQbPlain
import Derived.Test.YtdjbkdhjpkgajaaDoorMiSkewUp
import Derived.Test.YtdjbkdhjpkgajaaDoorGdOrdS
namespace Go.Proofs.YtdjbkdhjpkgajaaDoor
open Go Go.RowKit
set_option linter.unusedVariables false

namespace Hp
/-- Ranks rise. -/
def sk (t : Hp) : Prop := Rw.wup t
theorem sk_nil : sk nil := trivial
theorem sk_insert (x : El) {t : Hp} (h : sk t) : sk (insert x t) := Sk.insert_wup kf x h
theorem sk_pop {t : Hp} (h : sk t) : sk (pop t) := Sk.pop_wup kf h
theorem ins_steps (x : El) (t : Hp) : insC x t + insD x t ≤ 4 := Sk.insert_steps t
theorem min_steps {t : Hp} (h : sk t) : minC t ≤ bits (size t) := by
  have : List.length t ≤ bits (Rw.size t) + 1 := Rw.wup_length h
  show List.length t - 1 ≤ bits (Rw.size t)
  omega
theorem pop_steps {t : Hp} (h : sk t) : popC t + popD t ≤ 14 * bits (size t) := by
  have := Sk.pop_steps kf h
  show Sk.popC kf t + Sk.popD kf t ≤ 14 * bits (Rw.size t)
  omega
theorem size_pop1 {t : Hp} (h : ok t) : size (pop t) = size t - 1 := by
  cases hm : min? t with
  | none =>
    have h1 := min_none h hm
    rw [pop_none h hm]
    show (els t).length = (els t).length - 1
    rw [h1]; rfl
  | some x =>
    have := (min_perm h hm).length_eq
    show (els (pop t)).length = (els t).length - 1
    simp at this
    omega
end Hp
/-- How many bits there are at most. -/
theorem bits_le (n : Nat) : bits n ≤ n := by
  induction n using Nat.strongRecOn with
  | _ n ih =>
    by_cases h : n = 0
    · subst h; rw [bits_zero]; omega
    · rw [bits_pos h]
      have := ih (n / 2) (by omega)
      omega
theorem since_nat (s n : Int) (e : Nat) (h0 : 0 ≤ n) (h1 : n ≤ 1000000000) (h2 : e ≤ 1000000000) (hs : s = n + (e : Int)) : IntKind.i64.wrap (IntKind.i64.wrap s - n) = (e : Int) := by
  subst hs
  rw [IntWalk.i64_in (n + (e : Int)) (by omega), IntWalk.i64_in _ (by omega)]
  omega

set_option maxRecDepth 100000 in
set_option maxHeartbeats 16000000 in
theorem steps_walk (H : GH) (w : World) (v : Value) (a : List El) (n : Int) (hf : Fits w H) (htab : TabH H) (ha : ElRep H v a) (fa : ∀ x ∈ a, El.fits x) (hn : 0 ≤ n ∧ n ≤ 255) :
    Calls Tryd.prog 12 #[v, .int .u8 n] w fun e w' => e = .returned (.bool true) ∧ Keep none w w' := by
  have hpre : Pre w H none 0 0 := Pre.none hf 0 0
  obtain ⟨aa, ca, rfl, _, _⟩ := ha.nil_or
  obtain ⟨n, rfl⟩ := Int.eq_ofNat_of_zero_le hn.1
  have en : IntKind.i64.wrap (n : Int) = (n : Int) := IntWalk.i64_in _ (by omega)
  obtain ⟨k9, hk9, hk9l⟩ : ∃ k : Nat, (n : Int).tmod 9 = (k : Int) ∧ k < 9 := ⟨n % 9, rfl, Nat.mod_lt _ (by omega)⟩
  by_cases hl : a.length ≤ 100
  · have hl1 : decide ((100 : Int) < (a.length : Int)) = false := by simp; omega
    as_aux_lemma =>
    go_enter Tryd.func12, Tryd.ntmps12
    have h0 := St.start hpre
    refine wp_seq ?_
    repeat (first | simp only [List.nil_append] at h0 | simp only [List.cons_append] at h0 | simp only [List.set_cons_zero] at h0 | simp only [List.set_cons_succ] at h0 | simp only [List.eraseIdx_zero] at h0 | simp only [List.tail_cons] at h0 | simp only [List.eraseIdx_cons_zero] at h0 | simp only [List.eraseIdx_cons_succ] at h0 | simp only [List.setIfInBounds_toArray] at h0)
    refine wp_region_lit ?_
    iterate 1 (refine wpList_plainQ rfl (fun K Q' hK => ?_); go_simp; refine hK _ _ ?_; clear hK K; try clear Q')
    refine wpList_nil ?_
    show Code.wp _ _ _ _ _
    refine wp_seq ?_
    refine wp_region_lit ?_
    -- stops at: eff:call (Go.Op.call {'callee': (Go.Callee.value (Go.Operand.func 13)), 'args': [], 'argTypes': []}) slot 16
    refine wpList_plainQ rfl (fun K Q' hK => ?_); go_simp
    refine (awake_ok H _ h0.fits htab).mono ?_
    rintro e wAw ⟨HAw, rfl, hpAw⟩
    have h1 := h0.call0 hpAw
    have htab_1 := htab.mono hpAw.le
    have ha_1 := ha.mono hpAw.le
    refine hK _ _ ?_; clear hK K; try clear Q'
    iterate 1 (refine wpList_plainQ rfl (fun K Q' hK => ?_); go_simp; refine hK _ _ ?_; clear hK K; try clear Q')
    refine wpList_nil ?_
    show Code.wp _ _ _ _ _
    refine wp_seq ?_
    refine wp_seq ?_
    repeat (first | simp only [List.nil_append] at h1 | simp only [List.cons_append] at h1 | simp only [List.set_cons_zero] at h1 | simp only [List.set_cons_succ] at h1 | simp only [List.eraseIdx_zero] at h1 | simp only [List.tail_cons] at h1 | simp only [List.eraseIdx_cons_zero] at h1 | simp only [List.eraseIdx_cons_succ] at h1 | simp only [List.setIfInBounds_toArray] at h1)
    refine wp_region_lit ?_
    iterate 2 (refine wpList_plainQ rfl (fun K Q' hK => ?_); go_simp; refine hK _ _ ?_; clear hK K; try clear Q')
    refine wpList_nil ?_
    show Code.wp _ _ _ _ _
    -- stops at: cond
    refine wp_cond_false (rfl) ?_
    refine wp_skip ?_
    show Code.wp _ _ _ _ _
    refine wp_seq ?_
    refine wp_seq ?_
    refine wp_region_lit ?_
    iterate 3 (refine wpList_plainQ rfl (fun K Q' hK => ?_); go_simp; refine hK _ _ ?_; clear hK K; try clear Q')
    refine wpList_nil ?_
    show Code.wp _ _ _ _ _
    -- stops at: cond
    refine wp_cond_false (rfl) ?_
    refine wp_skip ?_
    show Code.wp _ _ _ _ _
    refine wp_seq ?_
    refine wp_region_lit ?_
    -- stops at: eff:call (Go.Op.call {'callee': (Go.Callee.value (Go.Operand.func 14)), 'args': [(Go.Operand.const (Go.Value.pointer none)), (Go.Operand.const (Go.Value.slice none 0 0)) slot 22
    refine wpList_plainQ rfl (fun K Q' hK => ?_); go_simp
    refine (hof_ok (m := none) (xs := []) (by simp) h1.pre (by simp) (SliceRep.nil _ _)).mono ?_
    rintro e wOf ⟨rOf, HOf, rfl, hpOf, hOf⟩
    have h2 := h1.call0 hpOf
    have htab_2 := htab_1.mono hpOf.le
    have ha_2 := ha_1.mono hpOf.le
    refine hK _ _ ?_; clear hK K; try clear Q'
    refine wpList_plainQ rfl (fun K Q' hK => ?_); go_simp
    refine h2.k_alloc (fun w3 h3 => ?_)
    refine hK _ _ ?_; clear hK K; try clear Q'
    have c_0 := h3.cell 0 rfl 0 rfl
    have f_0 := h3.free 0 rfl 0
    refine wpList_plainQ rfl (fun K Q' hK => ?_); go_simp
    clear c_0 f_0
    refine h3.k_set 0 rfl (fun w4 h4 => ?_)
    refine hK _ _ ?_; clear hK K; try clear Q'
    refine wpList_nil ?_
    show Code.wp _ _ _ _ _
    refine wp_seq ?_
    repeat (first | simp only [List.nil_append] at h4 | simp only [List.cons_append] at h4 | simp only [List.set_cons_zero] at h4 | simp only [List.set_cons_succ] at h4 | simp only [List.eraseIdx_zero] at h4 | simp only [List.tail_cons] at h4 | simp only [List.eraseIdx_cons_zero] at h4 | simp only [List.eraseIdx_cons_succ] at h4 | simp only [List.setIfInBounds_toArray] at h4)
    refine wp_region_lit ?_
    -- stops at: eff:call (Go.Op.call {'callee': (Go.Callee.value (Go.Operand.func 27)), 'args': [], 'argTypes': []}) slot 23
    refine wpList_plainQ rfl (fun K Q' hK => ?_); go_simp
    refine (new_ok _ _ h4.fits).mono ?_
    rintro e wM ⟨bM, rfl, hkM, hbM, hoM⟩
    have hM := h4.callnew hkM hbM hoM rfl
    refine hK _ _ ?_; clear hK K; try clear Q'
    iterate 1 (refine wpList_plainQ rfl (fun K Q' hK => ?_); go_simp; refine hK _ _ ?_; clear hK K; try clear Q')
    refine wpList_nil ?_
    show Code.wp _ _ _ _ _
    refine wp_seq ?_
    refine wp_seq ?_
    repeat (first | simp only [List.nil_append] at hM | simp only [List.cons_append] at hM | simp only [List.set_cons_zero] at hM | simp only [List.set_cons_succ] at hM | simp only [List.eraseIdx_zero] at hM | simp only [List.tail_cons] at hM | simp only [List.eraseIdx_cons_zero] at hM | simp only [List.eraseIdx_cons_succ] at hM | simp only [List.setIfInBounds_toArray] at hM)
    refine wp_region_lit ?_
    iterate 1 (refine wpList_plainQ rfl (fun K Q' hK => ?_); go_simp; refine hK _ _ ?_; clear hK K; try clear Q')
    refine wpList_nil ?_
    show Code.wp _ _ _ _ _
    refine wp_block ?_
    -- stops at: loop
    go_loopw [8] (fun v8 wr => ∃ (k : Nat) (X : Hp) (q : Option Addr) (H' : GH) (c d : Nat), k ≤ a.length ∧ v8 = .int .i64 k ∧ GH.le H H' ∧ Hid ((Hp.els X).Perm (a.take k)) ∧ Hid (Hp.sk X) ∧ Hid (c + d ≤ 4 * k) ∧ HpR H' q X ∧ St w H none 0 0 wr H' [(wOf.heap.size, .cells #[.pointer q] 30), (bM, meterObj c d)] []) (fun v8 _ => a.length - (intOf v8).toNat)
    case atStart => exact ⟨0, Hp.nil, rOf, _, 0, 0, by omega, rfl, hM.le, by simp [Hp.els_nil, Hid], Hp.sk_nil, Nat.zero_le _, hOf, hM⟩
    case round =>
      obtain ⟨k, X, q, H7, c, d, hk, rfl, hle7, pX, skX, hcd0, hX, hs⟩ := hrel
      have hcd : Hid (c + d ≤ 400) := by have := hcd0.out; show _ ≤ _; omega
      have sX : Hp.size X = k := by rw [Hp.size_eq, pX.out.length_eq]; simp; omega
      by_cases hlt : k < a.length
      · skip
        as_aux_lemma =>
        obtain ⟨b9, o9, cap9, ee, _⟩ := ha.ne_nil (by omega)
        simp only [Value.slice.injEq, true_and] at ee
        obtain ⟨rfl, rfl⟩ := ee
        obtain ⟨c1, c2⟩ := elRep_cells ha (k := k) (a := a[k]) (by simp [hlt])
        obtain ⟨y, hy⟩ : ∃ y0, Hid (a[k] = y0) := ⟨a[k], show _ = _ from rfl⟩
        rw [hy.out] at c1 c2
        have hly : a[k]? = some y := by rw [List.getElem?_eq_getElem hlt, hy.out]
        have htk : a.take (k + 1) = a.take k ++ [y] := by rw [List.take_add_one, hly]; rfl
        have e1 : IntKind.i64.wrap ((k : Int) + 1) = (k : Int) + 1 := IntWalk.i64_in _ (by omega)
        have fy : El.fits y := by rw [← hy.out]; exact fa _ (List.getElem_mem hlt)
        obtain ⟨ic, hic⟩ : ∃ n, Hid (Hp.insC y X = n) := ⟨_, show _ = _ from rfl⟩
        obtain ⟨id, hid⟩ : ∃ n, Hid (Hp.insD y X = n) := ⟨_, show _ = _ from rfl⟩
        have hicd : ic + id ≤ 4 := by rw [← hic.out, ← hid.out]; exact Hp.ins_steps y X
        obtain ⟨is, hee⟩ : ∃ n, Hid (ic + id = n) := ⟨_, show _ = _ from rfl⟩
        have hisl : is ≤ 4 := by have := hee.out; omega
        have d4 : decide ((4 : Int) < (is : Int)) = false := decide_eq_false (by omega)
        refine wp_seq ?_
        refine wp_seq ?_
        repeat (first | simp only [List.nil_append] at hs | simp only [List.cons_append] at hs | simp only [List.set_cons_zero] at hs | simp only [List.set_cons_succ] at hs | simp only [List.eraseIdx_zero] at hs | simp only [List.tail_cons] at hs | simp only [List.eraseIdx_cons_zero] at hs | simp only [List.eraseIdx_cons_succ] at hs | simp only [List.setIfInBounds_toArray] at hs)
        refine wp_region_lit ?_
        iterate 4 (refine wpList_plainQ rfl (fun K Q' hK => ?_); go_simp; refine hK _ _ ?_; clear hK K; try clear Q')
        refine wpList_nil ?_
        show Code.wp _ _ _ _ _
        -- stops at: cond
        refine wp_cond_true (rfl) ?_
        refine wp_skip ?_
        show Code.wp _ _ _ _ _
        refine wp_seq ?_
        refine wp_block ?_
        refine wp_seq ?_
        refine wp_region_lit ?_
        iterate 1 (refine wpList_plainQ rfl (fun K Q' hK => ?_); go_simp; refine hK _ _ ?_; clear hK K; try clear Q')
        -- stops at: eff:call (Go.Op.call {'callee': (Go.Callee.value (Go.Operand.func 29)), 'args': [(Go.Operand.tmp 30)], 'argTypes': [48]}) slot 31
        refine wpList_plainQ rfl (fun K Q' hK => ?_); go_simp
        refine (steps_ok _ _ bM _ _ (hs.pre_at (i := 1) rfl)).mono ?_
        rintro e wS1 ⟨rfl, hpS1⟩
        rw [show IntKind.i64.wrap ((c : Int) + (d : Int)) = ((c : Int) + (d : Int)) from IntWalk.i64_in _ (by have := hcd.out; omega)]
        have h5 := hs.call_at (i := 1) rfl hpS1
        have hX_5 := hX.mono hpS1.le
        refine hK _ _ ?_; clear hK K; try clear Q'
        iterate 1 (refine wpList_plainQ rfl (fun K Q' hK => ?_); go_simp; refine hK _ _ ?_; clear hK K; try clear Q')
        refine wpList_nil ?_
        show Code.wp _ _ _ _ _
        refine wp_seq ?_
        repeat (first | simp only [List.nil_append] at h5 | simp only [List.cons_append] at h5 | simp only [List.set_cons_zero] at h5 | simp only [List.set_cons_succ] at h5 | simp only [List.eraseIdx_zero] at h5 | simp only [List.tail_cons] at h5 | simp only [List.eraseIdx_cons_zero] at h5 | simp only [List.eraseIdx_cons_succ] at h5 | simp only [List.setIfInBounds_toArray] at h5)
        refine h5.region [] [(1, true), (2, true), (3, true), (4, true), (5, true), (0, false), (6, false), (7, false)] (by kernel_rfl) (by kernel_rfl) (fun w6 h6 => ?_)
        refine wpOrd_hide (fun _ _ d _ _ h => by cases d <;> exact h) (fun QR hQn hQp => ?_)
        simp only [ordOps, List.map_cons, List.map_nil, List.getD_cons_zero, List.getD_cons_succ]
        iterate 4 (refine wpOrd_quiet (v := ?_) rfl (fun _ _ _ => hQp _ _ _ _ _) ?_ ?_; rotate_left; (intro w' hS; (first | (go_simp; done) | (go_simp; with_reducible rfl))); simp only [Act.put, List.setIfInBounds_toArray, List.set_cons_zero, List.set_cons_succ])
        -- stops at: load (Go.Op.load 24 (Go.Operand.tmp 36)) slot 37
        iterate 1 (refine wpOrd_quiet (v := ?_) rfl (fun _ _ _ => hQp _ _ _ _ _) ?_ ?_; rotate_left; (intro w' hS; have ce := c1.out _ (hS.1.le hle7); have ce2 := c2.out _ (hS.1.le hle7); (first | (go_simp; done) | (go_simp; with_reducible rfl))); simp only [Act.put, List.setIfInBounds_toArray, List.set_cons_zero, List.set_cons_succ])
        have c_0_0 := h6.cell 0 rfl 0 rfl
        refine wpOrd_effQ rfl (fun K Q' hK => ?_); go_simp
        refine hK _ _ (h6.sat' (GH.le_refl _) [] (sel_nil2 _ _)) ?_; clear hK K; try clear Q'
        clear c_0_0
        -- stops at: eff:call (Go.Op.call {'callee': (Go.Callee.value (Go.Operand.func 17)), 'args': [(Go.Operand.tmp 32), (Go.Operand.tmp 33), (Go.Operand.tmp 37)], 'argTypes': [30, 48, 24] slot 38
        refine wpOrd_effQ rfl (fun K Q' hK => ?_); go_simp
        refine (hinsert_ok (m := some bM) y fy (h6.pre_at (i := 1) rfl) (by omega) hX_5).mono ?_
        rintro e wI ⟨rI, HI, rfl, hpI, hI⟩
        rw [hic.out, hid.out] at hpI
        have sI : Hp.size (Hp.insert y X) = _ := Hp.size_insert y hX.ok
        rw [sX] at sI
        have h7 := h6.call_at (i := 1) rfl hpI
        have hX_7 := hX_5.mono hpI.le
        refine hK _ _ (h7.sat' hpI.le [] (sel_nil2 _ _)) ?_; clear hK K; try clear Q'
        as_aux_lemma =>
        have c_0 := h7.cell 0 rfl 0 rfl
        have f_0 := h7.free 0 rfl 0
        refine wpOrd_effQ rfl (fun K Q' hK => ?_); go_simp
        clear c_0 f_0
        refine h7.k_set 0 rfl (fun w8 h8 => ?_)
        refine hK _ _ (h8.sat' hpI.le [] (sel_nil2 _ _)) ?_; clear hK K; try clear Q'
        refine wpOrd_nil (hQn _ _ ?_); clear hQn hQp QR
        show Code.wp _ _ _ _ _
        refine wp_seq ?_
        repeat (first | simp only [List.nil_append] at h8 | simp only [List.cons_append] at h8 | simp only [List.set_cons_zero] at h8 | simp only [List.set_cons_succ] at h8 | simp only [List.eraseIdx_zero] at h8 | simp only [List.tail_cons] at h8 | simp only [List.eraseIdx_cons_zero] at h8 | simp only [List.eraseIdx_cons_succ] at h8 | simp only [List.setIfInBounds_toArray] at h8)
        refine wp_region_lit ?_
        iterate 2 (refine wpList_plainQ rfl (fun K Q' hK => ?_); go_simp; refine hK _ _ ?_; clear hK K; try clear Q')
        -- stops at: eff:call (Go.Op.call {'callee': (Go.Callee.value (Go.Operand.func 30)), 'args': [(Go.Operand.tmp 39), (Go.Operand.tmp 40)], 'argTypes': [48, 3]}) slot 41
        refine wpList_plainQ rfl (fun K Q' hK => ?_); go_simp
        refine (since_ok _ _ bM _ _ _ (h8.pre_at (i := 1) rfl)).mono ?_
        rintro e wS2 ⟨rfl, hpS2⟩
        rw [since_nat _ _ is (by have := hcd.out; omega) (by have := hcd.out; omega) (by have := hcd.out; omega) (by have := hee.out; omega)]
        have h9 := h8.call_at (i := 1) rfl hpS2
        have hX_9 := hX_7.mono hpS2.le
        have hI_9 := hI.mono hpS2.le
        refine hK _ _ ?_; clear hK K; try clear Q'
        iterate 2 (refine wpList_plainQ rfl (fun K Q' hK => ?_); go_simp; refine hK _ _ ?_; clear hK K; try clear Q')
        have c_0_0 := h9.cell 0 rfl 0 rfl
        first | go_skip | (iterate 1 (refine wpList_stepQ (o := { dst := _, op := _, type := _, pos := _, after := _, guard := some (4, false) }) (fun K Q' hK => ?_); go_simp; refine hK _ _ ?_; clear hK K; try clear Q')) | skip
        clear c_0_0
        -- stops at: eff:call (Go.Op.call {'callee': (Go.Callee.value (Go.Operand.func 19)), 'args': [(Go.Operand.tmp 44)], 'argTypes': [30]}) slot 45
        refine wpList_stepQ (fun K Q' hK => ?_); go_simp
        refine (hsize_ok h9.fits (by omega) hI_9).mono ?_
        rintro e wZ ⟨HZ, rfl, hpZ⟩
        rw [sI]
        have h10 := h9.call0 hpZ
        have hX_10 := hX_9.mono hpZ.le
        have hI_10 := hI_9.mono hpZ.le
        refine hK _ _ ?_; clear hK K; try clear Q'
        first | go_skip | (iterate 3 (refine wpList_stepQ (o := { dst := _, op := _, type := _, pos := _, after := _, guard := some (4, false) }) (fun K Q' hK => ?_); go_simp; refine hK _ _ ?_; clear hK K; try clear Q')) | skip
        iterate 1 (refine wpList_plainQ rfl (fun K Q' hK => ?_); go_simp; refine hK _ _ ?_; clear hK K; try clear Q')
        refine wpList_nil ?_
        show Code.wp _ _ _ _ _
        -- stops at: cond
        refine wp_cond_false (rfl) ?_
        refine wp_skip ?_
        show Code.wp _ _ _ _ _
        repeat (first | simp only [List.nil_append] at h10 | simp only [List.cons_append] at h10 | simp only [List.set_cons_zero] at h10 | simp only [List.set_cons_succ] at h10 | simp only [List.eraseIdx_zero] at h10 | simp only [List.tail_cons] at h10 | simp only [List.eraseIdx_cons_zero] at h10 | simp only [List.eraseIdx_cons_succ] at h10 | simp only [List.setIfInBounds_toArray] at h10)
        refine wp_region_lit ?_
        iterate 3 (refine wpList_plainQ rfl (fun K Q' hK => ?_); go_simp; refine hK _ _ ?_; clear hK K; try clear Q')
        refine wpList_nil ?_
        -- stops at: end ('roundend',)
        show _ ∧ _
        go_roundw
        case rel =>
          refine ⟨k + 1, Hp.insert y X, rI, _, c + ic, d + id, by omega, by simp, GH.le.trans hle7 (GH.le.trans hpI.le hpZ.le), ?_, Hp.sk_insert y skX.out, ?_, hI_10, ?_⟩
          · rw [htk]
            exact (Hp.els_insert y hX.ok).trans ((pX.out.cons y).trans (List.perm_append_singleton y _).symm)
          · have := hcd0.out; show _ ≤ _; omega
          · rw [Int.natCast_add, Int.natCast_add]
            exact h10
        case measure => simp [intOf]; omega
      · obtain rfl : k = a.length := by omega
        as_aux_lemma =>
        rw [List.take_length] at pX
        have haY : ElRep H7 _ a := ha.mono hle7
        refine wp_seq ?_
        refine wp_seq ?_
        repeat (first | simp only [List.nil_append] at hs | simp only [List.cons_append] at hs | simp only [List.set_cons_zero] at hs | simp only [List.set_cons_succ] at hs | simp only [List.eraseIdx_zero] at hs | simp only [List.tail_cons] at hs | simp only [List.eraseIdx_cons_zero] at hs | simp only [List.eraseIdx_cons_succ] at hs | simp only [List.setIfInBounds_toArray] at hs)
        refine wp_region_lit ?_
        iterate 4 (refine wpList_plainQ rfl (fun K Q' hK => ?_); go_simp; refine hK _ _ ?_; clear hK K; try clear Q')
        refine wpList_nil ?_
        show Code.wp _ _ _ _ _
        -- stops at: cond
        refine wp_cond_false (rfl) ?_
        refine wp_exit ?_
        show Code.wp _ _ _ _ _
        refine wp_seq ?_
        refine wp_seq ?_
        refine wp_region_lit ?_
        have c_0_0 := hs.cell 0 rfl 0 rfl
        iterate 1 (refine wpList_plainQ rfl (fun K Q' hK => ?_); go_simp; refine hK _ _ ?_; clear hK K; try clear Q')
        clear c_0_0
        -- stops at: eff:call (Go.Op.call {'callee': (Go.Callee.value (Go.Operand.func 31)), 'args': [(Go.Operand.tmp 50)], 'argTypes': [30]}) slot 51
        refine wpList_plainQ rfl (fun K Q' hK => ?_); go_simp
        refine (skall_ok H7 _ q X hs.fits (by have h9 : Hp.size X < 900000 := (by omega); exact h9) hX.1).mono ?_
        rintro e wA ⟨vA, rfl, hpA⟩
        obtain ⟨ls, hls⟩ : ∃ l, Hid (Rw.els X = l) := ⟨_, show _ = _ from rfl⟩
        rw [hls.out] at hpA
        have pls : Hid (ls.Perm a) := by rw [← hls.out]; exact pX.out
        have lls : ls.length < 1000000 := by rw [pls.out.length_eq]; omega
        obtain ⟨HA, hAA, rA, leA⟩ := (hs.callrow hpA).settleRow 0 rfl
        have rEl : ElRep HA vA ls := rA
        obtain ⟨aA, cA, rfl, _, _⟩ := rA.nil_or
        have hX_11 := hX.mono leA
        have haY_11 := haY.mono leA
        refine hK _ _ ?_; clear hK K; try clear Q'
        -- stops at: eff:call (Go.Op.call {'callee': (Go.Callee.value (Go.Operand.func 24)), 'args': [(Go.Operand.tmp 51)], 'argTypes': [22]}) slot 52
        refine wpList_plainQ rfl (fun K Q' hK => ?_); go_simp
        refine (rsort_ok _ _ _ ls (by first | omega | simp) hAA.fits rEl).mono ?_
        rintro e wP1 ⟨vP1, HP1, rfl, hpP1, dP1⟩
        have h12 := hAA.call0 hpP1
        have hX_12 := hX_11.mono hpP1.le
        have haY_12 := haY_11.mono hpP1.le
        have rEl_12 := rEl.mono hpP1.le
        refine hK _ _ ?_; clear hK K; try clear Q'
        iterate 1 (refine wpList_plainQ rfl (fun K Q' hK => ?_); go_simp; refine hK _ _ ?_; clear hK K; try clear Q')
        -- stops at: eff:call (Go.Op.call {'callee': (Go.Callee.value (Go.Operand.func 24)), 'args': [(Go.Operand.tmp 53)], 'argTypes': [22]}) slot 54
        refine wpList_plainQ rfl (fun K Q' hK => ?_); go_simp
        refine (rsort_ok _ _ _ a (by first | omega | simp) h12.fits haY_12).mono ?_
        rintro e wP2 ⟨vP2, HP2, rfl, hpP2, dP2⟩
        have h13 := h12.call0 hpP2
        have hX_13 := hX_12.mono hpP2.le
        have haY_13 := haY_12.mono hpP2.le
        have rEl_13 := rEl_12.mono hpP2.le
        have dP1_13 := dP1.mono hpP2.le
        refine hK _ _ ?_; clear hK K; try clear Q'
        -- stops at: eff:call (Go.Op.call {'callee': (Go.Callee.value (Go.Operand.func 22)), 'args': [(Go.Operand.tmp 52), (Go.Operand.tmp 54)], 'argTypes': [22, 22]}) slot 55
        refine wpList_plainQ rfl (fun K Q' hK => ?_); go_simp
        refine (rsame_ok _ _ _ _ _ _ (by rw [sortE_length]; first | omega | exact lls) (by rw [sortE_length]; first | omega | exact lls) h13.fits dP1_13 dP2).mono ?_
        rintro e wE1 ⟨rfl, hkE1⟩
        rw [decide_eq_true (sortE_congr pls.out)]
        have h14 := h13.callk hkE1
        refine hK _ _ ?_; clear hK K; try clear Q'
        iterate 1 (refine wpList_plainQ rfl (fun K Q' hK => ?_); go_simp; refine hK _ _ ?_; clear hK K; try clear Q')
        refine wpList_nil ?_
        show Code.wp _ _ _ _ _
        -- stops at: cond
        refine wp_cond_false (rfl) ?_
        refine wp_skip ?_
        show Code.wp _ _ _ _ _
        refine wp_seq ?_
        refine wp_seq ?_
        repeat (first | simp only [List.nil_append] at h14 | simp only [List.cons_append] at h14 | simp only [List.set_cons_zero] at h14 | simp only [List.set_cons_succ] at h14 | simp only [List.eraseIdx_zero] at h14 | simp only [List.tail_cons] at h14 | simp only [List.eraseIdx_cons_zero] at h14 | simp only [List.eraseIdx_cons_succ] at h14 | simp only [List.setIfInBounds_toArray] at h14)
        refine wp_region_lit ?_
        iterate 1 (refine wpList_plainQ rfl (fun K Q' hK => ?_); go_simp; refine hK _ _ ?_; clear hK K; try clear Q')
        refine wpList_nil ?_
        show Code.wp _ _ _ _ _
        refine wp_block ?_
        -- stops at: loop
        have hle9 : GH.le H HP2 := h14.le
        go_loopw [10] (fun v10 wr => ∃ (k : Nat) (X : Hp) (q : Option Addr) (H' : GH) (c d : Nat), k ≤ k9 ∧ v10 = .int .i64 k ∧ Hid (Hp.size X ≤ 100) ∧ Hid (Hp.sk X) ∧ Hid (c + d ≤ 400 + 1500 * k) ∧ HpR H' q X ∧ St w H none 0 0 wr H' [(wOf.heap.size, .cells #[.pointer q] 30), (bM, meterObj c d)] []) (fun v10 _ => k9 - (intOf v10).toNat)
        case atStart => exact ⟨0, X, q, _, c, d, by omega, rfl, by show _ ≤ _; omega, skX, by have := hcd.out; show _ ≤ _; omega, hX_13, h14⟩
        case round =>
          clear hX hs
          obtain ⟨k, Y, q, H8, c, d, hk2, rfl, hY1, skY, hcd1, hY, hs⟩ := hrel
          obtain ⟨sX, hsX⟩ : ∃ n, Hid (Hp.size Y = n) := ⟨_, show _ = _ from rfl⟩
          have sY : Hp.size Y = sX := hsX.out
          have sXl : sX ≤ 100 := by have := hY1.out; omega
          have hcd : Hid (c + d ≤ 400 + 1500 * 8 + 1500) := by have := hcd1.out; show _ ≤ _; omega
          by_cases hlt2 : k < k9
          · skip
            as_aux_lemma =>
            have e1 : IntKind.i64.wrap ((k : Int) + 1) = (k : Int) + 1 := IntWalk.i64_in _ (by omega)
            refine wp_seq ?_
            refine wp_seq ?_
            repeat (first | simp only [List.nil_append] at hs | simp only [List.cons_append] at hs | simp only [List.set_cons_zero] at hs | simp only [List.set_cons_succ] at hs | simp only [List.eraseIdx_zero] at hs | simp only [List.tail_cons] at hs | simp only [List.eraseIdx_cons_zero] at hs | simp only [List.eraseIdx_cons_succ] at hs | simp only [List.setIfInBounds_toArray] at hs)
            refine wp_region_lit ?_
            iterate 5 (refine wpList_plainQ rfl (fun K Q' hK => ?_); go_simp; refine hK _ _ ?_; clear hK K; try clear Q')
            refine wpList_nil ?_
            show Code.wp _ _ _ _ _
            -- stops at: cond
            refine wp_cond_true (rfl) ?_
            refine wp_skip ?_
            show Code.wp _ _ _ _ _
            refine wp_seq ?_
            refine wp_block ?_
            refine wp_seq ?_
            refine wp_region_lit ?_
            iterate 1 (refine wpList_plainQ rfl (fun K Q' hK => ?_); go_simp; refine hK _ _ ?_; clear hK K; try clear Q')
            refine wpList_nil ?_
            show Code.wp _ _ _ _ _
            refine wp_seq ?_
            refine wp_seq ?_
            refine wp_region_lit ?_
            have c_0_0 := hs.cell 0 rfl 0 rfl
            iterate 1 (refine wpList_plainQ rfl (fun K Q' hK => ?_); go_simp; refine hK _ _ ?_; clear hK K; try clear Q')
            clear c_0_0
            -- stops at: eff:call (Go.Op.call {'callee': (Go.Callee.value (Go.Operand.func 19)), 'args': [(Go.Operand.tmp 64)], 'argTypes': [30]}) slot 65
            refine wpList_plainQ rfl (fun K Q' hK => ?_); go_simp
            refine (hsize_ok hs.fits (by omega) hY).mono ?_
            rintro e wZ1 ⟨HZ1, rfl, hpZ1⟩
            rw [sY]
            have h15 := hs.call0 hpZ1
            have hY_15 := hY.mono hpZ1.le
            refine hK _ _ ?_; clear hK K; try clear Q'
            iterate 1 (refine wpList_plainQ rfl (fun K Q' hK => ?_); go_simp; refine hK _ _ ?_; clear hK K; try clear Q')
            refine wpList_nil ?_
            show Code.wp _ _ _ _ _
            refine wp_block ?_
            -- stops at: loop
            obtain ⟨bt, hbt⟩ : ∃ n, Hid (bits sX = n) := ⟨_, show _ = _ from rfl⟩
            have hbtl : bt ≤ sX := by rw [← hbt.out]; exact bits_le sX
            go_loopw [11, 12] (fun vB vK wr => ∃ kk bb : Nat, vK = .int .i64 kk ∧ vB = .int .i64 bb ∧ Hid (bb + bits kk = bt) ∧ kk ≤ sX ∧ St w H none 0 0 wr HZ1 [(wOf.heap.size, .cells #[.pointer q] 30), (bM, meterObj c d)] []) (fun _ vK _ => (intOf vK).toNat)
            case atStart => exact ⟨sX, 0, rfl, rfl, by show _ = _; have := hbt.out; omega, Nat.le_refl _, h15⟩
            case round =>
              obtain ⟨kk, bb, rfl, rfl, hbk, hkl, hs2⟩ := hrel
              by_cases hk0 : 0 < kk
              · have hbp := bits_pos (n := kk) (by omega)
                have hq : Int.tdiv (kk : Int) 2 = ((kk / 2 : Nat) : Int) := rfl
                obtain ⟨kh, hkh⟩ : ∃ n, Hid (kk / 2 = n) := ⟨_, show _ = _ from rfl⟩
                have hq2 : Int.tdiv (kk : Int) 2 = (kh : Int) := by rw [← hkh.out]; rfl
                have hq3 : IntKind.i64.wrap (kh : Int) = (kh : Int) := IntWalk.i64_in _ (by have := hkh.out; omega)
                have hb1 : IntKind.i64.wrap ((bb : Int) + 1) = (bb : Int) + 1 := IntWalk.i64_in _ (by have := hbk.out; omega)
                have hbk2 : Hid (bb + 1 + bits kh = bt) := by have := hbk.out; have := hkh.out; show _ = _; rw [← this]; omega
                have hkh2 : kh < kk := by have := hkh.out; omega
                clear hbp hq
                refine wp_seq ?_
                refine wp_seq ?_
                repeat (first | simp only [List.nil_append] at hs2 | simp only [List.cons_append] at hs2 | simp only [List.set_cons_zero] at hs2 | simp only [List.set_cons_succ] at hs2 | simp only [List.eraseIdx_zero] at hs2 | simp only [List.tail_cons] at hs2 | simp only [List.eraseIdx_cons_zero] at hs2 | simp only [List.eraseIdx_cons_succ] at hs2 | simp only [List.setIfInBounds_toArray] at hs2)
                refine wp_region_lit ?_
                iterate 2 (refine wpList_plainQ rfl (fun K Q' hK => ?_); go_simp; refine hK _ _ ?_; clear hK K; try clear Q')
                refine wpList_nil ?_
                show Code.wp _ _ _ _ _
                -- stops at: cond
                refine wp_cond_true (rfl) ?_
                refine wp_skip ?_
                show Code.wp _ _ _ _ _
                refine wp_seq ?_
                refine wp_block ?_
                refine wp_region_lit ?_
                iterate 3 (refine wpList_plainQ rfl (fun K Q' hK => ?_); go_simp; refine hK _ _ ?_; clear hK K; try clear Q')
                refine wpList_nil ?_
                show Code.wp _ _ _ _ _
                refine wp_region_lit ?_
                iterate 3 (refine wpList_plainQ rfl (fun K Q' hK => ?_); go_simp; refine hK _ _ ?_; clear hK K; try clear Q')
                refine wpList_nil ?_
                -- stops at: end ('roundend',)
                show _ ∧ _
                go_roundw
                case rel => exact ⟨kh, bb + 1, rfl, by simp, hbk2, by omega, hs2⟩
                case measure => simp [intOf]; omega
              · obtain rfl : kk = 0 := by omega
                obtain rfl : bb = bt := by have := hbk.out; rw [bits_zero] at this; omega
                refine wp_seq ?_
                refine wp_seq ?_
                repeat (first | simp only [List.nil_append] at hs2 | simp only [List.cons_append] at hs2 | simp only [List.set_cons_zero] at hs2 | simp only [List.set_cons_succ] at hs2 | simp only [List.eraseIdx_zero] at hs2 | simp only [List.tail_cons] at hs2 | simp only [List.eraseIdx_cons_zero] at hs2 | simp only [List.eraseIdx_cons_succ] at hs2 | simp only [List.setIfInBounds_toArray] at hs2)
                refine wp_region_lit ?_
                iterate 2 (refine wpList_plainQ rfl (fun K Q' hK => ?_); go_simp; refine hK _ _ ?_; clear hK K; try clear Q')
                refine wpList_nil ?_
                show Code.wp _ _ _ _ _
                -- stops at: cond
                refine wp_cond_false (rfl) ?_
                refine wp_exit ?_
                show Code.wp _ _ _ _ _
                refine wp_seq ?_
                refine wp_region_lit ?_
                iterate 1 (refine wpList_plainQ rfl (fun K Q' hK => ?_); go_simp; refine hK _ _ ?_; clear hK K; try clear Q')
                -- stops at: eff:call (Go.Op.call {'callee': (Go.Callee.value (Go.Operand.func 29)), 'args': [(Go.Operand.tmp 72)], 'argTypes': [48]}) slot 73
                clear hs
                obtain ⟨mc, hmc⟩ : ∃ n, Hid (Hp.minC Y = n) := ⟨_, show _ = _ from rfl⟩
                obtain ⟨pc, hpc⟩ : ∃ n, Hid (Hp.popC Y = n) := ⟨_, show _ = _ from rfl⟩
                obtain ⟨pd, hpd⟩ : ∃ n, Hid (Hp.popD Y = n) := ⟨_, show _ = _ from rfl⟩
                have hm1 : mc ≤ bb := by rw [← hmc.out, ← hbt.out, ← sY]; exact Hp.min_steps skY.out
                have hp1 : pc + pd ≤ 14 * bb := by rw [← hpc.out, ← hpd.out, ← hbt.out, ← sY]; exact Hp.pop_steps skY.out
                obtain ⟨ps, hps⟩ : ∃ n, Hid (pc + pd = n) := ⟨_, show _ = _ from rfl⟩
                have hps1 : ps ≤ 14 * bb := by rw [← hps.out]; exact hp1
                have hee1 : Hid (mc = mc) := rfl
                have hps0 := hps
                have dm1 : decide (bb < mc) = false := decide_eq_false (by omega)
                have dm2 : decide ((bb : Int) < (mc : Int)) = false := decide_eq_false (by omega)
                have e14 : IntKind.i64.wrap (14 * (bb : Int)) = 14 * (bb : Int) := IntWalk.i64_in _ (by omega)
                have dp1 : decide (14 * (bb : Int) < (ps : Int)) = false := decide_eq_false (by omega)
                have dp2 : decide (14 * bb < ps) = false := decide_eq_false (by omega)
                refine wpList_plainQ rfl (fun K Q' hK => ?_); go_simp
                refine (steps_ok _ _ bM _ _ (hs2.pre_at (i := 1) rfl)).mono ?_
                rintro e wS3 ⟨rfl, hpS3⟩
                rw [show IntKind.i64.wrap ((c : Int) + (d : Int)) = ((c : Int) + (d : Int)) from IntWalk.i64_in _ (by have := hcd.out; omega)]
                have h16 := hs2.call_at (i := 1) rfl hpS3
                have hY_16 := hY_15.mono hpS3.le
                refine hK _ _ ?_; clear hK K; try clear Q'
                iterate 1 (refine wpList_plainQ rfl (fun K Q' hK => ?_); go_simp; refine hK _ _ ?_; clear hK K; try clear Q')
                refine wpList_nil ?_
                show Code.wp _ _ _ _ _
                refine wp_seq ?_
                repeat (first | simp only [List.nil_append] at h16 | simp only [List.cons_append] at h16 | simp only [List.set_cons_zero] at h16 | simp only [List.set_cons_succ] at h16 | simp only [List.eraseIdx_zero] at h16 | simp only [List.tail_cons] at h16 | simp only [List.eraseIdx_cons_zero] at h16 | simp only [List.eraseIdx_cons_succ] at h16 | simp only [List.setIfInBounds_toArray] at h16)
                refine wp_region_lit ?_
                have c_0_0 := h16.cell 0 rfl 0 rfl
                iterate 2 (refine wpList_plainQ rfl (fun K Q' hK => ?_); go_simp; refine hK _ _ ?_; clear hK K; try clear Q')
                clear c_0_0
                -- stops at: eff:call (Go.Op.call {'callee': (Go.Callee.value (Go.Operand.func 16)), 'args': [(Go.Operand.tmp 74), (Go.Operand.tmp 75)], 'argTypes': [30, 48]}) slot 76
                refine wpList_plainQ rfl (fun K Q' hK => ?_); go_simp
                refine (hmin_ok (m := some bM) (h16.pre_at (i := 1) rfl) (by omega) hY_16).mono ?_
                rintro e wMi ⟨HMi, rfl, hpMi⟩
                rw [hmc.out] at hpMi
                have h17 := h16.call_at (i := 1) rfl hpMi
                have hY_17 := hY_16.mono hpMi.le
                refine hK _ _ ?_; clear hK K; try clear Q'
                refine wpList_nil ?_
                show Code.wp _ _ _ _ _
                refine wp_seq ?_
                refine wp_seq ?_
                repeat (first | simp only [List.nil_append] at h17 | simp only [List.cons_append] at h17 | simp only [List.set_cons_zero] at h17 | simp only [List.set_cons_succ] at h17 | simp only [List.eraseIdx_zero] at h17 | simp only [List.tail_cons] at h17 | simp only [List.eraseIdx_cons_zero] at h17 | simp only [List.eraseIdx_cons_succ] at h17 | simp only [List.setIfInBounds_toArray] at h17)
                refine wp_region_lit ?_
                iterate 2 (refine wpList_plainQ rfl (fun K Q' hK => ?_); go_simp; refine hK _ _ ?_; clear hK K; try clear Q')
                -- stops at: eff:call (Go.Op.call {'callee': (Go.Callee.value (Go.Operand.func 30)), 'args': [(Go.Operand.tmp 77), (Go.Operand.tmp 78)], 'argTypes': [48, 3]}) slot 79
                refine wpList_plainQ rfl (fun K Q' hK => ?_); go_simp
                refine (since_ok _ _ bM _ _ _ (h17.pre_at (i := 1) rfl)).mono ?_
                rintro e wS4 ⟨rfl, hpS4⟩
                rw [since_nat _ _ mc (by have := hcd.out; omega) (by have := hcd.out; omega) (by have := hcd.out; omega) (by have := hee1.out; omega)]
                have h18 := h17.call_at (i := 1) rfl hpS4
                have hY_18 := hY_17.mono hpS4.le
                refine hK _ _ ?_; clear hK K; try clear Q'
                iterate 2 (refine wpList_plainQ rfl (fun K Q' hK => ?_); go_simp; refine hK _ _ ?_; clear hK K; try clear Q')
                refine wpList_nil ?_
                show Code.wp _ _ _ _ _
                -- stops at: cond
                refine wp_cond_false (rfl) ?_
                refine wp_skip ?_
                show Code.wp _ _ _ _ _
                refine wp_seq ?_
                repeat (first | simp only [List.nil_append] at h18 | simp only [List.cons_append] at h18 | simp only [List.set_cons_zero] at h18 | simp only [List.set_cons_succ] at h18 | simp only [List.eraseIdx_zero] at h18 | simp only [List.tail_cons] at h18 | simp only [List.eraseIdx_cons_zero] at h18 | simp only [List.eraseIdx_cons_succ] at h18 | simp only [List.setIfInBounds_toArray] at h18)
                refine wp_region_lit ?_
                iterate 1 (refine wpList_plainQ rfl (fun K Q' hK => ?_); go_simp; refine hK _ _ ?_; clear hK K; try clear Q')
                -- stops at: eff:call (Go.Op.call {'callee': (Go.Callee.value (Go.Operand.func 29)), 'args': [(Go.Operand.tmp 82)], 'argTypes': [48]}) slot 83
                refine wpList_plainQ rfl (fun K Q' hK => ?_); go_simp
                refine (steps_ok _ _ bM _ _ (h18.pre_at (i := 1) rfl)).mono ?_
                rintro e wS5 ⟨rfl, hpS5⟩
                rw [show IntKind.i64.wrap ((c : Int) + (mc : Int) + (d : Int)) = ((c : Int) + (mc : Int) + (d : Int)) from IntWalk.i64_in _ (by have := hcd.out; omega)]
                have h19 := h18.call_at (i := 1) rfl hpS5
                have hY_19 := hY_18.mono hpS5.le
                refine hK _ _ ?_; clear hK K; try clear Q'
                iterate 1 (refine wpList_plainQ rfl (fun K Q' hK => ?_); go_simp; refine hK _ _ ?_; clear hK K; try clear Q')
                refine wpList_nil ?_
                show Code.wp _ _ _ _ _
                refine wp_seq ?_
                repeat (first | simp only [List.nil_append] at h19 | simp only [List.cons_append] at h19 | simp only [List.set_cons_zero] at h19 | simp only [List.set_cons_succ] at h19 | simp only [List.eraseIdx_zero] at h19 | simp only [List.tail_cons] at h19 | simp only [List.eraseIdx_cons_zero] at h19 | simp only [List.eraseIdx_cons_succ] at h19 | simp only [List.setIfInBounds_toArray] at h19)
                refine wp_region_lit ?_
                have c_0_0 := h19.cell 0 rfl 0 rfl
                iterate 2 (refine wpList_plainQ rfl (fun K Q' hK => ?_); go_simp; refine hK _ _ ?_; clear hK K; try clear Q')
                clear c_0_0
                -- stops at: eff:call (Go.Op.call {'callee': (Go.Callee.value (Go.Operand.func 15)), 'args': [(Go.Operand.tmp 85), (Go.Operand.tmp 86)], 'argTypes': [30, 48]}) slot 87
                by_cases h0 : sX = 0
                · have hmY : Hp.min? Y = none := by
                    have := Hp.isSome_iff hY.ok
                    rw [sY, h0] at this
                    cases hh : Hp.min? Y with
                    | none => rfl
                    | some y => rw [hh] at this; cases this
                  subst h0
                  refine wpList_plainQ rfl (fun K Q' hK => ?_); go_simp
                  refine (hpop_ok (m := some bM) (h19.pre_at (i := 1) rfl) (by omega) hY_19).mono ?_
                  rintro e wPo ⟨rPo, HPo, rfl, hpPo, hPo⟩
                  rw [hpc.out, hpd.out] at hpPo
                  simp only [hmY]
                  try simp only [Option.isSome_some]
                  try simp only [Option.isSome_none]
                  have h20 := h19.call_at (i := 1) rfl hpPo
                  have hY_20 := hY_19.mono hpPo.le
                  refine hK _ _ ?_; clear hK K; try clear Q'
                  iterate 3 (refine wpList_plainQ rfl (fun K Q' hK => ?_); go_simp; refine hK _ _ ?_; clear hK K; try clear Q')
                  refine wpList_plainQ rfl (fun K Q' hK => ?_); go_simp
                  refine h20.k_alloc (fun w21 h21 => ?_)
                  refine hK _ _ ?_; clear hK K; try clear Q'
                  have c_0 := h21.cell 2 rfl 0 rfl
                  have f_0 := h21.free 2 rfl 0
                  refine wpList_plainQ rfl (fun K Q' hK => ?_); go_simp
                  clear c_0 f_0
                  refine h21.k_set 2 rfl (fun w22 h22 => ?_)
                  refine hK _ _ ?_; clear hK K; try clear Q'
                  iterate 1 (refine wpList_plainQ rfl (fun K Q' hK => ?_); go_simp; refine hK _ _ ?_; clear hK K; try clear Q')
                  refine wpList_nil ?_
                  show Code.wp _ _ _ _ _
                  refine wp_seq ?_
                  refine wp_seq ?_
                  repeat (first | simp only [List.nil_append] at h22 | simp only [List.cons_append] at h22 | simp only [List.set_cons_zero] at h22 | simp only [List.set_cons_succ] at h22 | simp only [List.eraseIdx_zero] at h22 | simp only [List.tail_cons] at h22 | simp only [List.eraseIdx_cons_zero] at h22 | simp only [List.eraseIdx_cons_succ] at h22 | simp only [List.setIfInBounds_toArray] at h22)
                  refine wp_region_lit ?_
                  iterate 2 (refine wpList_plainQ rfl (fun K Q' hK => ?_); go_simp; refine hK _ _ ?_; clear hK K; try clear Q')
                  -- stops at: eff:call (Go.Op.call {'callee': (Go.Callee.value (Go.Operand.func 30)), 'args': [(Go.Operand.tmp 90), (Go.Operand.tmp 91)], 'argTypes': [48, 3]}) slot 92
                  refine wpList_plainQ rfl (fun K Q' hK => ?_); go_simp
                  refine (since_ok _ _ bM _ _ _ (h22.pre_at (i := 1) rfl)).mono ?_
                  rintro e wS6 ⟨rfl, hpS6⟩
                  rw [since_nat _ _ ps (by have := hcd.out; omega) (by have := hcd.out; omega) (by have := hcd.out; omega) (by have := hps.out; omega)]
                  have h23 := h22.call_at (i := 1) rfl hpS6
                  have hY_23 := hY_20.mono hpS6.le
                  have hPo_23 := hPo.mono hpS6.le
                  refine hK _ _ ?_; clear hK K; try clear Q'
                  iterate 4 (refine wpList_plainQ rfl (fun K Q' hK => ?_); go_simp; refine hK _ _ ?_; clear hK K; try clear Q')
                  have c_0_0 := h23.cell 0 rfl 0 rfl
                  first | go_skip | (iterate 2 (refine wpList_stepQ (o := { dst := _, op := _, type := _, pos := _, after := _, guard := some (6, false) }) (fun K Q' hK => ?_); go_simp; refine hK _ _ ?_; clear hK K; try clear Q')) | skip
                  clear c_0_0
                  -- stops at: eff:call (Go.Op.call {'callee': (Go.Callee.value (Go.Operand.func 19)), 'args': [(Go.Operand.tmp 98)], 'argTypes': [30]}) slot 99
                  refine wpList_stepQ (fun K Q' hK => ?_); go_simp
                  refine (hsize_ok h23.fits (by omega) hY_23).mono ?_
                  rintro e wZ2 ⟨HZ2, rfl, hpZ2⟩
                  rw [sY]
                  have h24 := h23.call0 hpZ2
                  have hY_24 := hY_23.mono hpZ2.le
                  have hPo_24 := hPo_23.mono hpZ2.le
                  refine hK _ _ ?_; clear hK K; try clear Q'
                  first | go_skip | (iterate 2 (refine wpList_stepQ (o := { dst := _, op := _, type := _, pos := _, after := _, guard := some (6, false) }) (fun K Q' hK => ?_); go_simp; refine hK _ _ ?_; clear hK K; try clear Q')) | skip
                  iterate 1 (refine wpList_plainQ rfl (fun K Q' hK => ?_); go_simp; refine hK _ _ ?_; clear hK K; try clear Q')
                  refine wpList_nil ?_
                  show Code.wp _ _ _ _ _
                  -- stops at: cond
                  refine wp_cond_false (rfl) ?_
                  refine wp_skip ?_
                  show Code.wp _ _ _ _ _
                  repeat (first | simp only [List.nil_append] at h24 | simp only [List.cons_append] at h24 | simp only [List.set_cons_zero] at h24 | simp only [List.set_cons_succ] at h24 | simp only [List.eraseIdx_zero] at h24 | simp only [List.tail_cons] at h24 | simp only [List.eraseIdx_cons_zero] at h24 | simp only [List.eraseIdx_cons_succ] at h24 | simp only [List.setIfInBounds_toArray] at h24)
                  refine wp_region_lit ?_
                  have c_2_0 := h24.cell 2 rfl 0 rfl
                  iterate 1 (refine wpList_plainQ rfl (fun K Q' hK => ?_); go_simp; refine hK _ _ ?_; clear hK K; try clear Q')
                  clear c_2_0
                  have c_0 := h24.cell 0 rfl 0 rfl
                  have f_0 := h24.free 0 rfl 0
                  refine wpList_plainQ rfl (fun K Q' hK => ?_); go_simp
                  clear c_0 f_0
                  refine h24.k_set 0 rfl (fun w25 h25 => ?_)
                  refine hK _ _ ?_; clear hK K; try clear Q'
                  refine wpList_nil ?_
                  show Code.wp _ _ _ _ _
                  repeat (first | simp only [List.nil_append] at h25 | simp only [List.cons_append] at h25 | simp only [List.set_cons_zero] at h25 | simp only [List.set_cons_succ] at h25 | simp only [List.eraseIdx_zero] at h25 | simp only [List.tail_cons] at h25 | simp only [List.eraseIdx_cons_zero] at h25 | simp only [List.eraseIdx_cons_succ] at h25 | simp only [List.setIfInBounds_toArray] at h25)
                  refine wp_region_lit ?_
                  iterate 3 (refine wpList_plainQ rfl (fun K Q' hK => ?_); go_simp; refine hK _ _ ?_; clear hK K; try clear Q')
                  refine wpList_nil ?_
                  -- stops at: end ('roundend',)
                  show _ ∧ _
                  go_roundw
                  case rel =>
                    refine ⟨k + 1, Hp.pop Y, rPo, _, c + mc + pc, d + pd, by omega, by simp, ?_, Hp.sk_pop skY.out, ?_, hPo_24, ?_⟩
                    · show _ ≤ _; rw [Hp.size_pop1 hY.ok]; omega
                    · have := hcd1.out; show _ ≤ _; omega
                    · rw [Int.natCast_add, Int.natCast_add, Int.natCast_add]
                      exact h25.take 2
                  case measure => simp [intOf]; omega
                · obtain ⟨y, hmY⟩ : ∃ y, Hp.min? Y = some y := by
                    have := Hp.isSome_iff hY.ok
                    rw [sY, show decide (0 < sX) = true from decide_eq_true (by omega)] at this
                    cases hh : Hp.min? Y with
                    | none => rw [hh] at this; cases this
                    | some y => exact ⟨y, rfl⟩
                  have ds : 0 < sX := by omega
                  refine wpList_plainQ rfl (fun K Q' hK => ?_); go_simp
                  refine (hpop_ok (m := some bM) (h19.pre_at (i := 1) rfl) (by omega) hY_19).mono ?_
                  rintro e wPo ⟨rPo, HPo, rfl, hpPo, hPo⟩
                  rw [hpc.out, hpd.out] at hpPo
                  simp only [hmY]
                  try simp only [Option.isSome_some]
                  try simp only [Option.isSome_none]
                  have h26 := h19.call_at (i := 1) rfl hpPo
                  have hY_26 := hY_19.mono hpPo.le
                  refine hK _ _ ?_; clear hK K; try clear Q'
                  iterate 3 (refine wpList_plainQ rfl (fun K Q' hK => ?_); go_simp; refine hK _ _ ?_; clear hK K; try clear Q')
                  refine wpList_plainQ rfl (fun K Q' hK => ?_); go_simp
                  refine h26.k_alloc (fun w27 h27 => ?_)
                  refine hK _ _ ?_; clear hK K; try clear Q'
                  have c_0 := h27.cell 2 rfl 0 rfl
                  have f_0 := h27.free 2 rfl 0
                  refine wpList_plainQ rfl (fun K Q' hK => ?_); go_simp
                  clear c_0 f_0
                  refine h27.k_set 2 rfl (fun w28 h28 => ?_)
                  refine hK _ _ ?_; clear hK K; try clear Q'
                  iterate 1 (refine wpList_plainQ rfl (fun K Q' hK => ?_); go_simp; refine hK _ _ ?_; clear hK K; try clear Q')
                  refine wpList_nil ?_
                  show Code.wp _ _ _ _ _
                  refine wp_seq ?_
                  refine wp_seq ?_
                  repeat (first | simp only [List.nil_append] at h28 | simp only [List.cons_append] at h28 | simp only [List.set_cons_zero] at h28 | simp only [List.set_cons_succ] at h28 | simp only [List.eraseIdx_zero] at h28 | simp only [List.tail_cons] at h28 | simp only [List.eraseIdx_cons_zero] at h28 | simp only [List.eraseIdx_cons_succ] at h28 | simp only [List.setIfInBounds_toArray] at h28)
                  refine wp_region_lit ?_
                  iterate 2 (refine wpList_plainQ rfl (fun K Q' hK => ?_); go_simp; refine hK _ _ ?_; clear hK K; try clear Q')
                  -- stops at: eff:call (Go.Op.call {'callee': (Go.Callee.value (Go.Operand.func 30)), 'args': [(Go.Operand.tmp 90), (Go.Operand.tmp 91)], 'argTypes': [48, 3]}) slot 92
                  refine wpList_plainQ rfl (fun K Q' hK => ?_); go_simp
                  refine (since_ok _ _ bM _ _ _ (h28.pre_at (i := 1) rfl)).mono ?_
                  rintro e wS6 ⟨rfl, hpS6⟩
                  rw [since_nat _ _ ps (by have := hcd.out; omega) (by have := hcd.out; omega) (by have := hcd.out; omega) (by have := hps.out; omega)]
                  have h29 := h28.call_at (i := 1) rfl hpS6
                  have hY_29 := hY_26.mono hpS6.le
                  have hPo_29 := hPo.mono hpS6.le
                  refine hK _ _ ?_; clear hK K; try clear Q'
                  iterate 4 (refine wpList_plainQ rfl (fun K Q' hK => ?_); go_simp; refine hK _ _ ?_; clear hK K; try clear Q')
                  have c_0_0 := h29.cell 0 rfl 0 rfl
                  first | go_skip | (iterate 2 (refine wpList_stepQ (o := { dst := _, op := _, type := _, pos := _, after := _, guard := some (6, false) }) (fun K Q' hK => ?_); go_simp; refine hK _ _ ?_; clear hK K; try clear Q')) | skip
                  clear c_0_0
                  -- stops at: eff:call (Go.Op.call {'callee': (Go.Callee.value (Go.Operand.func 19)), 'args': [(Go.Operand.tmp 98)], 'argTypes': [30]}) slot 99
                  refine wpList_stepQ (fun K Q' hK => ?_); go_simp
                  refine (hsize_ok h29.fits (by omega) hY_29).mono ?_
                  rintro e wZ2 ⟨HZ2, rfl, hpZ2⟩
                  rw [sY]
                  have h30 := h29.call0 hpZ2
                  have hY_30 := hY_29.mono hpZ2.le
                  have hPo_30 := hPo_29.mono hpZ2.le
                  refine hK _ _ ?_; clear hK K; try clear Q'
                  first | go_skip | (iterate 2 (refine wpList_stepQ (o := { dst := _, op := _, type := _, pos := _, after := _, guard := some (6, false) }) (fun K Q' hK => ?_); go_simp; refine hK _ _ ?_; clear hK K; try clear Q')) | skip
                  iterate 1 (refine wpList_plainQ rfl (fun K Q' hK => ?_); go_simp; refine hK _ _ ?_; clear hK K; try clear Q')
                  refine wpList_nil ?_
                  show Code.wp _ _ _ _ _
                  -- stops at: cond
                  refine wp_cond_false (rfl) ?_
                  refine wp_skip ?_
                  show Code.wp _ _ _ _ _
                  repeat (first | simp only [List.nil_append] at h30 | simp only [List.cons_append] at h30 | simp only [List.set_cons_zero] at h30 | simp only [List.set_cons_succ] at h30 | simp only [List.eraseIdx_zero] at h30 | simp only [List.tail_cons] at h30 | simp only [List.eraseIdx_cons_zero] at h30 | simp only [List.eraseIdx_cons_succ] at h30 | simp only [List.setIfInBounds_toArray] at h30)
                  refine wp_region_lit ?_
                  have c_2_0 := h30.cell 2 rfl 0 rfl
                  iterate 1 (refine wpList_plainQ rfl (fun K Q' hK => ?_); go_simp; refine hK _ _ ?_; clear hK K; try clear Q')
                  clear c_2_0
                  have c_0 := h30.cell 0 rfl 0 rfl
                  have f_0 := h30.free 0 rfl 0
                  refine wpList_plainQ rfl (fun K Q' hK => ?_); go_simp
                  clear c_0 f_0
                  refine h30.k_set 0 rfl (fun w31 h31 => ?_)
                  refine hK _ _ ?_; clear hK K; try clear Q'
                  refine wpList_nil ?_
                  show Code.wp _ _ _ _ _
                  repeat (first | simp only [List.nil_append] at h31 | simp only [List.cons_append] at h31 | simp only [List.set_cons_zero] at h31 | simp only [List.set_cons_succ] at h31 | simp only [List.eraseIdx_zero] at h31 | simp only [List.tail_cons] at h31 | simp only [List.eraseIdx_cons_zero] at h31 | simp only [List.eraseIdx_cons_succ] at h31 | simp only [List.setIfInBounds_toArray] at h31)
                  refine wp_region_lit ?_
                  iterate 3 (refine wpList_plainQ rfl (fun K Q' hK => ?_); go_simp; refine hK _ _ ?_; clear hK K; try clear Q')
                  refine wpList_nil ?_
                  -- stops at: end ('roundend',)
                  show _ ∧ _
                  go_roundw
                  case rel =>
                    refine ⟨k + 1, Hp.pop Y, rPo, _, c + mc + pc, d + pd, by omega, by simp, ?_, Hp.sk_pop skY.out, ?_, hPo_30, ?_⟩
                    · show _ ≤ _; rw [Hp.size_pop1 hY.ok]; omega
                    · have := hcd1.out; show _ ≤ _; omega
                    · rw [Int.natCast_add, Int.natCast_add, Int.natCast_add]
                      exact h31.take 2
                  case measure => simp [intOf]; omega
          · obtain rfl : k = k9 := by omega
            refine wp_seq ?_
            refine wp_seq ?_
            repeat (first | simp only [List.nil_append] at hs | simp only [List.cons_append] at hs | simp only [List.set_cons_zero] at hs | simp only [List.set_cons_succ] at hs | simp only [List.eraseIdx_zero] at hs | simp only [List.tail_cons] at hs | simp only [List.eraseIdx_cons_zero] at hs | simp only [List.eraseIdx_cons_succ] at hs | simp only [List.setIfInBounds_toArray] at hs)
            refine wp_region_lit ?_
            iterate 5 (refine wpList_plainQ rfl (fun K Q' hK => ?_); go_simp; refine hK _ _ ?_; clear hK K; try clear Q')
            refine wpList_nil ?_
            show Code.wp _ _ _ _ _
            -- stops at: cond
            refine wp_cond_false (rfl) ?_
            refine wp_exit ?_
            show Code.wp _ _ _ _ _
            refine wp_seq ?_
            refine wp_region_lit ?_
            iterate 1 (refine wpList_plainQ rfl (fun K Q' hK => ?_); go_simp; refine hK _ _ ?_; clear hK K; try clear Q')
            refine wpList_nil ?_
            show Code.wp _ _ _ _ _
            -- stops at: ret
            refine wp_ret ?_
            go_ret
            exact ⟨rfl, hs.post.keep⟩
  · have hl1 : decide ((100 : Int) < (a.length : Int)) = true := by simp; omega
    go_enter Tryd.func12, Tryd.ntmps12
    have h0 := St.start hpre
    refine wp_seq ?_
    repeat (first | simp only [List.nil_append] at h0 | simp only [List.cons_append] at h0 | simp only [List.set_cons_zero] at h0 | simp only [List.set_cons_succ] at h0 | simp only [List.eraseIdx_zero] at h0 | simp only [List.tail_cons] at h0 | simp only [List.eraseIdx_cons_zero] at h0 | simp only [List.eraseIdx_cons_succ] at h0 | simp only [List.setIfInBounds_toArray] at h0)
    refine wp_region_lit ?_
    iterate 1 (refine wpList_plainQ rfl (fun K Q' hK => ?_); go_simp; refine hK _ _ ?_; clear hK K; try clear Q')
    refine wpList_nil ?_
    show Code.wp _ _ _ _ _
    refine wp_seq ?_
    refine wp_region_lit ?_
    -- stops at: eff:call (Go.Op.call {'callee': (Go.Callee.value (Go.Operand.func 13)), 'args': [], 'argTypes': []}) slot 16
    refine wpList_plainQ rfl (fun K Q' hK => ?_); go_simp
    refine (awake_ok H _ h0.fits htab).mono ?_
    rintro e wAw ⟨HAw, rfl, hpAw⟩
    have h1 := h0.call0 hpAw
    have htab_1 := htab.mono hpAw.le
    refine hK _ _ ?_; clear hK K; try clear Q'
    iterate 1 (refine wpList_plainQ rfl (fun K Q' hK => ?_); go_simp; refine hK _ _ ?_; clear hK K; try clear Q')
    refine wpList_nil ?_
    show Code.wp _ _ _ _ _
    refine wp_seq ?_
    refine wp_seq ?_
    repeat (first | simp only [List.nil_append] at h1 | simp only [List.cons_append] at h1 | simp only [List.set_cons_zero] at h1 | simp only [List.set_cons_succ] at h1 | simp only [List.eraseIdx_zero] at h1 | simp only [List.tail_cons] at h1 | simp only [List.eraseIdx_cons_zero] at h1 | simp only [List.eraseIdx_cons_succ] at h1 | simp only [List.setIfInBounds_toArray] at h1)
    refine wp_region_lit ?_
    iterate 2 (refine wpList_plainQ rfl (fun K Q' hK => ?_); go_simp; refine hK _ _ ?_; clear hK K; try clear Q')
    refine wpList_nil ?_
    show Code.wp _ _ _ _ _
    -- stops at: cond
    refine wp_cond_false (rfl) ?_
    refine wp_skip ?_
    show Code.wp _ _ _ _ _
    refine wp_seq ?_
    refine wp_seq ?_
    refine wp_region_lit ?_
    iterate 3 (refine wpList_plainQ rfl (fun K Q' hK => ?_); go_simp; refine hK _ _ ?_; clear hK K; try clear Q')
    refine wpList_nil ?_
    show Code.wp _ _ _ _ _
    -- stops at: cond
    refine wp_cond_true (rfl) ?_
    refine wp_seq ?_
    refine wp_region_lit ?_
    iterate 1 (refine wpList_plainQ rfl (fun K Q' hK => ?_); go_simp; refine hK _ _ ?_; clear hK K; try clear Q')
    refine wpList_nil ?_
    show Code.wp _ _ _ _ _
    -- stops at: ret
    refine wp_ret ?_
    go_ret
    exact ⟨rfl, h1.post.keep⟩
end Go.Proofs.YtdjbkdhjpkgajaaDoor
