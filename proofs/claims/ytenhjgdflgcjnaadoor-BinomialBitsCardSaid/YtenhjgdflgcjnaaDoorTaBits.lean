/-
BinomialBits: its walk (as many trees as bits; few steps).
-/
import Derived.Test.YtenhjgdflgcjnaaDoorQbPlain
import Derived.Test.YtenhjgdflgcjnaaDoorMfBits
import Derived.Test.YtenhjgdflgcjnaaDoorGdOrdS
namespace Go.Proofs.YtenhjgdflgcjnaaDoor
open Go Go.RowKit
set_option linter.unusedVariables false

theorem bits_mono {a b : Nat} (h : a ≤ b) : bits a ≤ bits b := by
  induction b using Nat.strongRecOn generalizing a with
  | _ b ih =>
    by_cases ha : a = 0
    · subst ha; rw [bits_zero]; omega
    · rw [bits_pos ha, bits_pos (n := b) (by omega)]
      have := ih (b / 2) (by omega) (a := a / 2) (by omega)
      omega
namespace Hp
/-- Ranks rise, each tree is complete. -/
def bi (t : Hp) : Prop := Rw.up 0 t
theorem bi_nil : bi nil := trivial
theorem bi_insert (x : El) {t : Hp} (h : bi t) : bi (insert x t) := Rw.put_up kf (Tr.bi_leaf x) (Nat.zero_le _) h
theorem bi_ofL (l : List El) : bi (ofL l) := ofL_ind (p := fun _ t => bi t) bi_nil (fun _ x _ h => bi_insert x h) l
theorem bi_pop {t : Hp} (h : bi t) : bi (pop t) := by
  cases hm : Rw.minT kf t with
  | none =>
    show bi (Rw.pop t)
    unfold Rw.pop
    rw [hm]
    exact bi_nil
  | some tr =>
    rw [pop_some hm]
    exact Rw.meld_up kf _ _ 0 (Rw.up_kids (Rw.up_mem h tr (Rw.minT_mem kf hm)).2).1 (Rw.up_erase h _)
theorem min_count {t : Hp} (h : bi t) : minC t = ones (size t) - 1 := by
  show List.length t - 1 = _
  rw [Rw.up_count h]
theorem pop_steps {t : Hp} (h : bi t) : popC t + popD t ≤ 14 * bits (size t) := by
  have hc := Rw.up_count h
  have ho := ones_le (Rw.size t)
  have key : Rw.popN t ≤ 2 * bits (Rw.size t) := by
    unfold Rw.popN
    cases hm : Rw.minT kf t with
    | none => exact Nat.zero_le _
    | some tr =>
      have hmem := Rw.minT_mem kf hm
      have hb := Rw.up_mem h tr hmem
      have h1 := Rw.meld_length kf tr.k.toL.reverse (t.eraseIdx (Rw.least kf t))
      have h2 : (t.eraseIdx (Rw.least kf t)).length ≤ List.length t := (List.eraseIdx_sublist t _).length_le
      have h3 : tr.rank < bits (Rw.size t) := bits_of_pow (by
        rw [← Tr.bi_size hb]
        obtain ⟨i, hi⟩ := List.getElem?_of_mem hmem
        exact size_mem hi)
      rw [List.length_reverse, RT.toL_length] at h1
      have h4 : tr.k.len = tr.rank := rfl
      simp only
      omega
  show (List.length t - 1) + Rw.popN t + Rw.popN t ≤ 14 * bits (Rw.size t)
  omega
theorem size_pop1 {t : Hp} (h : ok t) : size (pop t) = size t - 1 := by
  cases hm : min? t with
  | none =>
    have h1 := min_none h hm
    rw [pop_none h hm]
    show (els t).length = (els t).length - 1
    rw [h1]; rfl
  | some x =>
    have := (min_perm h hm).length_eq
    show (els (pop t)).length = (els t).length - 1
    simp at this
    omega
end Hp
/-- How many bits there are at most. -/
theorem bits_le (n : Nat) : bits n ≤ n := by
  induction n using Nat.strongRecOn with
  | _ n ih =>
    by_cases h : n = 0
    · subst h; rw [bits_zero]; omega
    · rw [bits_pos h]
      have := ih (n / 2) (by omega)
      omega
theorem since_nat (s n : Int) (e : Nat) (h0 : 0 ≤ n) (h1 : n ≤ 1000000000) (h2 : e ≤ 1000000000) (hs : s = n + (e : Int)) : IntKind.i64.wrap (IntKind.i64.wrap s - n) = (e : Int) := by
  subst hs
  rw [IntWalk.i64_in (n + (e : Int)) (by omega), IntWalk.i64_in _ (by omega)]
  omega

set_option maxRecDepth 100000 in
set_option maxHeartbeats 8000000 in
theorem bits_walk (H : GH) (w : World) (v : Value) (a : List El) (n : Int) (hf : Fits w H) (htab : TabH H) (ha : ElRep H v a) (fa : ∀ x ∈ a, El.fits x) (hn : 0 ≤ n ∧ n ≤ 255) :
    Calls Tryd.prog 3 #[v, .int .u8 n] w fun e w' => e = .returned (.bool true) ∧ Keep none w w' := by
  have hpre : Pre w H none 0 0 := Pre.none hf 0 0
  obtain ⟨aa, ca, rfl, _, _⟩ := ha.nil_or
  obtain ⟨n, rfl⟩ := Int.eq_ofNat_of_zero_le hn.1
  have en : IntKind.i64.wrap (n : Int) = (n : Int) := IntWalk.i64_in _ (by omega)
  obtain ⟨k8, hk8, hk8l⟩ : ∃ k : Nat, (n : Int).tmod 8 = (k : Int) ∧ k < 8 := ⟨n % 8, rfl, Nat.mod_lt _ (by omega)⟩
  by_cases hl : a.length ≤ 100
  · have hl1 : decide ((100 : Int) < (a.length : Int)) = false := by simp; omega
    go_enter Tryd.func3, Tryd.ntmps3
    have h0 := St.start hpre
    refine wp_seq ?_
    repeat (first | simp only [List.nil_append] at h0 | simp only [List.cons_append] at h0 | simp only [List.set_cons_zero] at h0 | simp only [List.set_cons_succ] at h0 | simp only [List.eraseIdx_zero] at h0 | simp only [List.tail_cons] at h0 | simp only [List.eraseIdx_cons_zero] at h0 | simp only [List.eraseIdx_cons_succ] at h0 | simp only [List.setIfInBounds_toArray] at h0)
    refine wp_region_lit ?_
    iterate 1 (refine wpList_plainQ rfl (fun K Q' hK => ?_); go_simp; refine hK _ _ ?_; clear hK K; try clear Q')
    refine wpList_nil ?_
    show Code.wp _ _ _ _ _
    refine wp_seq ?_
    refine wp_region_lit ?_
    -- stops at: eff:call (Go.Op.call {'callee': (Go.Callee.value (Go.Operand.func 5)), 'args': [], 'argTypes': []}) slot 18
    refine wpList_plainQ rfl (fun K Q' hK => ?_); go_simp
    refine (awake_ok H _ h0.fits htab).mono ?_
    rintro e wAw ⟨HAw, rfl, hpAw⟩
    have h1 := h0.call0 hpAw
    have htab_1 := htab.mono hpAw.le
    have ha_1 := ha.mono hpAw.le
    refine hK _ _ ?_; clear hK K; try clear Q'
    iterate 1 (refine wpList_plainQ rfl (fun K Q' hK => ?_); go_simp; refine hK _ _ ?_; clear hK K; try clear Q')
    refine wpList_nil ?_
    show Code.wp _ _ _ _ _
    refine wp_seq ?_
    refine wp_seq ?_
    repeat (first | simp only [List.nil_append] at h1 | simp only [List.cons_append] at h1 | simp only [List.set_cons_zero] at h1 | simp only [List.set_cons_succ] at h1 | simp only [List.eraseIdx_zero] at h1 | simp only [List.tail_cons] at h1 | simp only [List.eraseIdx_cons_zero] at h1 | simp only [List.eraseIdx_cons_succ] at h1 | simp only [List.setIfInBounds_toArray] at h1)
    refine wp_region_lit ?_
    iterate 2 (refine wpList_plainQ rfl (fun K Q' hK => ?_); go_simp; refine hK _ _ ?_; clear hK K; try clear Q')
    refine wpList_nil ?_
    show Code.wp _ _ _ _ _
    -- stops at: cond
    refine wp_cond_false (rfl) ?_
    refine wp_skip ?_
    show Code.wp _ _ _ _ _
    refine wp_seq ?_
    refine wp_seq ?_
    refine wp_region_lit ?_
    iterate 3 (refine wpList_plainQ rfl (fun K Q' hK => ?_); go_simp; refine hK _ _ ?_; clear hK K; try clear Q')
    refine wpList_nil ?_
    show Code.wp _ _ _ _ _
    -- stops at: cond
    refine wp_cond_false (rfl) ?_
    refine wp_skip ?_
    show Code.wp _ _ _ _ _
    refine wp_seq ?_
    refine wp_region_lit ?_
    iterate 1 (refine wpList_plainQ rfl (fun K Q' hK => ?_); go_simp; refine hK _ _ ?_; clear hK K; try clear Q')
    -- stops at: eff:call (Go.Op.call {'callee': (Go.Callee.value (Go.Operand.func 6)), 'args': [(Go.Operand.const (Go.Value.pointer none)), (Go.Operand.tmp 24)], 'argTypes': [32, 22]}) slot 25
    refine wpList_plainQ rfl (fun K Q' hK => ?_); go_simp
    refine (hof_ok (m := none) (xs := a) fa h1.pre (by omega) ha_1).mono ?_
    rintro e wXx ⟨rXx, HXx, rfl, hpXx, hXx⟩
    obtain ⟨Xx, eXx⟩ : ∃ hp0, Hid (Hp.ofL a = hp0) := ⟨_, show _ = _ from rfl⟩
    rw [eXx.out] at hXx
    have oXx := hXx.ok
    have pXx : Hid ((Hp.els Xx).Perm (a)) := by rw [← eXx.out]; exact Hp.els_ofL _
    have sXx : Hp.size Xx = (a).length := pXx.out.length_eq
    have h2 := h1.call0 hpXx
    have htab_2 := htab_1.mono hpXx.le
    have ha_2 := ha_1.mono hpXx.le
    refine hK _ _ ?_; clear hK K; try clear Q'
    refine wpList_plainQ rfl (fun K Q' hK => ?_); go_simp
    refine h2.k_alloc (fun w3 h3 => ?_)
    refine hK _ _ ?_; clear hK K; try clear Q'
    have c_0 := h3.cell 0 rfl 0 rfl
    have f_0 := h3.free 0 rfl 0
    refine wpList_plainQ rfl (fun K Q' hK => ?_); go_simp
    clear c_0 f_0
    refine h3.k_set 0 rfl (fun w4 h4 => ?_)
    refine hK _ _ ?_; clear hK K; try clear Q'
    refine wpList_nil ?_
    show Code.wp _ _ _ _ _
    refine wp_seq ?_
    refine wp_seq ?_
    repeat (first | simp only [List.nil_append] at h4 | simp only [List.cons_append] at h4 | simp only [List.set_cons_zero] at h4 | simp only [List.set_cons_succ] at h4 | simp only [List.eraseIdx_zero] at h4 | simp only [List.tail_cons] at h4 | simp only [List.eraseIdx_cons_zero] at h4 | simp only [List.eraseIdx_cons_succ] at h4 | simp only [List.setIfInBounds_toArray] at h4)
    refine wp_region_lit ?_
    iterate 1 (refine wpList_plainQ rfl (fun K Q' hK => ?_); go_simp; refine hK _ _ ?_; clear hK K; try clear Q')
    refine wpList_nil ?_
    show Code.wp _ _ _ _ _
    refine wp_block ?_
    -- stops at: loop
    have kX : Hid (Hp.bi Xx) := by rw [← eXx.out]; exact Hp.bi_ofL a
    obtain ⟨la, hla⟩ : ∃ m, Hid (a.length = m) := ⟨_, show _ = _ from rfl⟩
    go_loopw [7] (fun v7 wr => ∃ (k : Nat) (X : Hp) (q : Option Addr) (H' : GH), k ≤ k8 ∧ v7 = .int .i64 k ∧ Hid (Hp.size X = la - k) ∧ Hid (Hp.bi X) ∧ HpR H' q X ∧ St w H none 0 0 wr H' [(wXx.heap.size, .cells #[.pointer q] 28)] []) (fun v7 _ => k8 - (intOf v7).toNat)
    case atStart => exact ⟨0, Xx, rXx, _, by omega, rfl, by show _ = _; have := hla.out; omega, kX, hXx, h4⟩
    case round =>
      obtain ⟨k, X, q, H7, hk, rfl, hsX, bX, hX, hs⟩ := hrel
      have hlal : la ≤ 100 := by have := hla.out; omega
      by_cases hlt : k < k8
      · skip
        as_aux_lemma =>
        have e1 : IntKind.i64.wrap ((k : Int) + 1) = (k : Int) + 1 := IntWalk.i64_in _ (by omega)
        refine wp_seq ?_
        refine wp_seq ?_
        repeat (first | simp only [List.nil_append] at hs | simp only [List.cons_append] at hs | simp only [List.set_cons_zero] at hs | simp only [List.set_cons_succ] at hs | simp only [List.eraseIdx_zero] at hs | simp only [List.tail_cons] at hs | simp only [List.eraseIdx_cons_zero] at hs | simp only [List.eraseIdx_cons_succ] at hs | simp only [List.setIfInBounds_toArray] at hs)
        refine wp_region_lit ?_
        iterate 5 (refine wpList_plainQ rfl (fun K Q' hK => ?_); go_simp; refine hK _ _ ?_; clear hK K; try clear Q')
        refine wpList_nil ?_
        show Code.wp _ _ _ _ _
        -- stops at: cond
        refine wp_cond_true (rfl) ?_
        refine wp_skip ?_
        show Code.wp _ _ _ _ _
        refine wp_seq ?_
        refine wp_block ?_
        refine wp_seq ?_
        refine wp_region_lit ?_
        have c_0_0 := hs.cell 0 rfl 0 rfl
        iterate 1 (refine wpList_plainQ rfl (fun K Q' hK => ?_); go_simp; refine hK _ _ ?_; clear hK K; try clear Q')
        clear c_0_0
        -- stops at: eff:call (Go.Op.call {'callee': (Go.Callee.value (Go.Operand.func 7)), 'args': [(Go.Operand.tmp 34), (Go.Operand.const (Go.Value.pointer none))], 'argTypes': [28, 32]}) slot 35
        refine wpList_plainQ rfl (fun K Q' hK => ?_); go_simp
        refine (hpop_ok (m := none) hs.pre (by have := hsX.out; omega) hX).mono ?_
        rintro e wP ⟨r1, H8, rfl, hpP, hP⟩
        have h5 := hs.call0 hpP
        refine hK _ _ ?_; clear hK K; try clear Q'
        iterate 3 (refine wpList_plainQ rfl (fun K Q' hK => ?_); go_simp; refine hK _ _ ?_; clear hK K; try clear Q')
        refine wpList_plainQ rfl (fun K Q' hK => ?_); go_simp
        refine h5.k_alloc (fun w6 h6 => ?_)
        refine hK _ _ ?_; clear hK K; try clear Q'
        have c_0 := h6.cell 1 rfl 0 rfl
        have f_0 := h6.free 1 rfl 0
        refine wpList_plainQ rfl (fun K Q' hK => ?_); go_simp
        clear c_0 f_0
        refine h6.k_set 1 rfl (fun w7 h7 => ?_)
        refine hK _ _ ?_; clear hK K; try clear Q'
        iterate 1 (refine wpList_plainQ rfl (fun K Q' hK => ?_); go_simp; refine hK _ _ ?_; clear hK K; try clear Q')
        refine wpList_nil ?_
        show Code.wp _ _ _ _ _
        repeat (first | simp only [List.nil_append] at h7 | simp only [List.cons_append] at h7 | simp only [List.set_cons_zero] at h7 | simp only [List.set_cons_succ] at h7 | simp only [List.eraseIdx_zero] at h7 | simp only [List.tail_cons] at h7 | simp only [List.eraseIdx_cons_zero] at h7 | simp only [List.eraseIdx_cons_succ] at h7 | simp only [List.setIfInBounds_toArray] at h7)
        refine wp_region_lit ?_
        have c_1_0 := h7.cell 1 rfl 0 rfl
        iterate 1 (refine wpList_plainQ rfl (fun K Q' hK => ?_); go_simp; refine hK _ _ ?_; clear hK K; try clear Q')
        clear c_1_0
        have c_0 := h7.cell 0 rfl 0 rfl
        have f_0 := h7.free 0 rfl 0
        refine wpList_plainQ rfl (fun K Q' hK => ?_); go_simp
        clear c_0 f_0
        refine h7.k_set 0 rfl (fun w8 h8 => ?_)
        refine hK _ _ ?_; clear hK K; try clear Q'
        refine wpList_nil ?_
        show Code.wp _ _ _ _ _
        repeat (first | simp only [List.nil_append] at h8 | simp only [List.cons_append] at h8 | simp only [List.set_cons_zero] at h8 | simp only [List.set_cons_succ] at h8 | simp only [List.eraseIdx_zero] at h8 | simp only [List.tail_cons] at h8 | simp only [List.eraseIdx_cons_zero] at h8 | simp only [List.eraseIdx_cons_succ] at h8 | simp only [List.setIfInBounds_toArray] at h8)
        refine wp_region_lit ?_
        iterate 3 (refine wpList_plainQ rfl (fun K Q' hK => ?_); go_simp; refine hK _ _ ?_; clear hK K; try clear Q')
        refine wpList_nil ?_
        -- stops at: end ('roundend',)
        show _ ∧ _
        go_roundw
        case rel => exact ⟨k + 1, Hp.pop X, r1, H8, by omega, by simp, by show _ = _; rw [Hp.size_pop1 hX.ok, hsX.out]; omega, Hp.bi_pop bX.out, hP, h8.take 1⟩
        case measure => simp [intOf]; omega
      · obtain rfl : k = k8 := by omega
        obtain ⟨sz, hsz⟩ : ∃ m, Hid (la - k = m) := ⟨_, show _ = _ from rfl⟩
        have hXs : Hid (Hp.size X = sz) := by show _ = _; rw [hsX.out, hsz.out]
        have hszl : sz ≤ 100 := by have := hsz.out; omega
        rw [hla.out]
        have e2 : IntKind.i64.wrap ((la : Int) - (k : Int)) = (la : Int) - (k : Int) := IntWalk.i64_in _ (by omega)
        have hmax : max ((la : Int) - (k : Int)) 0 = (sz : Int) := by have := hsz.out; omega
        clear hlt
        refine wp_seq ?_
        refine wp_seq ?_
        repeat (first | simp only [List.nil_append] at hs | simp only [List.cons_append] at hs | simp only [List.set_cons_zero] at hs | simp only [List.set_cons_succ] at hs | simp only [List.eraseIdx_zero] at hs | simp only [List.tail_cons] at hs | simp only [List.eraseIdx_cons_zero] at hs | simp only [List.eraseIdx_cons_succ] at hs | simp only [List.setIfInBounds_toArray] at hs)
        refine wp_region_lit ?_
        iterate 5 (refine wpList_plainQ rfl (fun K Q' hK => ?_); go_simp; refine hK _ _ ?_; clear hK K; try clear Q')
        refine wpList_nil ?_
        show Code.wp _ _ _ _ _
        -- stops at: cond
        refine wp_cond_false (rfl) ?_
        refine wp_exit ?_
        show Code.wp _ _ _ _ _
        refine wp_seq ?_
        refine wp_region_lit ?_
        iterate 8 (refine wpList_plainQ rfl (fun K Q' hK => ?_); go_simp; refine hK _ _ ?_; clear hK K; try clear Q')
        refine wpList_nil ?_
        show Code.wp _ _ _ _ _
        refine wp_seq ?_
        refine wp_region_lit ?_
        iterate 1 (refine wpList_plainQ rfl (fun K Q' hK => ?_); go_simp; refine hK _ _ ?_; clear hK K; try clear Q')
        refine wpList_nil ?_
        show Code.wp _ _ _ _ _
        refine wp_seq ?_
        refine wp_region_lit ?_
        iterate 1 (refine wpList_plainQ rfl (fun K Q' hK => ?_); go_simp; refine hK _ _ ?_; clear hK K; try clear Q')
        refine wpList_nil ?_
        show Code.wp _ _ _ _ _
        refine wp_seq ?_
        refine wp_seq ?_
        refine wp_region_lit ?_
        iterate 2 (refine wpList_plainQ rfl (fun K Q' hK => ?_); go_simp; refine hK _ _ ?_; clear hK K; try clear Q')
        refine wpList_nil ?_
        show Code.wp _ _ _ _ _
        refine wp_block ?_
        -- stops at: loop
        obtain ⟨bt, hbt⟩ : ∃ m, Hid (bits sz = m) := ⟨_, show _ = _ from rfl⟩
        obtain ⟨ot, hot⟩ : ∃ m, Hid (ones sz = m) := ⟨_, show _ = _ from rfl⟩
        have hbtl : bt ≤ 100 := by have := bits_le sz; have := hbt.out; omega
        have hotl : ot ≤ 100 := by have := ones_le sz; have := hbt.out; have := hot.out; omega
        go_loopw [11, 12, 13] (fun v11 v12 v13 wr => ∃ kk bb oo : Nat, v13 = .int .i64 kk ∧ v12 = .int .i64 bb ∧ v11 = .int .i64 oo ∧ Hid (bb + bits kk = bt) ∧ Hid (oo + ones kk = ot) ∧ kk ≤ sz ∧ St w H none 0 0 wr H7 [(wXx.heap.size, .cells #[.pointer q] 28)] []) (fun _ _ v13 _ => (intOf v13).toNat)
        case atStart => exact ⟨sz, 0, 0, rfl, rfl, rfl, by show _ = _; have := hbt.out; omega, by show _ = _; have := hot.out; omega, Nat.le_refl _, hs⟩
        case round =>
          clear hs
          obtain ⟨kk, bb, oo, rfl, rfl, rfl, hbk, hok, hkl, hs⟩ := hrel
          by_cases hk0 : 0 < kk
          · have hbp := bits_pos (n := kk) (by omega)
            have hop := ones_pos (n := kk) (by omega)
            obtain ⟨kh, hkh⟩ : ∃ n, Hid (kk / 2 = n) := ⟨_, show _ = _ from rfl⟩
            obtain ⟨kr, hkr⟩ : ∃ n, Hid (kk % 2 = n) := ⟨_, show _ = _ from rfl⟩
            have hq2 : Int.tdiv (kk : Int) 2 = (kh : Int) := by rw [← hkh.out]; rfl
            have hr2 : Int.tmod (kk : Int) 2 = (kr : Int) := by rw [← hkr.out]; rfl
            have hq3 : IntKind.i64.wrap (kh : Int) = (kh : Int) := IntWalk.i64_in _ (by have := hkh.out; omega)
            have hb1 : IntKind.i64.wrap ((bb : Int) + 1) = (bb : Int) + 1 := IntWalk.i64_in _ (by have := hbk.out; omega)
            obtain ⟨o2, ho2⟩ : ∃ n, Hid (oo + kr = n) := ⟨_, show _ = _ from rfl⟩
            have ho1 : IntKind.i64.wrap ((oo : Int) + (kr : Int)) = (o2 : Int) := by have := hok.out; have := ho2.out; have := hkr.out; rw [IntWalk.i64_in _ (by omega)]; omega
            have hbk2 : Hid (bb + 1 + bits kh = bt) := by have := hbk.out; have := hkh.out; show _ = _; rw [← this]; omega
            have hok2 : Hid (o2 + ones kh = ot) := by have := hok.out; have h6 := hkr.out; have h7 := ho2.out; have h8 := hkh.out; show _ = _; rw [← h8]; omega
            have hkh2 : kh < kk := by have := hkh.out; omega
            clear hbp hop
            refine wp_seq ?_
            refine wp_seq ?_
            refine wp_region_lit ?_
            iterate 2 (refine wpList_plainQ rfl (fun K Q' hK => ?_); go_simp; refine hK _ _ ?_; clear hK K; try clear Q')
            refine wpList_nil ?_
            show Code.wp _ _ _ _ _
            -- stops at: cond
            refine wp_cond_true (rfl) ?_
            refine wp_skip ?_
            show Code.wp _ _ _ _ _
            refine wp_seq ?_
            refine wp_block ?_
            refine wp_seq ?_
            refine wp_region_lit ?_
            iterate 5 (refine wpList_plainQ rfl (fun K Q' hK => ?_); go_simp; refine hK _ _ ?_; clear hK K; try clear Q')
            refine wpList_nil ?_
            show Code.wp _ _ _ _ _
            refine wp_region_lit ?_
            iterate 3 (refine wpList_plainQ rfl (fun K Q' hK => ?_); go_simp; refine hK _ _ ?_; clear hK K; try clear Q')
            refine wpList_nil ?_
            show Code.wp _ _ _ _ _
            refine wp_region_lit ?_
            iterate 3 (refine wpList_plainQ rfl (fun K Q' hK => ?_); go_simp; refine hK _ _ ?_; clear hK K; try clear Q')
            refine wpList_nil ?_
            -- stops at: end ('roundend',)
            show _ ∧ _
            go_roundw
            case rel => exact ⟨kh, bb + 1, o2, rfl, by simp, rfl, hbk2, hok2, by omega, hs⟩
            case measure => simp [intOf]; omega
          · obtain rfl : kk = 0 := by omega
            obtain rfl : bb = bt := by have := hbk.out; rw [bits_zero] at this; omega
            obtain rfl : oo = ot := by have := hok.out; rw [ones_zero] at this; omega
            obtain ⟨mc, hmc⟩ : ∃ m, Hid (Hp.minC X = m) := ⟨_, show _ = _ from rfl⟩
            have hmo : Hid (mc = oo - 1) := by show _ = _; rw [← hmc.out, Hp.min_count bX.out, hXs.out, hot.out]
            have em : IntKind.i64.wrap (0 + (mc : Int) + 0) = (mc : Int) := by have := hmo.out; rw [IntWalk.i64_in _ (by omega)]; omega
            have eo : IntKind.i64.wrap ((oo : Int) - 1) = (oo : Int) - 1 := IntWalk.i64_in _ (by omega)
            have hmax2 : max ((oo : Int) - 1) 0 = (mc : Int) := by have := hmo.out; omega
            have hiso : Hid ((Hp.min? X).isSome = decide (0 < sz)) := by show _ = _; rw [Hp.isSome_iff hX.ok, hXs.out]
            obtain ⟨pc, hpc⟩ : ∃ n, Hid (Hp.popC X = n) := ⟨_, show _ = _ from rfl⟩
            obtain ⟨pd, hpd⟩ : ∃ n, Hid (Hp.popD X = n) := ⟨_, show _ = _ from rfl⟩
            obtain ⟨ps, hps⟩ : ∃ n, Hid (pc + pd = n) := ⟨_, show _ = _ from rfl⟩
            have hp1 : ps ≤ 14 * bb := by rw [← hps.out, ← hpc.out, ← hpd.out, ← hbt.out, ← hXs.out]; exact Hp.pop_steps bX.out
            have e14 : IntKind.i64.wrap (14 * (bb : Int)) = 14 * (bb : Int) := IntWalk.i64_in _ (by omega)
            have dp : decide ((ps : Int) ≤ 14 * (bb : Int)) = true := decide_eq_true (by omega)
            have esn : Hid (IntKind.i64.wrap (IntKind.i64.wrap (0 + (mc : Int) + (pc : Int) + (0 + (pd : Int))) - (mc : Int)) = (ps : Int)) := by have := hps.out; have := hmo.out; show _ = _; rw [IntWalk.i64_in (0 + (mc : Int) + (pc : Int) + (0 + (pd : Int))) (by omega), IntWalk.i64_in _ (by omega)]; omega
            refine wp_seq ?_
            refine wp_seq ?_
            refine wp_region_lit ?_
            iterate 2 (refine wpList_plainQ rfl (fun K Q' hK => ?_); go_simp; refine hK _ _ ?_; clear hK K; try clear Q')
            refine wpList_nil ?_
            show Code.wp _ _ _ _ _
            -- stops at: cond
            refine wp_cond_false (rfl) ?_
            refine wp_exit ?_
            show Code.wp _ _ _ _ _
            refine wp_seq ?_
            refine wp_region_lit ?_
            -- stops at: eff:call (Go.Op.call {'callee': (Go.Callee.value (Go.Operand.func 8)), 'args': [], 'argTypes': []}) slot 57
            refine wpList_plainQ rfl (fun K Q' hK => ?_); go_simp
            refine (new_ok _ _ hs.fits).mono ?_
            rintro e wM ⟨bM, rfl, hkM, hbM, hoM⟩
            have hM := hs.callnew hkM hbM hoM rfl
            refine hK _ _ ?_; clear hK K; try clear Q'
            iterate 1 (refine wpList_plainQ rfl (fun K Q' hK => ?_); go_simp; refine hK _ _ ?_; clear hK K; try clear Q')
            refine wpList_nil ?_
            show Code.wp _ _ _ _ _
            refine wp_seq ?_
            repeat (first | simp only [List.nil_append] at hM | simp only [List.cons_append] at hM | simp only [List.set_cons_zero] at hM | simp only [List.set_cons_succ] at hM | simp only [List.eraseIdx_zero] at hM | simp only [List.tail_cons] at hM | simp only [List.eraseIdx_cons_zero] at hM | simp only [List.eraseIdx_cons_succ] at hM | simp only [List.setIfInBounds_toArray] at hM)
            refine wp_region_lit ?_
            have c_0_0 := hM.cell 0 rfl 0 rfl
            iterate 2 (refine wpList_plainQ rfl (fun K Q' hK => ?_); go_simp; refine hK _ _ ?_; clear hK K; try clear Q')
            clear c_0_0
            -- stops at: eff:call (Go.Op.call {'callee': (Go.Callee.value (Go.Operand.func 9)), 'args': [(Go.Operand.tmp 59), (Go.Operand.tmp 60)], 'argTypes': [28, 32]}) slot 61
            refine wpList_plainQ rfl (fun K Q' hK => ?_); go_simp
            refine (hmin_ok (m := some bM) (hM.pre_at (i := 1) rfl) (by have := hXs.out; omega) hX).mono ?_
            rintro e wMi ⟨HMi, rfl, hpMi⟩
            rw [hmc.out] at hpMi
            rw [hiso.out]
            have h9 := hM.call_at (i := 1) rfl hpMi
            refine hK _ _ ?_; clear hK K; try clear Q'
            iterate 3 (refine wpList_plainQ rfl (fun K Q' hK => ?_); go_simp; refine hK _ _ ?_; clear hK K; try clear Q')
            refine wpList_plainQ rfl (fun K Q' hK => ?_); go_simp
            refine h9.k_alloc (fun w10 h10 => ?_)
            refine hK _ _ ?_; clear hK K; try clear Q'
            have c_0 := h10.cell 2 rfl 0 rfl
            have f_0 := h10.free 2 rfl 0
            have c_1 := h10.cell 2 rfl 1 rfl
            have f_1 := h10.free 2 rfl 1
            refine wpList_plainQ rfl (fun K Q' hK => ?_); go_simp
            clear c_0 f_0 c_1 f_1
            refine (h10.set (i := 2) rfl 0 _).k_set 2 rfl (fun w11 h11 => ?_)
            refine hK _ _ ?_; clear hK K; try clear Q'
            iterate 1 (refine wpList_plainQ rfl (fun K Q' hK => ?_); go_simp; refine hK _ _ ?_; clear hK K; try clear Q')
            refine wpList_nil ?_
            show Code.wp _ _ _ _ _
            refine wp_seq ?_
            refine wp_seq ?_
            repeat (first | simp only [List.nil_append] at h11 | simp only [List.cons_append] at h11 | simp only [List.set_cons_zero] at h11 | simp only [List.set_cons_succ] at h11 | simp only [List.eraseIdx_zero] at h11 | simp only [List.tail_cons] at h11 | simp only [List.eraseIdx_cons_zero] at h11 | simp only [List.eraseIdx_cons_succ] at h11 | simp only [List.setIfInBounds_toArray] at h11)
            refine wp_region_lit ?_
            have c_0_0 := h11.cell 0 rfl 0 rfl
            iterate 1 (refine wpList_plainQ rfl (fun K Q' hK => ?_); go_simp; refine hK _ _ ?_; clear hK K; try clear Q')
            clear c_0_0
            -- stops at: eff:call (Go.Op.call {'callee': (Go.Callee.value (Go.Operand.func 10)), 'args': [(Go.Operand.tmp 64)], 'argTypes': [28]}) slot 65
            refine wpList_plainQ rfl (fun K Q' hK => ?_); go_simp
            refine (hsize_ok h11.fits (by have := hXs.out; omega) (hX.mono hpMi.le)).mono ?_
            rintro e wZ ⟨HZ, rfl, hpZ⟩
            rw [hXs.out]
            have h12 := h11.call0 hpZ
            refine hK _ _ ?_; clear hK K; try clear Q'
            iterate 3 (refine wpList_plainQ rfl (fun K Q' hK => ?_); go_simp; refine hK _ _ ?_; clear hK K; try clear Q')
            iterate 4 (refine wpList_stepQ (o := { dst := _, op := _, type := _, pos := _, after := _, guard := some (4, false) }) (fun K Q' hK => ?_); go_simp; refine hK _ _ ?_; clear hK K; try clear Q')
            iterate 2 (refine wpList_plainQ rfl (fun K Q' hK => ?_); go_simp; refine hK _ _ ?_; clear hK K; try clear Q')
            iterate 1 (refine wpList_stepQ (o := { dst := _, op := _, type := _, pos := _, after := _, guard := some (10, false) }) (fun K Q' hK => ?_); go_simp; refine hK _ _ ?_; clear hK K; try clear Q')
            -- stops at: eff:call (Go.Op.call {'callee': (Go.Callee.value (Go.Operand.func 11)), 'args': [(Go.Operand.tmp 75)], 'argTypes': [32]}) slot 76
            refine wpList_stepQ (fun K Q' hK => ?_); go_simp
            refine (steps_ok _ _ bM _ _ (h12.pre_at (i := 1) rfl)).mono ?_
            rintro e wS ⟨rfl, hpS⟩
            rw [em]
            have h13 := h12.call_at (i := 1) rfl hpS
            refine hK _ _ ?_; clear hK K; try clear Q'
            iterate 4 (refine wpList_stepQ (o := { dst := _, op := _, type := _, pos := _, after := _, guard := some (10, false) }) (fun K Q' hK => ?_); go_simp; refine hK _ _ ?_; clear hK K; try clear Q')
            iterate 1 (refine wpList_plainQ rfl (fun K Q' hK => ?_); go_simp; refine hK _ _ ?_; clear hK K; try clear Q')
            refine wpList_nil ?_
            show Code.wp _ _ _ _ _
            -- stops at: cond
            refine wp_cond_false (rfl) ?_
            refine wp_skip ?_
            show Code.wp _ _ _ _ _
            refine wp_seq ?_
            repeat (first | simp only [List.nil_append] at h13 | simp only [List.cons_append] at h13 | simp only [List.set_cons_zero] at h13 | simp only [List.set_cons_succ] at h13 | simp only [List.eraseIdx_zero] at h13 | simp only [List.tail_cons] at h13 | simp only [List.eraseIdx_cons_zero] at h13 | simp only [List.eraseIdx_cons_succ] at h13 | simp only [List.setIfInBounds_toArray] at h13)
            refine wp_region_lit ?_
            iterate 1 (refine wpList_plainQ rfl (fun K Q' hK => ?_); go_simp; refine hK _ _ ?_; clear hK K; try clear Q')
            -- stops at: eff:call (Go.Op.call {'callee': (Go.Callee.value (Go.Operand.func 11)), 'args': [(Go.Operand.tmp 82)], 'argTypes': [32]}) slot 83
            refine wpList_plainQ rfl (fun K Q' hK => ?_); go_simp
            refine (steps_ok _ _ bM _ _ (h13.pre_at (i := 1) rfl)).mono ?_
            rintro e wS2 ⟨rfl, hpS2⟩
            rw [em]
            have h14 := h13.call_at (i := 1) rfl hpS2
            refine hK _ _ ?_; clear hK K; try clear Q'
            iterate 1 (refine wpList_plainQ rfl (fun K Q' hK => ?_); go_simp; refine hK _ _ ?_; clear hK K; try clear Q')
            refine wpList_nil ?_
            show Code.wp _ _ _ _ _
            refine wp_seq ?_
            repeat (first | simp only [List.nil_append] at h14 | simp only [List.cons_append] at h14 | simp only [List.set_cons_zero] at h14 | simp only [List.set_cons_succ] at h14 | simp only [List.eraseIdx_zero] at h14 | simp only [List.tail_cons] at h14 | simp only [List.eraseIdx_cons_zero] at h14 | simp only [List.eraseIdx_cons_succ] at h14 | simp only [List.setIfInBounds_toArray] at h14)
            refine wp_region_lit ?_
            have c_0_0 := h14.cell 0 rfl 0 rfl
            iterate 2 (refine wpList_plainQ rfl (fun K Q' hK => ?_); go_simp; refine hK _ _ ?_; clear hK K; try clear Q')
            clear c_0_0
            -- stops at: eff:call (Go.Op.call {'callee': (Go.Callee.value (Go.Operand.func 7)), 'args': [(Go.Operand.tmp 84), (Go.Operand.tmp 85)], 'argTypes': [28, 32]}) slot 86
            refine wpList_plainQ rfl (fun K Q' hK => ?_); go_simp
            refine (hpop_ok (m := some bM) (h14.pre_at (i := 1) rfl) (by have := hXs.out; omega) (hX.mono (hpMi.le.trans hpZ.le))).mono ?_
            rintro e wP ⟨rP, HP, rfl, hpP, hP⟩
            rw [hpc.out, hpd.out] at hpP
            have h15 := h14.call_at (i := 1) rfl hpP
            refine hK _ _ ?_; clear hK K; try clear Q'
            refine wpList_nil ?_
            show Code.wp _ _ _ _ _
            refine wp_seq ?_
            repeat (first | simp only [List.nil_append] at h15 | simp only [List.cons_append] at h15 | simp only [List.set_cons_zero] at h15 | simp only [List.set_cons_succ] at h15 | simp only [List.eraseIdx_zero] at h15 | simp only [List.tail_cons] at h15 | simp only [List.eraseIdx_cons_zero] at h15 | simp only [List.eraseIdx_cons_succ] at h15 | simp only [List.setIfInBounds_toArray] at h15)
            refine wp_region_lit ?_
            iterate 2 (refine wpList_plainQ rfl (fun K Q' hK => ?_); go_simp; refine hK _ _ ?_; clear hK K; try clear Q')
            -- stops at: eff:call (Go.Op.call {'callee': (Go.Callee.value (Go.Operand.func 12)), 'args': [(Go.Operand.tmp 87), (Go.Operand.tmp 88)], 'argTypes': [32, 3]}) slot 89
            refine wpList_plainQ rfl (fun K Q' hK => ?_); go_simp
            refine (since_ok _ _ bM _ _ _ (h15.pre_at (i := 1) rfl)).mono ?_
            rintro e wN ⟨rfl, hpN⟩
            rw [esn.out]
            have h16 := h15.call_at (i := 1) rfl hpN
            refine hK _ _ ?_; clear hK K; try clear Q'
            iterate 4 (refine wpList_plainQ rfl (fun K Q' hK => ?_); go_simp; refine hK _ _ ?_; clear hK K; try clear Q')
            refine wpList_nil ?_
            show Code.wp _ _ _ _ _
            -- stops at: ret
            refine wp_ret ?_
            go_ret
            exact ⟨rfl, h16.post.keep⟩
  · have hl1 : decide ((100 : Int) < (a.length : Int)) = true := by simp; omega
    go_enter Tryd.func3, Tryd.ntmps3
    have h0 := St.start hpre
    refine wp_seq ?_
    repeat (first | simp only [List.nil_append] at h0 | simp only [List.cons_append] at h0 | simp only [List.set_cons_zero] at h0 | simp only [List.set_cons_succ] at h0 | simp only [List.eraseIdx_zero] at h0 | simp only [List.tail_cons] at h0 | simp only [List.eraseIdx_cons_zero] at h0 | simp only [List.eraseIdx_cons_succ] at h0 | simp only [List.setIfInBounds_toArray] at h0)
    refine wp_region_lit ?_
    iterate 1 (refine wpList_plainQ rfl (fun K Q' hK => ?_); go_simp; refine hK _ _ ?_; clear hK K; try clear Q')
    refine wpList_nil ?_
    show Code.wp _ _ _ _ _
    refine wp_seq ?_
    refine wp_region_lit ?_
    -- stops at: eff:call (Go.Op.call {'callee': (Go.Callee.value (Go.Operand.func 5)), 'args': [], 'argTypes': []}) slot 18
    refine wpList_plainQ rfl (fun K Q' hK => ?_); go_simp
    refine (awake_ok H _ h0.fits htab).mono ?_
    rintro e wAw ⟨HAw, rfl, hpAw⟩
    have h1 := h0.call0 hpAw
    have htab_1 := htab.mono hpAw.le
    refine hK _ _ ?_; clear hK K; try clear Q'
    iterate 1 (refine wpList_plainQ rfl (fun K Q' hK => ?_); go_simp; refine hK _ _ ?_; clear hK K; try clear Q')
    refine wpList_nil ?_
    show Code.wp _ _ _ _ _
    refine wp_seq ?_
    refine wp_seq ?_
    repeat (first | simp only [List.nil_append] at h1 | simp only [List.cons_append] at h1 | simp only [List.set_cons_zero] at h1 | simp only [List.set_cons_succ] at h1 | simp only [List.eraseIdx_zero] at h1 | simp only [List.tail_cons] at h1 | simp only [List.eraseIdx_cons_zero] at h1 | simp only [List.eraseIdx_cons_succ] at h1 | simp only [List.setIfInBounds_toArray] at h1)
    refine wp_region_lit ?_
    iterate 2 (refine wpList_plainQ rfl (fun K Q' hK => ?_); go_simp; refine hK _ _ ?_; clear hK K; try clear Q')
    refine wpList_nil ?_
    show Code.wp _ _ _ _ _
    -- stops at: cond
    refine wp_cond_false (rfl) ?_
    refine wp_skip ?_
    show Code.wp _ _ _ _ _
    refine wp_seq ?_
    refine wp_seq ?_
    refine wp_region_lit ?_
    iterate 3 (refine wpList_plainQ rfl (fun K Q' hK => ?_); go_simp; refine hK _ _ ?_; clear hK K; try clear Q')
    refine wpList_nil ?_
    show Code.wp _ _ _ _ _
    -- stops at: cond
    refine wp_cond_true (rfl) ?_
    refine wp_seq ?_
    refine wp_region_lit ?_
    iterate 1 (refine wpList_plainQ rfl (fun K Q' hK => ?_); go_simp; refine hK _ _ ?_; clear hK K; try clear Q')
    refine wpList_nil ?_
    show Code.wp _ _ _ _ _
    -- stops at: ret
    refine wp_ret ?_
    go_ret
    exact ⟨rfl, h1.post.keep⟩
end Go.Proofs.YtenhjgdflgcjnaaDoor
