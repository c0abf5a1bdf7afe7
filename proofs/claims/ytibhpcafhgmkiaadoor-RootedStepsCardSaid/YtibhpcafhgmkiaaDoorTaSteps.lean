/-
RootedSteps: its walk (rooted heaps' own law).
-/
import Derived.Test.YtibhpcafhgmkiaaDoorQbPlain
import Derived.Test.YtibhpcafhgmkiaaDoorMiSkewUp
import Derived.Test.YtibhpcafhgmkiaaDoorGdOrdS
namespace Go.Proofs.YtibhpcafhgmkiaaDoor
open Go Go.RowKit
set_option linter.unusedVariables false

theorem bits_mono {a b : Nat} (h : a ≤ b) : bits a ≤ bits b := by
  induction b using Nat.strongRecOn generalizing a with
  | _ b ih =>
    by_cases ha : a = 0
    · subst ha; rw [bits_zero]; omega
    · rw [bits_pos ha, bits_pos (n := b) (by omega)]
      have := ih (b / 2) (by omega) (a := a / 2) (by omega)
      omega
namespace Hp
/-- Ranks rise. -/
def sk : Hp → Prop
  | none => True
  | some (_, l) => Rw.wup l
theorem sk_nil : sk nil := trivial
theorem sk_insert (x : El) {t : Hp} (h : sk t) : sk (insert x t) := by
  match t, h with
  | none, _ => exact trivial
  | some (r, l), h =>
    rw [insert_some]
    split
    · exact Sk.insert_wup ke r h
    · exact Sk.insert_wup ke x h
theorem sk_pop {t : Hp} (h : sk t) : sk (pop t) := by
  match t, h with
  | none, _ => exact trivial
  | some (r, l), h =>
    cases hm : Rw.min? ke l with
    | none => rw [pop_one r hm]; exact trivial
    | some x => rw [pop_some r hm]; exact Sk.pop_wup ke h
theorem ins_steps (x : El) (t : Hp) : insC x t + insD x t ≤ 7 := by
  match t with
  | none => show 0 + 1 ≤ 7; omega
  | some (r, l) =>
    have := Sk.insert_steps l
    show 1 + Sk.insC l + (Sk.insD l + 1) ≤ 7
    omega
theorem pop_steps {t : Hp} (h : sk t) : popC t + popD t ≤ 16 * bits (size t) := by
  match t, h with
  | none, _ => exact Nat.zero_le _
  | some (r, l), h =>
    have hs : size (some (r, l)) = Rw.size l + 1 := rfl
    have h1 := Sk.pop_steps ke h
    have h2 := Rw.wup_length h
    have h3 := bits_mono (a := Rw.size l) (b := Rw.size l + 1) (by omega)
    have h4 := bits_pos (n := Rw.size l + 1) (by omega)
    rw [hs]
    cases hm : Rw.min? ke l with
    | none =>
      have e1 : popC (some (r, l)) = 0 := by show (match Rw.min? ke l with | none => 0 | some _ => (l.length - 1) + Sk.popC ke l) = 0; rw [hm]
      have e2 : popD (some (r, l)) = 0 := by show (match Rw.min? ke l with | none => 0 | some _ => Sk.popD ke l + 1) = 0; rw [hm]
      omega
    | some x =>
      have e1 : popC (some (r, l)) = (l.length - 1) + Sk.popC ke l := by show (match Rw.min? ke l with | none => 0 | some _ => (l.length - 1) + Sk.popC ke l) = _; rw [hm]
      have e2 : popD (some (r, l)) = Sk.popD ke l + 1 := by show (match Rw.min? ke l with | none => 0 | some _ => Sk.popD ke l + 1) = _; rw [hm]
      omega
theorem size_pop1 {t : Hp} (h : ok t) : size (pop t) = size t - 1 := by
  cases hm : min? t with
  | none =>
    have h1 := min_none h hm
    rw [pop_none h hm]
    show (els t).length = (els t).length - 1
    rw [h1]; rfl
  | some x =>
    have := (min_perm h hm).length_eq
    show (els (pop t)).length = (els t).length - 1
    simp at this
    omega
end Hp
/-- How many bits there are at most. -/
theorem bits_le (n : Nat) : bits n ≤ n := by
  induction n using Nat.strongRecOn with
  | _ n ih =>
    by_cases h : n = 0
    · subst h; rw [bits_zero]; omega
    · rw [bits_pos h]
      have := ih (n / 2) (by omega)
      omega
theorem since_nat (s n : Int) (e : Nat) (h0 : 0 ≤ n) (h1 : n ≤ 1000000000) (h2 : e ≤ 1000000000) (hs : s = n + (e : Int)) : IntKind.i64.wrap (IntKind.i64.wrap s - n) = (e : Int) := by
  subst hs
  rw [IntWalk.i64_in (n + (e : Int)) (by omega), IntWalk.i64_in _ (by omega)]
  omega

set_option maxRecDepth 100000 in
set_option maxHeartbeats 16000000 in
theorem steps_walk (H : GH) (w : World) (v : Value) (a : List El) (n : Int) (hf : Fits w H) (htab : TabH H) (ha : ElRep H v a) (fa : ∀ x ∈ a, El.fits x) (hn : 0 ≤ n ∧ n ≤ 255) :
    Calls Tryd.prog 4 #[v, .int .u8 n] w fun e w' => e = .returned (.bool true) ∧ Keep none w w' := by
  have hpre : Pre w H none 0 0 := Pre.none hf 0 0
  obtain ⟨aa, ca, rfl, _, _⟩ := ha.nil_or
  obtain ⟨n, rfl⟩ := Int.eq_ofNat_of_zero_le hn.1
  have en : IntKind.i64.wrap (n : Int) = (n : Int) := IntWalk.i64_in _ (by omega)
  obtain ⟨k9, hk9, hk9l⟩ : ∃ k : Nat, (n : Int).tmod 9 = (k : Int) ∧ k < 9 := ⟨n % 9, rfl, Nat.mod_lt _ (by omega)⟩
  by_cases hl : a.length ≤ 100
  · have hl1 : decide ((100 : Int) < (a.length : Int)) = false := by simp; omega
    as_aux_lemma =>
    go_enter Tryd.func4, Tryd.ntmps4
    have h0 := St.start hpre
    refine wp_seq ?_
    repeat (first | simp only [List.nil_append] at h0 | simp only [List.cons_append] at h0 | simp only [List.set_cons_zero] at h0 | simp only [List.set_cons_succ] at h0 | simp only [List.eraseIdx_zero] at h0 | simp only [List.tail_cons] at h0 | simp only [List.eraseIdx_cons_zero] at h0 | simp only [List.eraseIdx_cons_succ] at h0 | simp only [List.setIfInBounds_toArray] at h0)
    refine wp_region_lit ?_
    iterate 1 (refine wpList_plainQ rfl (fun K Q' hK => ?_); go_simp; refine hK _ _ ?_; clear hK K; try clear Q')
    refine wpList_nil ?_
    show Code.wp _ _ _ _ _
    refine wp_seq ?_
    refine wp_region_lit ?_
    -- stops at: eff:call (Go.Op.call {'callee': (Go.Callee.value (Go.Operand.func 13)), 'args': [], 'argTypes': []}) slot 16
    refine wpList_plainQ rfl (fun K Q' hK => ?_); go_simp
    refine (awake_ok H _ h0.fits htab).mono ?_
    rintro e wAw ⟨HAw, rfl, hpAw⟩
    have h1 := h0.call0 hpAw
    have htab_1 := htab.mono hpAw.le
    have ha_1 := ha.mono hpAw.le
    refine hK _ _ ?_; clear hK K; try clear Q'
    iterate 1 (refine wpList_plainQ rfl (fun K Q' hK => ?_); go_simp; refine hK _ _ ?_; clear hK K; try clear Q')
    refine wpList_nil ?_
    show Code.wp _ _ _ _ _
    refine wp_seq ?_
    refine wp_seq ?_
    repeat (first | simp only [List.nil_append] at h1 | simp only [List.cons_append] at h1 | simp only [List.set_cons_zero] at h1 | simp only [List.set_cons_succ] at h1 | simp only [List.eraseIdx_zero] at h1 | simp only [List.tail_cons] at h1 | simp only [List.eraseIdx_cons_zero] at h1 | simp only [List.eraseIdx_cons_succ] at h1 | simp only [List.setIfInBounds_toArray] at h1)
    refine wp_region_lit ?_
    iterate 2 (refine wpList_plainQ rfl (fun K Q' hK => ?_); go_simp; refine hK _ _ ?_; clear hK K; try clear Q')
    refine wpList_nil ?_
    show Code.wp _ _ _ _ _
    -- stops at: cond
    refine wp_cond_false (rfl) ?_
    refine wp_skip ?_
    show Code.wp _ _ _ _ _
    refine wp_seq ?_
    refine wp_seq ?_
    refine wp_region_lit ?_
    iterate 3 (refine wpList_plainQ rfl (fun K Q' hK => ?_); go_simp; refine hK _ _ ?_; clear hK K; try clear Q')
    refine wpList_nil ?_
    show Code.wp _ _ _ _ _
    -- stops at: cond
    refine wp_cond_false (rfl) ?_
    refine wp_skip ?_
    show Code.wp _ _ _ _ _
    refine wp_seq ?_
    refine wp_region_lit ?_
    iterate 1 (refine wpList_plainQ rfl (fun K Q' hK => ?_); go_simp; refine hK _ _ ?_; clear hK K; try clear Q')
    refine wpList_plainQ rfl (fun K Q' hK => ?_); go_simp
    refine h1.k_alloc (fun w2 h2 => ?_)
    refine hK _ _ ?_; clear hK K; try clear Q'
    have c_0 := h2.cell 0 rfl 0 rfl
    have f_0 := h2.free 0 rfl 0
    refine wpList_plainQ rfl (fun K Q' hK => ?_); go_simp
    clear c_0 f_0
    refine h2.k_set 0 rfl (fun w3 h3 => ?_)
    refine hK _ _ ?_; clear hK K; try clear Q'
    refine wpList_nil ?_
    show Code.wp _ _ _ _ _
    refine wp_seq ?_
    repeat (first | simp only [List.nil_append] at h3 | simp only [List.cons_append] at h3 | simp only [List.set_cons_zero] at h3 | simp only [List.set_cons_succ] at h3 | simp only [List.eraseIdx_zero] at h3 | simp only [List.tail_cons] at h3 | simp only [List.eraseIdx_cons_zero] at h3 | simp only [List.eraseIdx_cons_succ] at h3 | simp only [List.setIfInBounds_toArray] at h3)
    refine wp_region_lit ?_
    -- stops at: eff:call (Go.Op.call {'callee': (Go.Callee.value (Go.Operand.func 23)), 'args': [], 'argTypes': []}) slot 23
    refine wpList_plainQ rfl (fun K Q' hK => ?_); go_simp
    refine (new_ok _ _ h3.fits).mono ?_
    rintro e wM ⟨bM, rfl, hkM, hbM, hoM⟩
    have hM := h3.callnew hkM hbM hoM rfl
    refine hK _ _ ?_; clear hK K; try clear Q'
    iterate 1 (refine wpList_plainQ rfl (fun K Q' hK => ?_); go_simp; refine hK _ _ ?_; clear hK K; try clear Q')
    refine wpList_nil ?_
    show Code.wp _ _ _ _ _
    refine wp_seq ?_
    refine wp_seq ?_
    repeat (first | simp only [List.nil_append] at hM | simp only [List.cons_append] at hM | simp only [List.set_cons_zero] at hM | simp only [List.set_cons_succ] at hM | simp only [List.eraseIdx_zero] at hM | simp only [List.tail_cons] at hM | simp only [List.eraseIdx_cons_zero] at hM | simp only [List.eraseIdx_cons_succ] at hM | simp only [List.setIfInBounds_toArray] at hM)
    refine wp_region_lit ?_
    iterate 1 (refine wpList_plainQ rfl (fun K Q' hK => ?_); go_simp; refine hK _ _ ?_; clear hK K; try clear Q')
    refine wpList_nil ?_
    show Code.wp _ _ _ _ _
    refine wp_block ?_
    -- stops at: loop
    go_loopw [8] (fun v8 wr => ∃ (k : Nat) (X : Hp) (q : Option Addr) (H' : GH) (c d : Nat), k ≤ a.length ∧ v8 = .int .i64 k ∧ GH.le H H' ∧ Hid ((Hp.els X).Perm (a.take k)) ∧ Hid (Hp.sk X) ∧ Hid (c + d ≤ 7 * k) ∧ HpR H' q X ∧ St w H none 0 0 wr H' [(wAw.heap.size, .cells #[.pointer q] 28), (bM, meterObj c d)] []) (fun v8 _ => a.length - (intOf v8).toNat)
    case atStart => exact ⟨0, Hp.nil, none, _, 0, 0, by omega, rfl, hM.le, by simp [Hp.els_nil, Hid], Hp.sk_nil, Nat.zero_le _, HpR.nil _, hM⟩
    case round =>
      obtain ⟨k, X, q, H7, c, d, hk, rfl, hle7, pX, skX, hcd0, hX, hs⟩ := hrel
      have hcd : Hid (c + d ≤ 700) := by have := hcd0.out; show _ ≤ _; omega
      have sX : Hp.size X = k := by rw [Hp.size_eq, pX.out.length_eq]; simp; omega
      by_cases hlt : k < a.length
      · skip
        as_aux_lemma =>
        obtain ⟨b9, o9, cap9, ee, _⟩ := ha.ne_nil (by omega)
        simp only [Value.slice.injEq, true_and] at ee
        obtain ⟨rfl, rfl⟩ := ee
        obtain ⟨c1, c2⟩ := elRep_cells ha (k := k) (a := a[k]) (by simp [hlt])
        obtain ⟨y, hy⟩ : ∃ y0, Hid (a[k] = y0) := ⟨a[k], show _ = _ from rfl⟩
        rw [hy.out] at c1 c2
        have hly : a[k]? = some y := by rw [List.getElem?_eq_getElem hlt, hy.out]
        have htk : a.take (k + 1) = a.take k ++ [y] := by rw [List.take_add_one, hly]; rfl
        have e1 : IntKind.i64.wrap ((k : Int) + 1) = (k : Int) + 1 := IntWalk.i64_in _ (by omega)
        have fy : El.fits y := by rw [← hy.out]; exact fa _ (List.getElem_mem hlt)
        obtain ⟨ic, hic⟩ : ∃ n, Hid (Hp.insC y X = n) := ⟨_, show _ = _ from rfl⟩
        obtain ⟨id, hid⟩ : ∃ n, Hid (Hp.insD y X = n) := ⟨_, show _ = _ from rfl⟩
        have hicd : ic + id ≤ 7 := by rw [← hic.out, ← hid.out]; exact Hp.ins_steps y X
        obtain ⟨is, hee⟩ : ∃ n, Hid (ic + id = n) := ⟨_, show _ = _ from rfl⟩
        have hisl : is ≤ 7 := by have := hee.out; omega
        have d4 : decide ((7 : Int) < (is : Int)) = false := decide_eq_false (by omega)
        refine wp_seq ?_
        refine wp_seq ?_
        repeat (first | simp only [List.nil_append] at hs | simp only [List.cons_append] at hs | simp only [List.set_cons_zero] at hs | simp only [List.set_cons_succ] at hs | simp only [List.eraseIdx_zero] at hs | simp only [List.tail_cons] at hs | simp only [List.eraseIdx_cons_zero] at hs | simp only [List.eraseIdx_cons_succ] at hs | simp only [List.setIfInBounds_toArray] at hs)
        refine wp_region_lit ?_
        iterate 4 (refine wpList_plainQ rfl (fun K Q' hK => ?_); go_simp; refine hK _ _ ?_; clear hK K; try clear Q')
        refine wpList_nil ?_
        show Code.wp _ _ _ _ _
        -- stops at: cond
        refine wp_cond_true (rfl) ?_
        refine wp_skip ?_
        show Code.wp _ _ _ _ _
        refine wp_seq ?_
        refine wp_block ?_
        refine wp_seq ?_
        refine wp_region_lit ?_
        iterate 1 (refine wpList_plainQ rfl (fun K Q' hK => ?_); go_simp; refine hK _ _ ?_; clear hK K; try clear Q')
        -- stops at: eff:call (Go.Op.call {'callee': (Go.Callee.value (Go.Operand.func 24)), 'args': [(Go.Operand.tmp 30)], 'argTypes': [41]}) slot 31
        refine wpList_plainQ rfl (fun K Q' hK => ?_); go_simp
        refine (steps_ok _ _ bM _ _ (hs.pre_at (i := 1) rfl)).mono ?_
        rintro e wS1 ⟨rfl, hpS1⟩
        rw [show IntKind.i64.wrap ((c : Int) + (d : Int)) = ((c : Int) + (d : Int)) from IntWalk.i64_in _ (by have := hcd.out; omega)]
        have h4 := hs.call_at (i := 1) rfl hpS1
        have hX_4 := hX.mono hpS1.le
        refine hK _ _ ?_; clear hK K; try clear Q'
        iterate 1 (refine wpList_plainQ rfl (fun K Q' hK => ?_); go_simp; refine hK _ _ ?_; clear hK K; try clear Q')
        refine wpList_nil ?_
        show Code.wp _ _ _ _ _
        refine wp_seq ?_
        repeat (first | simp only [List.nil_append] at h4 | simp only [List.cons_append] at h4 | simp only [List.set_cons_zero] at h4 | simp only [List.set_cons_succ] at h4 | simp only [List.eraseIdx_zero] at h4 | simp only [List.tail_cons] at h4 | simp only [List.eraseIdx_cons_zero] at h4 | simp only [List.eraseIdx_cons_succ] at h4 | simp only [List.setIfInBounds_toArray] at h4)
        refine h4.region [] [(1, true), (2, true), (3, true), (4, true), (5, true), (0, false), (6, false), (7, false)] (by kernel_rfl) (by kernel_rfl) (fun w5 h5 => ?_)
        refine wpOrd_hide (fun _ _ d _ _ h => by cases d <;> exact h) (fun QR hQn hQp => ?_)
        simp only [ordOps, List.map_cons, List.map_nil, List.getD_cons_zero, List.getD_cons_succ]
        iterate 4 (refine wpOrd_quiet (v := ?_) rfl (fun _ _ _ => hQp _ _ _ _ _) ?_ ?_; rotate_left; (intro w' hS; (first | (go_simp; done) | (go_simp; with_reducible rfl))); simp only [Act.put, List.setIfInBounds_toArray, List.set_cons_zero, List.set_cons_succ])
        -- stops at: load (Go.Op.load 24 (Go.Operand.tmp 36)) slot 37
        iterate 1 (refine wpOrd_quiet (v := ?_) rfl (fun _ _ _ => hQp _ _ _ _ _) ?_ ?_; rotate_left; (intro w' hS; have ce := c1.out _ (hS.1.le hle7); have ce2 := c2.out _ (hS.1.le hle7); (first | (go_simp; done) | (go_simp; with_reducible rfl))); simp only [Act.put, List.setIfInBounds_toArray, List.set_cons_zero, List.set_cons_succ])
        have c_0_0 := h5.cell 0 rfl 0 rfl
        refine wpOrd_effQ rfl (fun K Q' hK => ?_); go_simp
        refine hK _ _ (h5.sat' (GH.le_refl _) [] (sel_nil2 _ _)) ?_; clear hK K; try clear Q'
        clear c_0_0
        -- stops at: eff:call (Go.Op.call {'callee': (Go.Callee.value (Go.Operand.func 17)), 'args': [(Go.Operand.tmp 32), (Go.Operand.tmp 33), (Go.Operand.tmp 37)], 'argTypes': [28, 41, 24] slot 38
        refine wpOrd_effQ rfl (fun K Q' hK => ?_); go_simp
        refine (hinsert_ok (m := some bM) y fy (h5.pre_at (i := 1) rfl) (by omega) hX_4).mono ?_
        rintro e wI ⟨rI, HI, rfl, hpI, hI⟩
        rw [hic.out, hid.out] at hpI
        have sI : Hp.size (Hp.insert y X) = _ := Hp.size_insert y hX.ok
        rw [sX] at sI
        have h6 := h5.call_at (i := 1) rfl hpI
        have hX_6 := hX_4.mono hpI.le
        refine hK _ _ (h6.sat' hpI.le [] (sel_nil2 _ _)) ?_; clear hK K; try clear Q'
        as_aux_lemma =>
        have c_0 := h6.cell 0 rfl 0 rfl
        have f_0 := h6.free 0 rfl 0
        refine wpOrd_effQ rfl (fun K Q' hK => ?_); go_simp
        clear c_0 f_0
        refine h6.k_set 0 rfl (fun w7 h7 => ?_)
        refine hK _ _ (h7.sat' hpI.le [] (sel_nil2 _ _)) ?_; clear hK K; try clear Q'
        refine wpOrd_nil (hQn _ _ ?_); clear hQn hQp QR
        show Code.wp _ _ _ _ _
        refine wp_seq ?_
        repeat (first | simp only [List.nil_append] at h7 | simp only [List.cons_append] at h7 | simp only [List.set_cons_zero] at h7 | simp only [List.set_cons_succ] at h7 | simp only [List.eraseIdx_zero] at h7 | simp only [List.tail_cons] at h7 | simp only [List.eraseIdx_cons_zero] at h7 | simp only [List.eraseIdx_cons_succ] at h7 | simp only [List.setIfInBounds_toArray] at h7)
        refine wp_region_lit ?_
        iterate 2 (refine wpList_plainQ rfl (fun K Q' hK => ?_); go_simp; refine hK _ _ ?_; clear hK K; try clear Q')
        -- stops at: eff:call (Go.Op.call {'callee': (Go.Callee.value (Go.Operand.func 25)), 'args': [(Go.Operand.tmp 39), (Go.Operand.tmp 40)], 'argTypes': [41, 3]}) slot 41
        refine wpList_plainQ rfl (fun K Q' hK => ?_); go_simp
        refine (since_ok _ _ bM _ _ _ (h7.pre_at (i := 1) rfl)).mono ?_
        rintro e wS2 ⟨rfl, hpS2⟩
        rw [since_nat _ _ is (by have := hcd.out; omega) (by have := hcd.out; omega) (by have := hcd.out; omega) (by have := hee.out; omega)]
        have h8 := h7.call_at (i := 1) rfl hpS2
        have hX_8 := hX_6.mono hpS2.le
        have hI_8 := hI.mono hpS2.le
        refine hK _ _ ?_; clear hK K; try clear Q'
        iterate 1 (refine wpList_plainQ rfl (fun K Q' hK => ?_); go_simp; refine hK _ _ ?_; clear hK K; try clear Q')
        refine wpList_nil ?_
        show Code.wp _ _ _ _ _
        -- stops at: cond
        refine wp_cond_false (rfl) ?_
        refine wp_skip ?_
        show Code.wp _ _ _ _ _
        repeat (first | simp only [List.nil_append] at h8 | simp only [List.cons_append] at h8 | simp only [List.set_cons_zero] at h8 | simp only [List.set_cons_succ] at h8 | simp only [List.eraseIdx_zero] at h8 | simp only [List.tail_cons] at h8 | simp only [List.eraseIdx_cons_zero] at h8 | simp only [List.eraseIdx_cons_succ] at h8 | simp only [List.setIfInBounds_toArray] at h8)
        refine wp_region_lit ?_
        iterate 3 (refine wpList_plainQ rfl (fun K Q' hK => ?_); go_simp; refine hK _ _ ?_; clear hK K; try clear Q')
        refine wpList_nil ?_
        -- stops at: end ('roundend',)
        show _ ∧ _
        go_roundw
        case rel =>
          refine ⟨k + 1, Hp.insert y X, rI, _, c + ic, d + id, by omega, by simp, GH.le.trans hle7 hpI.le, ?_, Hp.sk_insert y skX.out, ?_, hI_8, ?_⟩
          · rw [htk]
            exact (Hp.els_insert y hX.ok).trans ((pX.out.cons y).trans (List.perm_append_singleton y _).symm)
          · have := hcd0.out; show _ ≤ _; omega
          · rw [Int.natCast_add, Int.natCast_add]
            exact h8
        case measure => simp [intOf]; omega
      · obtain rfl : k = a.length := by omega
        as_aux_lemma =>
        rw [List.take_length] at pX
        have haY : ElRep H7 _ a := ha.mono hle7
        refine wp_seq ?_
        refine wp_seq ?_
        repeat (first | simp only [List.nil_append] at hs | simp only [List.cons_append] at hs | simp only [List.set_cons_zero] at hs | simp only [List.set_cons_succ] at hs | simp only [List.eraseIdx_zero] at hs | simp only [List.tail_cons] at hs | simp only [List.eraseIdx_cons_zero] at hs | simp only [List.eraseIdx_cons_succ] at hs | simp only [List.setIfInBounds_toArray] at hs)
        refine wp_region_lit ?_
        iterate 4 (refine wpList_plainQ rfl (fun K Q' hK => ?_); go_simp; refine hK _ _ ?_; clear hK K; try clear Q')
        refine wpList_nil ?_
        show Code.wp _ _ _ _ _
        -- stops at: cond
        refine wp_cond_false (rfl) ?_
        refine wp_exit ?_
        show Code.wp _ _ _ _ _
        refine wp_seq ?_
        refine wp_seq ?_
        refine wp_region_lit ?_
        iterate 1 (refine wpList_plainQ rfl (fun K Q' hK => ?_); go_simp; refine hK _ _ ?_; clear hK K; try clear Q')
        refine wpList_nil ?_
        show Code.wp _ _ _ _ _
        refine wp_block ?_
        -- stops at: loop
        have hle9 : GH.le H H7 := hs.le
        go_loopw [10] (fun v10 wr => ∃ (k : Nat) (X : Hp) (q : Option Addr) (H' : GH) (c d : Nat), k ≤ k9 ∧ v10 = .int .i64 k ∧ Hid (Hp.size X ≤ 100) ∧ Hid (Hp.sk X) ∧ Hid (c + d ≤ 700 + 1700 * k) ∧ HpR H' q X ∧ St w H none 0 0 wr H' [(wAw.heap.size, .cells #[.pointer q] 28), (bM, meterObj c d)] []) (fun v10 _ => k9 - (intOf v10).toNat)
        case atStart => exact ⟨0, X, q, _, c, d, by omega, rfl, by show _ ≤ _; omega, skX, by have := hcd.out; show _ ≤ _; omega, hX, hs⟩
        case round =>
          clear hX hs
          obtain ⟨k, Y, q, H8, c, d, hk2, rfl, hY1, skY, hcd1, hY, hs⟩ := hrel
          obtain ⟨sX, hsX⟩ : ∃ n, Hid (Hp.size Y = n) := ⟨_, show _ = _ from rfl⟩
          have sY : Hp.size Y = sX := hsX.out
          have sXl : sX ≤ 100 := by have := hY1.out; omega
          have hcd : Hid (c + d ≤ 700 + 1700 * 8 + 1700) := by have := hcd1.out; show _ ≤ _; omega
          by_cases hlt2 : k < k9
          · skip
            as_aux_lemma =>
            have e1 : IntKind.i64.wrap ((k : Int) + 1) = (k : Int) + 1 := IntWalk.i64_in _ (by omega)
            refine wp_seq ?_
            refine wp_seq ?_
            refine wp_region_lit ?_
            iterate 5 (refine wpList_plainQ rfl (fun K Q' hK => ?_); go_simp; refine hK _ _ ?_; clear hK K; try clear Q')
            refine wpList_nil ?_
            show Code.wp _ _ _ _ _
            -- stops at: cond
            refine wp_cond_true (rfl) ?_
            refine wp_skip ?_
            show Code.wp _ _ _ _ _
            refine wp_seq ?_
            refine wp_block ?_
            refine wp_seq ?_
            refine wp_region_lit ?_
            iterate 1 (refine wpList_plainQ rfl (fun K Q' hK => ?_); go_simp; refine hK _ _ ?_; clear hK K; try clear Q')
            refine wpList_nil ?_
            show Code.wp _ _ _ _ _
            refine wp_seq ?_
            refine wp_seq ?_
            refine wp_region_lit ?_
            have c_0_0 := hs.cell 0 rfl 0 rfl
            iterate 1 (refine wpList_plainQ rfl (fun K Q' hK => ?_); go_simp; refine hK _ _ ?_; clear hK K; try clear Q')
            clear c_0_0
            -- stops at: eff:call (Go.Op.call {'callee': (Go.Callee.value (Go.Operand.func 19)), 'args': [(Go.Operand.tmp 50)], 'argTypes': [28]}) slot 51
            refine wpList_plainQ rfl (fun K Q' hK => ?_); go_simp
            refine (hsize_ok hs.fits (by omega) hY).mono ?_
            rintro e wZ1 ⟨HZ1, rfl, hpZ1⟩
            rw [sY]
            have h9 := hs.call0 hpZ1
            have hY_9 := hY.mono hpZ1.le
            refine hK _ _ ?_; clear hK K; try clear Q'
            iterate 1 (refine wpList_plainQ rfl (fun K Q' hK => ?_); go_simp; refine hK _ _ ?_; clear hK K; try clear Q')
            refine wpList_nil ?_
            show Code.wp _ _ _ _ _
            refine wp_block ?_
            -- stops at: loop
            obtain ⟨bt, hbt⟩ : ∃ n, Hid (bits sX = n) := ⟨_, show _ = _ from rfl⟩
            have hbtl : bt ≤ sX := by rw [← hbt.out]; exact bits_le sX
            go_loopw [11, 12] (fun vB vK wr => ∃ kk bb : Nat, vK = .int .i64 kk ∧ vB = .int .i64 bb ∧ Hid (bb + bits kk = bt) ∧ kk ≤ sX ∧ St w H none 0 0 wr HZ1 [(wAw.heap.size, .cells #[.pointer q] 28), (bM, meterObj c d)] []) (fun _ vK _ => (intOf vK).toNat)
            case atStart => exact ⟨sX, 0, rfl, rfl, by show _ = _; have := hbt.out; omega, Nat.le_refl _, h9⟩
            case round =>
              obtain ⟨kk, bb, rfl, rfl, hbk, hkl, hs2⟩ := hrel
              by_cases hk0 : 0 < kk
              · have hbp := bits_pos (n := kk) (by omega)
                have hq : Int.tdiv (kk : Int) 2 = ((kk / 2 : Nat) : Int) := rfl
                obtain ⟨kh, hkh⟩ : ∃ n, Hid (kk / 2 = n) := ⟨_, show _ = _ from rfl⟩
                have hq2 : Int.tdiv (kk : Int) 2 = (kh : Int) := by rw [← hkh.out]; rfl
                have hq3 : IntKind.i64.wrap (kh : Int) = (kh : Int) := IntWalk.i64_in _ (by have := hkh.out; omega)
                have hb1 : IntKind.i64.wrap ((bb : Int) + 1) = (bb : Int) + 1 := IntWalk.i64_in _ (by have := hbk.out; omega)
                have hbk2 : Hid (bb + 1 + bits kh = bt) := by have := hbk.out; have := hkh.out; show _ = _; rw [← this]; omega
                have hkh2 : kh < kk := by have := hkh.out; omega
                clear hbp hq
                refine wp_seq ?_
                refine wp_seq ?_
                repeat (first | simp only [List.nil_append] at hs2 | simp only [List.cons_append] at hs2 | simp only [List.set_cons_zero] at hs2 | simp only [List.set_cons_succ] at hs2 | simp only [List.eraseIdx_zero] at hs2 | simp only [List.tail_cons] at hs2 | simp only [List.eraseIdx_cons_zero] at hs2 | simp only [List.eraseIdx_cons_succ] at hs2 | simp only [List.setIfInBounds_toArray] at hs2)
                refine wp_region_lit ?_
                iterate 2 (refine wpList_plainQ rfl (fun K Q' hK => ?_); go_simp; refine hK _ _ ?_; clear hK K; try clear Q')
                refine wpList_nil ?_
                show Code.wp _ _ _ _ _
                -- stops at: cond
                refine wp_cond_true (rfl) ?_
                refine wp_skip ?_
                show Code.wp _ _ _ _ _
                refine wp_seq ?_
                refine wp_block ?_
                refine wp_region_lit ?_
                iterate 3 (refine wpList_plainQ rfl (fun K Q' hK => ?_); go_simp; refine hK _ _ ?_; clear hK K; try clear Q')
                refine wpList_nil ?_
                show Code.wp _ _ _ _ _
                refine wp_region_lit ?_
                iterate 3 (refine wpList_plainQ rfl (fun K Q' hK => ?_); go_simp; refine hK _ _ ?_; clear hK K; try clear Q')
                refine wpList_nil ?_
                -- stops at: end ('roundend',)
                show _ ∧ _
                go_roundw
                case rel => exact ⟨kh, bb + 1, rfl, by simp, hbk2, by omega, hs2⟩
                case measure => simp [intOf]; omega
              · obtain rfl : kk = 0 := by omega
                obtain rfl : bb = bt := by have := hbk.out; rw [bits_zero] at this; omega
                refine wp_seq ?_
                refine wp_seq ?_
                repeat (first | simp only [List.nil_append] at hs2 | simp only [List.cons_append] at hs2 | simp only [List.set_cons_zero] at hs2 | simp only [List.set_cons_succ] at hs2 | simp only [List.eraseIdx_zero] at hs2 | simp only [List.tail_cons] at hs2 | simp only [List.eraseIdx_cons_zero] at hs2 | simp only [List.eraseIdx_cons_succ] at hs2 | simp only [List.setIfInBounds_toArray] at hs2)
                refine wp_region_lit ?_
                iterate 2 (refine wpList_plainQ rfl (fun K Q' hK => ?_); go_simp; refine hK _ _ ?_; clear hK K; try clear Q')
                refine wpList_nil ?_
                show Code.wp _ _ _ _ _
                -- stops at: cond
                refine wp_cond_false (rfl) ?_
                refine wp_exit ?_
                show Code.wp _ _ _ _ _
                refine wp_seq ?_
                refine wp_region_lit ?_
                iterate 1 (refine wpList_plainQ rfl (fun K Q' hK => ?_); go_simp; refine hK _ _ ?_; clear hK K; try clear Q')
                -- stops at: eff:call (Go.Op.call {'callee': (Go.Callee.value (Go.Operand.func 24)), 'args': [(Go.Operand.tmp 58)], 'argTypes': [41]}) slot 59
                clear hs
                obtain ⟨pc, hpc⟩ : ∃ n, Hid (Hp.popC Y = n) := ⟨_, show _ = _ from rfl⟩
                obtain ⟨pd, hpd⟩ : ∃ n, Hid (Hp.popD Y = n) := ⟨_, show _ = _ from rfl⟩
                have hp1 : pc + pd ≤ 16 * bb := by rw [← hpc.out, ← hpd.out, ← hbt.out, ← sY]; exact Hp.pop_steps skY.out
                obtain ⟨ps, hps⟩ : ∃ n, Hid (pc + pd = n) := ⟨_, show _ = _ from rfl⟩
                have hps1 : ps ≤ 16 * bb := by rw [← hps.out]; exact hp1
                have hee1 : Hid (0 = 0) := rfl
                have hps0 := hps
                have e16 : IntKind.i64.wrap (16 * (bb : Int)) = 16 * (bb : Int) := IntWalk.i64_in _ (by omega)
                have dp1 : decide (16 * (bb : Int) < (ps : Int)) = false := decide_eq_false (by omega)
                have dp2 : decide (16 * bb < ps) = false := decide_eq_false (by omega)
                refine wpList_plainQ rfl (fun K Q' hK => ?_); go_simp
                refine (steps_ok _ _ bM _ _ (hs2.pre_at (i := 1) rfl)).mono ?_
                rintro e wS3 ⟨rfl, hpS3⟩
                rw [show IntKind.i64.wrap ((c : Int) + (d : Int)) = ((c : Int) + (d : Int)) from IntWalk.i64_in _ (by have := hcd.out; omega)]
                have h10 := hs2.call_at (i := 1) rfl hpS3
                have hY_10 := hY_9.mono hpS3.le
                refine hK _ _ ?_; clear hK K; try clear Q'
                iterate 1 (refine wpList_plainQ rfl (fun K Q' hK => ?_); go_simp; refine hK _ _ ?_; clear hK K; try clear Q')
                refine wpList_nil ?_
                show Code.wp _ _ _ _ _
                refine wp_seq ?_
                repeat (first | simp only [List.nil_append] at h10 | simp only [List.cons_append] at h10 | simp only [List.set_cons_zero] at h10 | simp only [List.set_cons_succ] at h10 | simp only [List.eraseIdx_zero] at h10 | simp only [List.tail_cons] at h10 | simp only [List.eraseIdx_cons_zero] at h10 | simp only [List.eraseIdx_cons_succ] at h10 | simp only [List.setIfInBounds_toArray] at h10)
                refine wp_region_lit ?_
                have c_0_0 := h10.cell 0 rfl 0 rfl
                iterate 2 (refine wpList_plainQ rfl (fun K Q' hK => ?_); go_simp; refine hK _ _ ?_; clear hK K; try clear Q')
                clear c_0_0
                -- stops at: eff:call (Go.Op.call {'callee': (Go.Callee.value (Go.Operand.func 16)), 'args': [(Go.Operand.tmp 60), (Go.Operand.tmp 61)], 'argTypes': [28, 41]}) slot 62
                refine wpList_plainQ rfl (fun K Q' hK => ?_); go_simp
                refine (hmin_ok (m := some bM) (h10.pre_at (i := 1) rfl) (by omega) hY_10).mono ?_
                rintro e wMi ⟨HMi, rfl, hpMi⟩
                rw [show (c : Int) + ((Hp.minC Y : Nat) : Int) = (c : Int) by unfold Hp.minC; omega] at hpMi
                have h11 := h10.call_at (i := 1) rfl hpMi
                have hY_11 := hY_10.mono hpMi.le
                refine hK _ _ ?_; clear hK K; try clear Q'
                refine wpList_nil ?_
                show Code.wp _ _ _ _ _
                refine wp_seq ?_
                refine wp_seq ?_
                repeat (first | simp only [List.nil_append] at h11 | simp only [List.cons_append] at h11 | simp only [List.set_cons_zero] at h11 | simp only [List.set_cons_succ] at h11 | simp only [List.eraseIdx_zero] at h11 | simp only [List.tail_cons] at h11 | simp only [List.eraseIdx_cons_zero] at h11 | simp only [List.eraseIdx_cons_succ] at h11 | simp only [List.setIfInBounds_toArray] at h11)
                refine wp_region_lit ?_
                iterate 2 (refine wpList_plainQ rfl (fun K Q' hK => ?_); go_simp; refine hK _ _ ?_; clear hK K; try clear Q')
                -- stops at: eff:call (Go.Op.call {'callee': (Go.Callee.value (Go.Operand.func 25)), 'args': [(Go.Operand.tmp 63), (Go.Operand.tmp 64)], 'argTypes': [41, 3]}) slot 65
                refine wpList_plainQ rfl (fun K Q' hK => ?_); go_simp
                refine (since_ok _ _ bM _ _ _ (h11.pre_at (i := 1) rfl)).mono ?_
                rintro e wS4 ⟨rfl, hpS4⟩
                rw [since_nat _ _ 0 (by have := hcd.out; omega) (by have := hcd.out; omega) (by have := hcd.out; omega) (by have := hee1.out; omega)]
                have h12 := h11.call_at (i := 1) rfl hpS4
                have hY_12 := hY_11.mono hpS4.le
                refine hK _ _ ?_; clear hK K; try clear Q'
                iterate 1 (refine wpList_plainQ rfl (fun K Q' hK => ?_); go_simp; refine hK _ _ ?_; clear hK K; try clear Q')
                refine wpList_nil ?_
                show Code.wp _ _ _ _ _
                -- stops at: cond
                refine wp_cond_false (rfl) ?_
                refine wp_skip ?_
                show Code.wp _ _ _ _ _
                refine wp_seq ?_
                repeat (first | simp only [List.nil_append] at h12 | simp only [List.cons_append] at h12 | simp only [List.set_cons_zero] at h12 | simp only [List.set_cons_succ] at h12 | simp only [List.eraseIdx_zero] at h12 | simp only [List.tail_cons] at h12 | simp only [List.eraseIdx_cons_zero] at h12 | simp only [List.eraseIdx_cons_succ] at h12 | simp only [List.setIfInBounds_toArray] at h12)
                refine wp_region_lit ?_
                have c_0_0 := h12.cell 0 rfl 0 rfl
                iterate 2 (refine wpList_plainQ rfl (fun K Q' hK => ?_); go_simp; refine hK _ _ ?_; clear hK K; try clear Q')
                clear c_0_0
                -- stops at: eff:call (Go.Op.call {'callee': (Go.Callee.value (Go.Operand.func 15)), 'args': [(Go.Operand.tmp 68), (Go.Operand.tmp 69)], 'argTypes': [28, 41]}) slot 70
                by_cases h0 : sX = 0
                · have hmY : Hp.min? Y = none := by
                    have := Hp.isSome_iff hY.ok
                    rw [sY, h0] at this
                    cases hh : Hp.min? Y with
                    | none => rfl
                    | some y => rw [hh] at this; cases this
                  subst h0
                  refine wpList_plainQ rfl (fun K Q' hK => ?_); go_simp
                  refine (hpop_ok (m := some bM) (h12.pre_at (i := 1) rfl) (by omega) hY_12).mono ?_
                  rintro e wPo ⟨rPo, HPo, rfl, hpPo, hPo⟩
                  rw [hpc.out, hpd.out] at hpPo
                  simp only [hmY]
                  try simp only [Option.isSome_some]
                  try simp only [Option.isSome_none]
                  have h13 := h12.call_at (i := 1) rfl hpPo
                  have hY_13 := hY_12.mono hpPo.le
                  refine hK _ _ ?_; clear hK K; try clear Q'
                  iterate 3 (refine wpList_plainQ rfl (fun K Q' hK => ?_); go_simp; refine hK _ _ ?_; clear hK K; try clear Q')
                  refine wpList_plainQ rfl (fun K Q' hK => ?_); go_simp
                  refine h13.k_alloc (fun w14 h14 => ?_)
                  refine hK _ _ ?_; clear hK K; try clear Q'
                  have c_0 := h14.cell 2 rfl 0 rfl
                  have f_0 := h14.free 2 rfl 0
                  refine wpList_plainQ rfl (fun K Q' hK => ?_); go_simp
                  clear c_0 f_0
                  refine h14.k_set 2 rfl (fun w15 h15 => ?_)
                  refine hK _ _ ?_; clear hK K; try clear Q'
                  iterate 1 (refine wpList_plainQ rfl (fun K Q' hK => ?_); go_simp; refine hK _ _ ?_; clear hK K; try clear Q')
                  refine wpList_nil ?_
                  show Code.wp _ _ _ _ _
                  refine wp_seq ?_
                  refine wp_seq ?_
                  repeat (first | simp only [List.nil_append] at h15 | simp only [List.cons_append] at h15 | simp only [List.set_cons_zero] at h15 | simp only [List.set_cons_succ] at h15 | simp only [List.eraseIdx_zero] at h15 | simp only [List.tail_cons] at h15 | simp only [List.eraseIdx_cons_zero] at h15 | simp only [List.eraseIdx_cons_succ] at h15 | simp only [List.setIfInBounds_toArray] at h15)
                  refine wp_region_lit ?_
                  iterate 2 (refine wpList_plainQ rfl (fun K Q' hK => ?_); go_simp; refine hK _ _ ?_; clear hK K; try clear Q')
                  -- stops at: eff:call (Go.Op.call {'callee': (Go.Callee.value (Go.Operand.func 25)), 'args': [(Go.Operand.tmp 73), (Go.Operand.tmp 74)], 'argTypes': [41, 3]}) slot 75
                  refine wpList_plainQ rfl (fun K Q' hK => ?_); go_simp
                  refine (since_ok _ _ bM _ _ _ (h15.pre_at (i := 1) rfl)).mono ?_
                  rintro e wS6 ⟨rfl, hpS6⟩
                  rw [since_nat _ _ ps (by have := hcd.out; omega) (by have := hcd.out; omega) (by have := hcd.out; omega) (by have := hps.out; omega)]
                  have h16 := h15.call_at (i := 1) rfl hpS6
                  have hY_16 := hY_13.mono hpS6.le
                  have hPo_16 := hPo.mono hpS6.le
                  refine hK _ _ ?_; clear hK K; try clear Q'
                  iterate 4 (refine wpList_plainQ rfl (fun K Q' hK => ?_); go_simp; refine hK _ _ ?_; clear hK K; try clear Q')
                  have c_0_0 := h16.cell 0 rfl 0 rfl
                  first | go_skip | (iterate 2 (refine wpList_stepQ (o := { dst := _, op := _, type := _, pos := _, after := _, guard := some (6, false) }) (fun K Q' hK => ?_); go_simp; refine hK _ _ ?_; clear hK K; try clear Q')) | skip
                  clear c_0_0
                  -- stops at: eff:call (Go.Op.call {'callee': (Go.Callee.value (Go.Operand.func 19)), 'args': [(Go.Operand.tmp 81)], 'argTypes': [28]}) slot 82
                  refine wpList_stepQ (fun K Q' hK => ?_); go_simp
                  refine (hsize_ok h16.fits (by omega) hY_16).mono ?_
                  rintro e wZ2 ⟨HZ2, rfl, hpZ2⟩
                  rw [sY]
                  have h17 := h16.call0 hpZ2
                  have hY_17 := hY_16.mono hpZ2.le
                  have hPo_17 := hPo_16.mono hpZ2.le
                  refine hK _ _ ?_; clear hK K; try clear Q'
                  first | go_skip | (iterate 2 (refine wpList_stepQ (o := { dst := _, op := _, type := _, pos := _, after := _, guard := some (6, false) }) (fun K Q' hK => ?_); go_simp; refine hK _ _ ?_; clear hK K; try clear Q')) | skip
                  iterate 1 (refine wpList_plainQ rfl (fun K Q' hK => ?_); go_simp; refine hK _ _ ?_; clear hK K; try clear Q')
                  refine wpList_nil ?_
                  show Code.wp _ _ _ _ _
                  -- stops at: cond
                  refine wp_cond_false (rfl) ?_
                  refine wp_skip ?_
                  show Code.wp _ _ _ _ _
                  repeat (first | simp only [List.nil_append] at h17 | simp only [List.cons_append] at h17 | simp only [List.set_cons_zero] at h17 | simp only [List.set_cons_succ] at h17 | simp only [List.eraseIdx_zero] at h17 | simp only [List.tail_cons] at h17 | simp only [List.eraseIdx_cons_zero] at h17 | simp only [List.eraseIdx_cons_succ] at h17 | simp only [List.setIfInBounds_toArray] at h17)
                  refine wp_region_lit ?_
                  have c_2_0 := h17.cell 2 rfl 0 rfl
                  iterate 1 (refine wpList_plainQ rfl (fun K Q' hK => ?_); go_simp; refine hK _ _ ?_; clear hK K; try clear Q')
                  clear c_2_0
                  have c_0 := h17.cell 0 rfl 0 rfl
                  have f_0 := h17.free 0 rfl 0
                  refine wpList_plainQ rfl (fun K Q' hK => ?_); go_simp
                  clear c_0 f_0
                  refine h17.k_set 0 rfl (fun w18 h18 => ?_)
                  refine hK _ _ ?_; clear hK K; try clear Q'
                  refine wpList_nil ?_
                  show Code.wp _ _ _ _ _
                  repeat (first | simp only [List.nil_append] at h18 | simp only [List.cons_append] at h18 | simp only [List.set_cons_zero] at h18 | simp only [List.set_cons_succ] at h18 | simp only [List.eraseIdx_zero] at h18 | simp only [List.tail_cons] at h18 | simp only [List.eraseIdx_cons_zero] at h18 | simp only [List.eraseIdx_cons_succ] at h18 | simp only [List.setIfInBounds_toArray] at h18)
                  refine wp_region_lit ?_
                  iterate 3 (refine wpList_plainQ rfl (fun K Q' hK => ?_); go_simp; refine hK _ _ ?_; clear hK K; try clear Q')
                  refine wpList_nil ?_
                  -- stops at: end ('roundend',)
                  show _ ∧ _
                  go_roundw
                  case rel =>
                    refine ⟨k + 1, Hp.pop Y, rPo, _, c + pc, d + pd, by omega, by simp, ?_, Hp.sk_pop skY.out, ?_, hPo_17, ?_⟩
                    · show _ ≤ _; rw [Hp.size_pop1 hY.ok]; omega
                    · have := hcd1.out; show _ ≤ _; omega
                    · rw [Int.natCast_add, Int.natCast_add]
                      exact h18.take 2
                  case measure => simp [intOf]; omega
                · obtain ⟨y, hmY⟩ : ∃ y, Hp.min? Y = some y := by
                    have := Hp.isSome_iff hY.ok
                    rw [sY, show decide (0 < sX) = true from decide_eq_true (by omega)] at this
                    cases hh : Hp.min? Y with
                    | none => rw [hh] at this; cases this
                    | some y => exact ⟨y, rfl⟩
                  have ds : 0 < sX := by omega
                  refine wpList_plainQ rfl (fun K Q' hK => ?_); go_simp
                  refine (hpop_ok (m := some bM) (h12.pre_at (i := 1) rfl) (by omega) hY_12).mono ?_
                  rintro e wPo ⟨rPo, HPo, rfl, hpPo, hPo⟩
                  rw [hpc.out, hpd.out] at hpPo
                  simp only [hmY]
                  try simp only [Option.isSome_some]
                  try simp only [Option.isSome_none]
                  have h19 := h12.call_at (i := 1) rfl hpPo
                  have hY_19 := hY_12.mono hpPo.le
                  refine hK _ _ ?_; clear hK K; try clear Q'
                  iterate 3 (refine wpList_plainQ rfl (fun K Q' hK => ?_); go_simp; refine hK _ _ ?_; clear hK K; try clear Q')
                  refine wpList_plainQ rfl (fun K Q' hK => ?_); go_simp
                  refine h19.k_alloc (fun w20 h20 => ?_)
                  refine hK _ _ ?_; clear hK K; try clear Q'
                  have c_0 := h20.cell 2 rfl 0 rfl
                  have f_0 := h20.free 2 rfl 0
                  refine wpList_plainQ rfl (fun K Q' hK => ?_); go_simp
                  clear c_0 f_0
                  refine h20.k_set 2 rfl (fun w21 h21 => ?_)
                  refine hK _ _ ?_; clear hK K; try clear Q'
                  iterate 1 (refine wpList_plainQ rfl (fun K Q' hK => ?_); go_simp; refine hK _ _ ?_; clear hK K; try clear Q')
                  refine wpList_nil ?_
                  show Code.wp _ _ _ _ _
                  refine wp_seq ?_
                  refine wp_seq ?_
                  repeat (first | simp only [List.nil_append] at h21 | simp only [List.cons_append] at h21 | simp only [List.set_cons_zero] at h21 | simp only [List.set_cons_succ] at h21 | simp only [List.eraseIdx_zero] at h21 | simp only [List.tail_cons] at h21 | simp only [List.eraseIdx_cons_zero] at h21 | simp only [List.eraseIdx_cons_succ] at h21 | simp only [List.setIfInBounds_toArray] at h21)
                  refine wp_region_lit ?_
                  iterate 2 (refine wpList_plainQ rfl (fun K Q' hK => ?_); go_simp; refine hK _ _ ?_; clear hK K; try clear Q')
                  -- stops at: eff:call (Go.Op.call {'callee': (Go.Callee.value (Go.Operand.func 25)), 'args': [(Go.Operand.tmp 73), (Go.Operand.tmp 74)], 'argTypes': [41, 3]}) slot 75
                  refine wpList_plainQ rfl (fun K Q' hK => ?_); go_simp
                  refine (since_ok _ _ bM _ _ _ (h21.pre_at (i := 1) rfl)).mono ?_
                  rintro e wS6 ⟨rfl, hpS6⟩
                  rw [since_nat _ _ ps (by have := hcd.out; omega) (by have := hcd.out; omega) (by have := hcd.out; omega) (by have := hps.out; omega)]
                  have h22 := h21.call_at (i := 1) rfl hpS6
                  have hY_22 := hY_19.mono hpS6.le
                  have hPo_22 := hPo.mono hpS6.le
                  refine hK _ _ ?_; clear hK K; try clear Q'
                  iterate 4 (refine wpList_plainQ rfl (fun K Q' hK => ?_); go_simp; refine hK _ _ ?_; clear hK K; try clear Q')
                  have c_0_0 := h22.cell 0 rfl 0 rfl
                  first | go_skip | (iterate 2 (refine wpList_stepQ (o := { dst := _, op := _, type := _, pos := _, after := _, guard := some (6, false) }) (fun K Q' hK => ?_); go_simp; refine hK _ _ ?_; clear hK K; try clear Q')) | skip
                  clear c_0_0
                  -- stops at: eff:call (Go.Op.call {'callee': (Go.Callee.value (Go.Operand.func 19)), 'args': [(Go.Operand.tmp 81)], 'argTypes': [28]}) slot 82
                  refine wpList_stepQ (fun K Q' hK => ?_); go_simp
                  refine (hsize_ok h22.fits (by omega) hY_22).mono ?_
                  rintro e wZ2 ⟨HZ2, rfl, hpZ2⟩
                  rw [sY]
                  have h23 := h22.call0 hpZ2
                  have hY_23 := hY_22.mono hpZ2.le
                  have hPo_23 := hPo_22.mono hpZ2.le
                  refine hK _ _ ?_; clear hK K; try clear Q'
                  first | go_skip | (iterate 2 (refine wpList_stepQ (o := { dst := _, op := _, type := _, pos := _, after := _, guard := some (6, false) }) (fun K Q' hK => ?_); go_simp; refine hK _ _ ?_; clear hK K; try clear Q')) | skip
                  iterate 1 (refine wpList_plainQ rfl (fun K Q' hK => ?_); go_simp; refine hK _ _ ?_; clear hK K; try clear Q')
                  refine wpList_nil ?_
                  show Code.wp _ _ _ _ _
                  -- stops at: cond
                  refine wp_cond_false (rfl) ?_
                  refine wp_skip ?_
                  show Code.wp _ _ _ _ _
                  repeat (first | simp only [List.nil_append] at h23 | simp only [List.cons_append] at h23 | simp only [List.set_cons_zero] at h23 | simp only [List.set_cons_succ] at h23 | simp only [List.eraseIdx_zero] at h23 | simp only [List.tail_cons] at h23 | simp only [List.eraseIdx_cons_zero] at h23 | simp only [List.eraseIdx_cons_succ] at h23 | simp only [List.setIfInBounds_toArray] at h23)
                  refine wp_region_lit ?_
                  have c_2_0 := h23.cell 2 rfl 0 rfl
                  iterate 1 (refine wpList_plainQ rfl (fun K Q' hK => ?_); go_simp; refine hK _ _ ?_; clear hK K; try clear Q')
                  clear c_2_0
                  have c_0 := h23.cell 0 rfl 0 rfl
                  have f_0 := h23.free 0 rfl 0
                  refine wpList_plainQ rfl (fun K Q' hK => ?_); go_simp
                  clear c_0 f_0
                  refine h23.k_set 0 rfl (fun w24 h24 => ?_)
                  refine hK _ _ ?_; clear hK K; try clear Q'
                  refine wpList_nil ?_
                  show Code.wp _ _ _ _ _
                  repeat (first | simp only [List.nil_append] at h24 | simp only [List.cons_append] at h24 | simp only [List.set_cons_zero] at h24 | simp only [List.set_cons_succ] at h24 | simp only [List.eraseIdx_zero] at h24 | simp only [List.tail_cons] at h24 | simp only [List.eraseIdx_cons_zero] at h24 | simp only [List.eraseIdx_cons_succ] at h24 | simp only [List.setIfInBounds_toArray] at h24)
                  refine wp_region_lit ?_
                  iterate 3 (refine wpList_plainQ rfl (fun K Q' hK => ?_); go_simp; refine hK _ _ ?_; clear hK K; try clear Q')
                  refine wpList_nil ?_
                  -- stops at: end ('roundend',)
                  show _ ∧ _
                  go_roundw
                  case rel =>
                    refine ⟨k + 1, Hp.pop Y, rPo, _, c + pc, d + pd, by omega, by simp, ?_, Hp.sk_pop skY.out, ?_, hPo_23, ?_⟩
                    · show _ ≤ _; rw [Hp.size_pop1 hY.ok]; omega
                    · have := hcd1.out; show _ ≤ _; omega
                    · rw [Int.natCast_add, Int.natCast_add]
                      exact h24.take 2
                  case measure => simp [intOf]; omega
          · obtain rfl : k = k9 := by omega
            refine wp_seq ?_
            refine wp_seq ?_
            refine wp_region_lit ?_
            iterate 5 (refine wpList_plainQ rfl (fun K Q' hK => ?_); go_simp; refine hK _ _ ?_; clear hK K; try clear Q')
            refine wpList_nil ?_
            show Code.wp _ _ _ _ _
            -- stops at: cond
            refine wp_cond_false (rfl) ?_
            refine wp_exit ?_
            show Code.wp _ _ _ _ _
            refine wp_seq ?_
            refine wp_region_lit ?_
            iterate 1 (refine wpList_plainQ rfl (fun K Q' hK => ?_); go_simp; refine hK _ _ ?_; clear hK K; try clear Q')
            refine wpList_nil ?_
            show Code.wp _ _ _ _ _
            -- stops at: ret
            refine wp_ret ?_
            go_ret
            exact ⟨rfl, hs.post.keep⟩
  · have hl1 : decide ((100 : Int) < (a.length : Int)) = true := by simp; omega
    go_enter Tryd.func4, Tryd.ntmps4
    have h0 := St.start hpre
    refine wp_seq ?_
    repeat (first | simp only [List.nil_append] at h0 | simp only [List.cons_append] at h0 | simp only [List.set_cons_zero] at h0 | simp only [List.set_cons_succ] at h0 | simp only [List.eraseIdx_zero] at h0 | simp only [List.tail_cons] at h0 | simp only [List.eraseIdx_cons_zero] at h0 | simp only [List.eraseIdx_cons_succ] at h0 | simp only [List.setIfInBounds_toArray] at h0)
    refine wp_region_lit ?_
    iterate 1 (refine wpList_plainQ rfl (fun K Q' hK => ?_); go_simp; refine hK _ _ ?_; clear hK K; try clear Q')
    refine wpList_nil ?_
    show Code.wp _ _ _ _ _
    refine wp_seq ?_
    refine wp_region_lit ?_
    -- stops at: eff:call (Go.Op.call {'callee': (Go.Callee.value (Go.Operand.func 13)), 'args': [], 'argTypes': []}) slot 16
    refine wpList_plainQ rfl (fun K Q' hK => ?_); go_simp
    refine (awake_ok H _ h0.fits htab).mono ?_
    rintro e wAw ⟨HAw, rfl, hpAw⟩
    have h1 := h0.call0 hpAw
    have htab_1 := htab.mono hpAw.le
    refine hK _ _ ?_; clear hK K; try clear Q'
    iterate 1 (refine wpList_plainQ rfl (fun K Q' hK => ?_); go_simp; refine hK _ _ ?_; clear hK K; try clear Q')
    refine wpList_nil ?_
    show Code.wp _ _ _ _ _
    refine wp_seq ?_
    refine wp_seq ?_
    repeat (first | simp only [List.nil_append] at h1 | simp only [List.cons_append] at h1 | simp only [List.set_cons_zero] at h1 | simp only [List.set_cons_succ] at h1 | simp only [List.eraseIdx_zero] at h1 | simp only [List.tail_cons] at h1 | simp only [List.eraseIdx_cons_zero] at h1 | simp only [List.eraseIdx_cons_succ] at h1 | simp only [List.setIfInBounds_toArray] at h1)
    refine wp_region_lit ?_
    iterate 2 (refine wpList_plainQ rfl (fun K Q' hK => ?_); go_simp; refine hK _ _ ?_; clear hK K; try clear Q')
    refine wpList_nil ?_
    show Code.wp _ _ _ _ _
    -- stops at: cond
    refine wp_cond_false (rfl) ?_
    refine wp_skip ?_
    show Code.wp _ _ _ _ _
    refine wp_seq ?_
    refine wp_seq ?_
    refine wp_region_lit ?_
    iterate 3 (refine wpList_plainQ rfl (fun K Q' hK => ?_); go_simp; refine hK _ _ ?_; clear hK K; try clear Q')
    refine wpList_nil ?_
    show Code.wp _ _ _ _ _
    -- stops at: cond
    refine wp_cond_true (rfl) ?_
    refine wp_seq ?_
    refine wp_region_lit ?_
    iterate 1 (refine wpList_plainQ rfl (fun K Q' hK => ?_); go_simp; refine hK _ _ ?_; clear hK K; try clear Q')
    refine wpList_nil ?_
    show Code.wp _ _ _ _ _
    -- stops at: ret
    refine wp_ret ?_
    go_ret
    exact ⟨rfl, h1.post.keep⟩
end Go.Proofs.YtibhpcafhgmkiaaDoor
