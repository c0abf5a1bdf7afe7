/-
BootSteps: its walk (the bounds, each time, for heaps whose others are heaps).
-/
import Derived.Test.YtceamdacacacjaaDoorQbPlain
import Derived.Test.YtceamdacacacjaaDoorMiSkewUp
import Derived.Test.YtceamdacacacjaaDoorGdOrdS
namespace Go.Proofs.YtceamdacacacjaaDoor
open Go Go.RowKit
set_option linter.unusedVariables false

theorem bits_mono {a b : Nat} (h : a ≤ b) : bits a ≤ bits b := by
  induction b using Nat.strongRecOn generalizing a with
  | _ b ih =>
    by_cases ha : a = 0
    · subst ha; rw [bits_zero]; omega
    · rw [bits_pos ha, bits_pos (n := b) (by omega)]
      have := ih (b / 2) (by omega) (a := a / 2) (by omega)
      omega
namespace BH
/-- Ranks rise, at every depth. -/
def upb : BH → Prop
  | mk x q => Rw.wup q ∧ ∀ y : {y // y ∈ Rw.els q}, upb y.1
termination_by t => SizeOf.sizeOf t
decreasing_by exact mk_size y.1 y.2
theorem upb_mk (x : El) (q : List (Tr BH)) : upb (mk x q) ↔ Rw.wup q ∧ ∀ y ∈ Rw.els q, upb y := by
  rw [upb]
  exact ⟨fun h => ⟨h.1, fun y hy => h.2 ⟨y, hy⟩⟩, fun h => ⟨h.1, fun y => h.2 y.1 y.2⟩⟩
theorem upb_eq (h : BH) : upb h ↔ Rw.wup h.queue ∧ ∀ y ∈ Rw.els h.queue, upb y := by cases h with | mk x q => exact upb_mk x q
theorem upb_single (x : El) : upb (single x) := (upb_mk x []).2 ⟨trivial, fun y hy => by simp [Rw.els] at hy⟩
theorem win_upb {a b : BH} (ha : upb a) (hb : upb b) : upb (win a b) := by
  have ha' := (upb_eq a).1 ha
  have hb' := (upb_eq b).1 hb
  cases h : El.lt b.root a.root with
  | true =>
    rw [win_lt h, upb_mk]
    refine ⟨Sk.insert_wup root a hb'.1, fun y hy => ?_⟩
    rcases List.mem_cons.1 ((Sk.insert_perm root a b.queue).subset hy) with rfl | hy
    · exact ha
    · exact hb'.2 y hy
  | false =>
    rw [win_ge h, upb_mk]
    refine ⟨Sk.insert_wup root b ha'.1, fun y hy => ?_⟩
    rcases List.mem_cons.1 ((Sk.insert_perm root b a.queue).subset hy) with rfl | hy
    · exact hb
    · exact ha'.2 y hy
theorem pop_upb {h g : BH} (hh : upb h) (e : pop h = some g) : upb g := by
  have hh' := (upb_eq h).1 hh
  cases hm : Rw.minT root h.queue with
  | none => rw [pop_none hm] at e; cases e
  | some t =>
    rw [pop_some hm] at e
    obtain rfl := Option.some.inj e
    have hp := Sk.pop_perm root hm
    have htx := (upb_eq t.x).1 (hh'.2 t.x (hp.subset (by simp)))
    rw [upb_mk]
    refine ⟨Sk.meld_wup root htx.1 (Sk.pop_wup root hh'.1), fun y hy => ?_⟩
    rcases List.mem_append.1 ((Sk.meld_perm root t.x.queue _).subset hy) with hy | hy
    · exact htx.2 y hy
    · exact hh'.2 y (hp.subset (List.mem_cons_of_mem _ hy))
end BH
namespace Hp
/-- Ranks rise, at every depth. -/
def sk : Hp → Prop
  | none => True
  | some t => t.upb
theorem sk_nil : sk nil := trivial
theorem sk_meld {s t : Hp} (hs : sk s) (ht : sk t) : sk (meld s t) := by
  cases s with
  | none => exact ht
  | some a =>
    cases t with
    | none => exact hs
    | some b => exact BH.win_upb hs ht
theorem sk_insert (x : El) {t : Hp} (h : sk t) : sk (insert x t) := sk_meld (BH.upb_single x) h
theorem sk_pop {t : Hp} (h : sk t) : sk (pop t) := by
  cases t with
  | none => trivial
  | some t =>
    show sk t.pop
    cases e : t.pop with
    | none => trivial
    | some g => exact BH.pop_upb h e
theorem meld_steps (s t : Hp) : meldC s t + meldD s t ≤ 6 := by
  match s, t with
  | none, _ => exact Nat.zero_le _
  | some a, none => exact Nat.zero_le _
  | some a, some b =>
    have := Sk.insert_steps (BH.winQ a b)
    show 1 + Sk.insC (BH.winQ a b) + (Sk.insD (BH.winQ a b) + 1) ≤ 6
    omega
theorem ins_steps (x : El) (t : Hp) : insC x t + insD x t ≤ 7 := by
  have := meld_steps (some (BH.single x)) t
  unfold insC insD
  omega
theorem pop_steps {t : Hp} (h : sk t) : popC t + popD t ≤ 14 * bits (size t) := by
  match t, h with
  | none, _ => exact Nat.zero_le _
  | some t, h =>
    have h' := (BH.upb_eq t).1 h
    cases hm : Rw.minT BH.root t.queue with
    | none =>
      have e1 : popC (some t) = 0 := by show (match Rw.minT BH.root t.queue with | none => 0 | some tr => _) = _; rw [hm]
      have e2 : popD (some t) = 0 := by show (match Rw.minT BH.root t.queue with | none => 0 | some tr => _) = _; rw [hm]
      omega
    | some tr =>
      have e1 : popC (some t) = (t.queue.length - 1) + Sk.popC BH.root t.queue + Sk.meldN BH.root tr.x.queue (Sk.pop BH.root t.queue) := by
        show (match Rw.minT BH.root t.queue with | none => 0 | some tr => (t.queue.length - 1) + Sk.popC BH.root t.queue + Sk.meldN BH.root tr.x.queue (Sk.pop BH.root t.queue)) = _
        rw [hm]
      have e2 : popD (some t) = Sk.popD BH.root t.queue + Sk.meldN BH.root tr.x.queue (Sk.pop BH.root t.queue) + 1 := by
        show (match Rw.minT BH.root t.queue with | none => 0 | some tr => Sk.popD BH.root t.queue + Sk.meldN BH.root tr.x.queue (Sk.pop BH.root t.queue) + 1) = _
        rw [hm]
      have hp := Sk.pop_perm BH.root hm
      have hmem : tr.x ∈ Rw.els t.queue := hp.subset (by simp)
      have htx := (BH.upb_eq tr.x).1 (h'.2 tr.x hmem)
      have a1 := Sk.pop_steps BH.root h'.1
      have a2 := Rw.wup_length h'.1
      have a3 := Sk.meldN_le BH.root tr.x.queue (Sk.pop BH.root t.queue)
      have a4 := Rw.wup_length htx.1
      have a5 := Rw.wup_length (Sk.pop_wup BH.root h'.1)
      have s1 : Rw.size (Sk.pop BH.root t.queue) + 1 = Rw.size t.queue := hp.length_eq
      have s2 := BH.queue_le t
      have s3 := BH.queue_le tr.x
      have s4 := BH.sum_mem hmem
      have s5 : t.els.length = (BH.elsL (Rw.els t.queue)).length + 1 := by rw [BH.els_eq]; rfl
      have b1 := bits_mono (a := Rw.size t.queue) (b := t.els.length) (by omega)
      have b2 := bits_mono (a := Rw.size tr.x.queue) (b := t.els.length) (by omega)
      have b3 := bits_mono (a := Rw.size (Sk.pop BH.root t.queue)) (b := Rw.size t.queue) (by omega)
      have b4 := bits_pos (n := Rw.size t.queue) (by omega)
      show _ ≤ 14 * bits t.els.length
      omega
theorem sk_ofL (l : List El) : sk (ofL l) := ofL_ind (p := fun _ t => sk t) sk_nil (fun _ x _ h => sk_insert x h) l
theorem size_pop1 {t : Hp} (h : ok t) : size (pop t) = size t - 1 := by
  cases hm : min? t with
  | none =>
    have h1 := min_none h hm
    rw [pop_none h hm]
    show (els t).length = (els t).length - 1
    rw [h1]; rfl
  | some x =>
    have := (min_perm h hm).length_eq
    show (els (pop t)).length = (els t).length - 1
    simp at this
    omega
end Hp
/-- How many bits there are at most. -/
theorem bits_le (n : Nat) : bits n ≤ n := by
  induction n using Nat.strongRecOn with
  | _ n ih =>
    by_cases h : n = 0
    · subst h; rw [bits_zero]; omega
    · rw [bits_pos h]
      have := ih (n / 2) (by omega)
      omega
theorem since_nat (s n : Int) (e : Nat) (h0 : 0 ≤ n) (h1 : n ≤ 1000000000) (h2 : e ≤ 1000000000) (hs : s = n + (e : Int)) : IntKind.i64.wrap (IntKind.i64.wrap s - n) = (e : Int) := by
  subst hs
  rw [IntWalk.i64_in (n + (e : Int)) (by omega), IntWalk.i64_in _ (by omega)]
  omega

set_option maxRecDepth 100000 in
set_option maxHeartbeats 16000000 in
theorem steps_walk (H : GH) (w : World) (v : Value) (a : List El) (u : Value) (b : List El) (n : Int) (hf : Fits w H) (htab : TabH H) (ha : ElRep H v a) (fa : ∀ x ∈ a, El.fits x) (hb : ElRep H u b) (fb : ∀ x ∈ b, El.fits x) (hn : 0 ≤ n ∧ n ≤ 255) :
    Calls Tryd.prog 12 #[v, u, .int .u8 n] w fun e w' => e = .returned (.bool true) ∧ Keep none w w' := by
  have hpre : Pre w H none 0 0 := Pre.none hf 0 0
  obtain ⟨aa, ca, rfl, _, _⟩ := ha.nil_or
  obtain ⟨ab, cb, rfl, _, _⟩ := hb.nil_or
  obtain ⟨n, rfl⟩ := Int.eq_ofNat_of_zero_le hn.1
  have en : IntKind.i64.wrap (n : Int) = (n : Int) := IntWalk.i64_in _ (by omega)
  obtain ⟨k9, hk9, hk9l⟩ : ∃ k : Nat, (n : Int).tmod 12 = (k : Int) ∧ k < 12 := ⟨n % 12, rfl, Nat.mod_lt _ (by omega)⟩
  by_cases hl : a.length ≤ 100
  · have hl1 : decide ((100 : Int) < (a.length : Int)) = false := by simp; omega
    by_cases hlb : b.length ≤ 100
    · have hl2 : decide ((100 : Int) < (b.length : Int)) = false := by simp; omega
      as_aux_lemma =>
      go_enter Tryd.func12, Tryd.ntmps12
      have h0 := St.start hpre
      refine wp_seq ?_
      repeat (first | simp only [List.nil_append] at h0 | simp only [List.cons_append] at h0 | simp only [List.set_cons_zero] at h0 | simp only [List.set_cons_succ] at h0 | simp only [List.eraseIdx_zero] at h0 | simp only [List.tail_cons] at h0 | simp only [List.eraseIdx_cons_zero] at h0 | simp only [List.eraseIdx_cons_succ] at h0 | simp only [List.setIfInBounds_toArray] at h0)
      refine wp_region_lit ?_
      iterate 1 (refine wpList_plainQ rfl (fun K Q' hK => ?_); go_simp; refine hK _ _ ?_; clear hK K; try clear Q')
      refine wpList_nil ?_
      show Code.wp _ _ _ _ _
      refine wp_seq ?_
      refine wp_region_lit ?_
      -- stops at: eff:call (Go.Op.call {'callee': (Go.Callee.value (Go.Operand.func 13)), 'args': [], 'argTypes': []}) slot 19
      refine wpList_plainQ rfl (fun K Q' hK => ?_); go_simp
      refine (awake_ok H _ h0.fits htab).mono ?_
      rintro e wAw ⟨HAw, rfl, hpAw⟩
      have h1 := h0.call0 hpAw
      have htab_1 := htab.mono hpAw.le
      have ha_1 := ha.mono hpAw.le
      have hb_1 := hb.mono hpAw.le
      refine hK _ _ ?_; clear hK K; try clear Q'
      iterate 1 (refine wpList_plainQ rfl (fun K Q' hK => ?_); go_simp; refine hK _ _ ?_; clear hK K; try clear Q')
      refine wpList_nil ?_
      show Code.wp _ _ _ _ _
      refine wp_seq ?_
      refine wp_seq ?_
      repeat (first | simp only [List.nil_append] at h1 | simp only [List.cons_append] at h1 | simp only [List.set_cons_zero] at h1 | simp only [List.set_cons_succ] at h1 | simp only [List.eraseIdx_zero] at h1 | simp only [List.tail_cons] at h1 | simp only [List.eraseIdx_cons_zero] at h1 | simp only [List.eraseIdx_cons_succ] at h1 | simp only [List.setIfInBounds_toArray] at h1)
      refine wp_region_lit ?_
      iterate 2 (refine wpList_plainQ rfl (fun K Q' hK => ?_); go_simp; refine hK _ _ ?_; clear hK K; try clear Q')
      refine wpList_nil ?_
      show Code.wp _ _ _ _ _
      -- stops at: cond
      refine wp_cond_false (rfl) ?_
      refine wp_skip ?_
      show Code.wp _ _ _ _ _
      refine wp_seq ?_
      refine wp_seq ?_
      refine wp_region_lit ?_
      iterate 4 (refine wpList_plainQ rfl (fun K Q' hK => ?_); go_simp; refine hK _ _ ?_; clear hK K; try clear Q')
      first | go_skip | (iterate 3 (refine wpList_stepQ (o := { dst := _, op := _, type := _, pos := _, after := _, guard := some (3, false) }) (fun K Q' hK => ?_); go_simp; refine hK _ _ ?_; clear hK K; try clear Q')) | skip
      iterate 1 (refine wpList_plainQ rfl (fun K Q' hK => ?_); go_simp; refine hK _ _ ?_; clear hK K; try clear Q')
      refine wpList_nil ?_
      show Code.wp _ _ _ _ _
      -- stops at: cond
      refine wp_cond_false (rfl) ?_
      refine wp_skip ?_
      show Code.wp _ _ _ _ _
      refine wp_seq ?_
      refine wp_region_lit ?_
      iterate 1 (refine wpList_plainQ rfl (fun K Q' hK => ?_); go_simp; refine hK _ _ ?_; clear hK K; try clear Q')
      refine wpList_plainQ rfl (fun K Q' hK => ?_); go_simp
      refine h1.k_alloc (fun w2 h2 => ?_)
      refine hK _ _ ?_; clear hK K; try clear Q'
      have c_0 := h2.cell 0 rfl 0 rfl
      have f_0 := h2.free 0 rfl 0
      refine wpList_plainQ rfl (fun K Q' hK => ?_); go_simp
      clear c_0 f_0
      refine h2.k_set 0 rfl (fun w3 h3 => ?_)
      refine hK _ _ ?_; clear hK K; try clear Q'
      refine wpList_nil ?_
      show Code.wp _ _ _ _ _
      refine wp_seq ?_
      repeat (first | simp only [List.nil_append] at h3 | simp only [List.cons_append] at h3 | simp only [List.set_cons_zero] at h3 | simp only [List.set_cons_succ] at h3 | simp only [List.eraseIdx_zero] at h3 | simp only [List.tail_cons] at h3 | simp only [List.eraseIdx_cons_zero] at h3 | simp only [List.eraseIdx_cons_succ] at h3 | simp only [List.setIfInBounds_toArray] at h3)
      refine wp_region_lit ?_
      -- stops at: eff:call (Go.Op.call {'callee': (Go.Callee.value (Go.Operand.func 22)), 'args': [], 'argTypes': []}) slot 31
      refine wpList_plainQ rfl (fun K Q' hK => ?_); go_simp
      refine (new_ok _ _ h3.fits).mono ?_
      rintro e wM ⟨bM, rfl, hkM, hbM, hoM⟩
      have hM := h3.callnew hkM hbM hoM rfl
      refine hK _ _ ?_; clear hK K; try clear Q'
      iterate 1 (refine wpList_plainQ rfl (fun K Q' hK => ?_); go_simp; refine hK _ _ ?_; clear hK K; try clear Q')
      refine wpList_nil ?_
      show Code.wp _ _ _ _ _
      refine wp_seq ?_
      refine wp_seq ?_
      repeat (first | simp only [List.nil_append] at hM | simp only [List.cons_append] at hM | simp only [List.set_cons_zero] at hM | simp only [List.set_cons_succ] at hM | simp only [List.eraseIdx_zero] at hM | simp only [List.tail_cons] at hM | simp only [List.eraseIdx_cons_zero] at hM | simp only [List.eraseIdx_cons_succ] at hM | simp only [List.setIfInBounds_toArray] at hM)
      refine wp_region_lit ?_
      iterate 1 (refine wpList_plainQ rfl (fun K Q' hK => ?_); go_simp; refine hK _ _ ?_; clear hK K; try clear Q')
      refine wpList_nil ?_
      show Code.wp _ _ _ _ _
      refine wp_block ?_
      -- stops at: loop
      go_loopw [10] (fun v10 wr => ∃ (k : Nat) (X : Hp) (q : Option Addr) (H' : GH) (c d : Nat), k ≤ a.length ∧ v10 = .int .i64 k ∧ GH.le H H' ∧ Hid ((Hp.els X).Perm (a.take k)) ∧ Hid (Hp.sk X) ∧ Hid (c + d ≤ 7 * k) ∧ HpR H' q X ∧ St w H none 0 0 wr H' [(wAw.heap.size, .cells #[.pointer q] 26), (bM, meterObj c d)] []) (fun v10 _ => a.length - (intOf v10).toNat)
      case atStart => exact ⟨0, Hp.nil, none, _, 0, 0, by omega, rfl, hM.le, by simp [Hp.els_nil, Hid], Hp.sk_nil, Nat.zero_le _, HpR.nil _, hM⟩
      case round =>
        obtain ⟨k, X, q, H7, c, d, hk, rfl, hle7, pX, skX, hcd0, hX, hs⟩ := hrel
        have hcd : Hid (c + d ≤ 700) := by have := hcd0.out; show _ ≤ _; omega
        have sX : Hp.size X = k := by rw [Hp.size_eq, pX.out.length_eq]; simp; omega
        by_cases hlt : k < a.length
        · skip
          as_aux_lemma =>
          obtain ⟨b9, o9, cap9, ee, _⟩ := ha.ne_nil (by omega)
          simp only [Value.slice.injEq, true_and] at ee
          obtain ⟨rfl, rfl⟩ := ee
          obtain ⟨c1, c2⟩ := elRep_cells ha (k := k) (a := a[k]) (by simp [hlt])
          obtain ⟨y, hy⟩ : ∃ y0, Hid (a[k] = y0) := ⟨a[k], show _ = _ from rfl⟩
          rw [hy.out] at c1 c2
          have hly : a[k]? = some y := by rw [List.getElem?_eq_getElem hlt, hy.out]
          have htk : a.take (k + 1) = a.take k ++ [y] := by rw [List.take_add_one, hly]; rfl
          have e1 : IntKind.i64.wrap ((k : Int) + 1) = (k : Int) + 1 := IntWalk.i64_in _ (by omega)
          have fy : El.fits y := by rw [← hy.out]; exact fa _ (List.getElem_mem hlt)
          obtain ⟨ic, hic⟩ : ∃ n, Hid (Hp.insC y X = n) := ⟨_, show _ = _ from rfl⟩
          obtain ⟨id, hid⟩ : ∃ n, Hid (Hp.insD y X = n) := ⟨_, show _ = _ from rfl⟩
          have hicd : ic + id ≤ 7 := by rw [← hic.out, ← hid.out]; exact Hp.ins_steps y X
          obtain ⟨is, hee⟩ : ∃ n, Hid (ic + id = n) := ⟨_, show _ = _ from rfl⟩
          have hisl : is ≤ 7 := by have := hee.out; omega
          have d4 : decide ((7 : Int) < (is : Int)) = false := decide_eq_false (by omega)
          refine wp_seq ?_
          refine wp_seq ?_
          repeat (first | simp only [List.nil_append] at hs | simp only [List.cons_append] at hs | simp only [List.set_cons_zero] at hs | simp only [List.set_cons_succ] at hs | simp only [List.eraseIdx_zero] at hs | simp only [List.tail_cons] at hs | simp only [List.eraseIdx_cons_zero] at hs | simp only [List.eraseIdx_cons_succ] at hs | simp only [List.setIfInBounds_toArray] at hs)
          refine wp_region_lit ?_
          iterate 4 (refine wpList_plainQ rfl (fun K Q' hK => ?_); go_simp; refine hK _ _ ?_; clear hK K; try clear Q')
          refine wpList_nil ?_
          show Code.wp _ _ _ _ _
          -- stops at: cond
          refine wp_cond_true (rfl) ?_
          refine wp_skip ?_
          show Code.wp _ _ _ _ _
          refine wp_seq ?_
          refine wp_block ?_
          refine wp_seq ?_
          refine wp_region_lit ?_
          iterate 1 (refine wpList_plainQ rfl (fun K Q' hK => ?_); go_simp; refine hK _ _ ?_; clear hK K; try clear Q')
          -- stops at: eff:call (Go.Op.call {'callee': (Go.Callee.value (Go.Operand.func 29)), 'args': [(Go.Operand.tmp 38)], 'argTypes': [36]}) slot 39
          refine wpList_plainQ rfl (fun K Q' hK => ?_); go_simp
          refine (steps_ok _ _ bM _ _ (hs.pre_at (i := 1) rfl)).mono ?_
          rintro e wS1 ⟨rfl, hpS1⟩
          rw [show IntKind.i64.wrap ((c : Int) + (d : Int)) = ((c : Int) + (d : Int)) from IntWalk.i64_in _ (by have := hcd.out; omega)]
          have h4 := hs.call_at (i := 1) rfl hpS1
          have hX_4 := hX.mono hpS1.le
          refine hK _ _ ?_; clear hK K; try clear Q'
          iterate 1 (refine wpList_plainQ rfl (fun K Q' hK => ?_); go_simp; refine hK _ _ ?_; clear hK K; try clear Q')
          refine wpList_nil ?_
          show Code.wp _ _ _ _ _
          refine wp_seq ?_
          repeat (first | simp only [List.nil_append] at h4 | simp only [List.cons_append] at h4 | simp only [List.set_cons_zero] at h4 | simp only [List.set_cons_succ] at h4 | simp only [List.eraseIdx_zero] at h4 | simp only [List.tail_cons] at h4 | simp only [List.eraseIdx_cons_zero] at h4 | simp only [List.eraseIdx_cons_succ] at h4 | simp only [List.setIfInBounds_toArray] at h4)
          refine h4.region [] [(1, true), (2, true), (3, true), (4, true), (5, true), (0, false), (6, false), (7, false)] (by kernel_rfl) (by kernel_rfl) (fun w5 h5 => ?_)
          refine wpOrd_hide (fun _ _ d _ _ h => by cases d <;> exact h) (fun QR hQn hQp => ?_)
          simp only [ordOps, List.map_cons, List.map_nil, List.getD_cons_zero, List.getD_cons_succ]
          iterate 4 (refine wpOrd_quiet (v := ?_) rfl (fun _ _ _ => hQp _ _ _ _ _) ?_ ?_; rotate_left; (intro w' hS; (first | (go_simp; done) | (go_simp; with_reducible rfl))); simp only [Act.put, List.setIfInBounds_toArray, List.set_cons_zero, List.set_cons_succ])
          -- stops at: load (Go.Op.load 41 (Go.Operand.tmp 44)) slot 45
          iterate 1 (refine wpOrd_quiet (v := ?_) rfl (fun _ _ _ => hQp _ _ _ _ _) ?_ ?_; rotate_left; (intro w' hS; have ce := c1.out _ (hS.1.le hle7); have ce2 := c2.out _ (hS.1.le hle7); (first | (go_simp; done) | (go_simp; with_reducible rfl))); simp only [Act.put, List.setIfInBounds_toArray, List.set_cons_zero, List.set_cons_succ])
          have c_0_0 := h5.cell 0 rfl 0 rfl
          refine wpOrd_effQ rfl (fun K Q' hK => ?_); go_simp
          refine hK _ _ (h5.sat' (GH.le_refl _) [] (sel_nil2 _ _)) ?_; clear hK K; try clear Q'
          clear c_0_0
          -- stops at: eff:call (Go.Op.call {'callee': (Go.Callee.value (Go.Operand.func 23)), 'args': [(Go.Operand.tmp 40), (Go.Operand.tmp 41), (Go.Operand.tmp 45)], 'argTypes': [26, 36, 41] slot 46
          refine wpOrd_effQ rfl (fun K Q' hK => ?_); go_simp
          refine (hinsert_ok (m := some bM) y fy (h5.pre_at (i := 1) rfl) (by omega) hX_4).mono ?_
          rintro e wI ⟨rI, HI, rfl, hpI, hI⟩
          rw [hic.out, hid.out] at hpI
          have sI : Hp.size (Hp.insert y X) = _ := Hp.size_insert y hX.ok
          rw [sX] at sI
          have h6 := h5.call_at (i := 1) rfl hpI
          have hX_6 := hX_4.mono hpI.le
          refine hK _ _ (h6.sat' hpI.le [] (sel_nil2 _ _)) ?_; clear hK K; try clear Q'
          as_aux_lemma =>
          have c_0 := h6.cell 0 rfl 0 rfl
          have f_0 := h6.free 0 rfl 0
          refine wpOrd_effQ rfl (fun K Q' hK => ?_); go_simp
          clear c_0 f_0
          refine h6.k_set 0 rfl (fun w7 h7 => ?_)
          refine hK _ _ (h7.sat' hpI.le [] (sel_nil2 _ _)) ?_; clear hK K; try clear Q'
          refine wpOrd_nil (hQn _ _ ?_); clear hQn hQp QR
          show Code.wp _ _ _ _ _
          refine wp_seq ?_
          repeat (first | simp only [List.nil_append] at h7 | simp only [List.cons_append] at h7 | simp only [List.set_cons_zero] at h7 | simp only [List.set_cons_succ] at h7 | simp only [List.eraseIdx_zero] at h7 | simp only [List.tail_cons] at h7 | simp only [List.eraseIdx_cons_zero] at h7 | simp only [List.eraseIdx_cons_succ] at h7 | simp only [List.setIfInBounds_toArray] at h7)
          refine wp_region_lit ?_
          iterate 2 (refine wpList_plainQ rfl (fun K Q' hK => ?_); go_simp; refine hK _ _ ?_; clear hK K; try clear Q')
          -- stops at: eff:call (Go.Op.call {'callee': (Go.Callee.value (Go.Operand.func 30)), 'args': [(Go.Operand.tmp 47), (Go.Operand.tmp 48)], 'argTypes': [36, 3]}) slot 49
          refine wpList_plainQ rfl (fun K Q' hK => ?_); go_simp
          refine (since_ok _ _ bM _ _ _ (h7.pre_at (i := 1) rfl)).mono ?_
          rintro e wS2 ⟨rfl, hpS2⟩
          rw [since_nat _ _ is (by have := hcd.out; omega) (by have := hcd.out; omega) (by have := hcd.out; omega) (by have := hee.out; omega)]
          have h8 := h7.call_at (i := 1) rfl hpS2
          have hX_8 := hX_6.mono hpS2.le
          have hI_8 := hI.mono hpS2.le
          refine hK _ _ ?_; clear hK K; try clear Q'
          iterate 1 (refine wpList_plainQ rfl (fun K Q' hK => ?_); go_simp; refine hK _ _ ?_; clear hK K; try clear Q')
          refine wpList_nil ?_
          show Code.wp _ _ _ _ _
          -- stops at: cond
          refine wp_cond_false (rfl) ?_
          refine wp_skip ?_
          show Code.wp _ _ _ _ _
          repeat (first | simp only [List.nil_append] at h8 | simp only [List.cons_append] at h8 | simp only [List.set_cons_zero] at h8 | simp only [List.set_cons_succ] at h8 | simp only [List.eraseIdx_zero] at h8 | simp only [List.tail_cons] at h8 | simp only [List.eraseIdx_cons_zero] at h8 | simp only [List.eraseIdx_cons_succ] at h8 | simp only [List.setIfInBounds_toArray] at h8)
          refine wp_region_lit ?_
          iterate 3 (refine wpList_plainQ rfl (fun K Q' hK => ?_); go_simp; refine hK _ _ ?_; clear hK K; try clear Q')
          refine wpList_nil ?_
          -- stops at: end ('roundend',)
          show _ ∧ _
          go_roundw
          case rel =>
            refine ⟨k + 1, Hp.insert y X, rI, _, c + ic, d + id, by omega, by simp, GH.le.trans hle7 hpI.le, ?_, Hp.sk_insert y skX.out, ?_, hI_8, ?_⟩
            · rw [htk]
              exact (Hp.els_insert y hX.ok).trans ((pX.out.cons y).trans (List.perm_append_singleton y _).symm)
            · have := hcd0.out; show _ ≤ _; omega
            · rw [Int.natCast_add, Int.natCast_add]
              exact h8
          case measure => simp [intOf]; omega
        · obtain rfl : k = a.length := by omega
          as_aux_lemma =>
          rw [List.take_length] at pX
          have hbY : ElRep H7 _ b := hb.mono hle7
          refine wp_seq ?_
          refine wp_seq ?_
          repeat (first | simp only [List.nil_append] at hs | simp only [List.cons_append] at hs | simp only [List.set_cons_zero] at hs | simp only [List.set_cons_succ] at hs | simp only [List.eraseIdx_zero] at hs | simp only [List.tail_cons] at hs | simp only [List.eraseIdx_cons_zero] at hs | simp only [List.eraseIdx_cons_succ] at hs | simp only [List.setIfInBounds_toArray] at hs)
          refine wp_region_lit ?_
          iterate 4 (refine wpList_plainQ rfl (fun K Q' hK => ?_); go_simp; refine hK _ _ ?_; clear hK K; try clear Q')
          refine wpList_nil ?_
          show Code.wp _ _ _ _ _
          -- stops at: cond
          refine wp_cond_false (rfl) ?_
          refine wp_exit ?_
          show Code.wp _ _ _ _ _
          refine wp_seq ?_
          refine wp_region_lit ?_
          iterate 1 (refine wpList_plainQ rfl (fun K Q' hK => ?_); go_simp; refine hK _ _ ?_; clear hK K; try clear Q')
          -- stops at: eff:call (Go.Op.call {'callee': (Go.Callee.value (Go.Operand.func 14)), 'args': [(Go.Operand.const (Go.Value.pointer none)), (Go.Operand.tmp 51)], 'argTypes': [36, 22]}) slot 52
          refine wpList_plainQ rfl (fun K Q' hK => ?_); go_simp
          refine (hof_ok (m := none) (xs := b) fb hs.pre (by omega) hbY).mono ?_
          rintro e wXo ⟨rXo, HXo, rfl, hpXo, hXo⟩
          obtain ⟨Xo, eXo⟩ : ∃ hp0, Hid (Hp.ofL b = hp0) := ⟨_, show _ = _ from rfl⟩
          rw [eXo.out] at hXo
          have oXo := hXo.ok
          have pXo : Hid ((Hp.els Xo).Perm (b)) := by rw [← eXo.out]; exact Hp.els_ofL _
          have sXo : Hp.size Xo = (b).length := pXo.out.length_eq
          have h9 := hs.call0 hpXo
          have hX_9 := hX.mono hpXo.le
          have hbY_9 := hbY.mono hpXo.le
          refine hK _ _ ?_; clear hK K; try clear Q'
          refine wpList_plainQ rfl (fun K Q' hK => ?_); go_simp
          refine h9.k_alloc (fun w10 h10 => ?_)
          refine hK _ _ ?_; clear hK K; try clear Q'
          have c_0 := h10.cell 2 rfl 0 rfl
          have f_0 := h10.free 2 rfl 0
          refine wpList_plainQ rfl (fun K Q' hK => ?_); go_simp
          clear c_0 f_0
          refine h10.k_set 2 rfl (fun w11 h11 => ?_)
          refine hK _ _ ?_; clear hK K; try clear Q'
          refine wpList_nil ?_
          show Code.wp _ _ _ _ _
          refine wp_seq ?_
          repeat (first | simp only [List.nil_append] at h11 | simp only [List.cons_append] at h11 | simp only [List.set_cons_zero] at h11 | simp only [List.set_cons_succ] at h11 | simp only [List.eraseIdx_zero] at h11 | simp only [List.tail_cons] at h11 | simp only [List.eraseIdx_cons_zero] at h11 | simp only [List.eraseIdx_cons_succ] at h11 | simp only [List.setIfInBounds_toArray] at h11)
          refine wp_region_lit ?_
          iterate 1 (refine wpList_plainQ rfl (fun K Q' hK => ?_); go_simp; refine hK _ _ ?_; clear hK K; try clear Q')
          -- stops at: eff:call (Go.Op.call {'callee': (Go.Callee.value (Go.Operand.func 29)), 'args': [(Go.Operand.tmp 53)], 'argTypes': [36]}) slot 54
          have kX := skX.out
          have kXo : Hp.sk Xo := by rw [← eXo.out]; exact Hp.sk_ofL b
          refine wpList_plainQ rfl (fun K Q' hK => ?_); go_simp
          refine (steps_ok _ _ bM _ _ (h11.pre_at (i := 1) rfl)).mono ?_
          rintro e wS5 ⟨rfl, hpS5⟩
          rw [show IntKind.i64.wrap ((c : Int) + (d : Int)) = ((c : Int) + (d : Int)) from IntWalk.i64_in _ (by have := hcd.out; omega)]
          have h12 := h11.call_at (i := 1) rfl hpS5
          have hX_12 := hX_9.mono hpS5.le
          have hbY_12 := hbY_9.mono hpS5.le
          have hXo_12 := hXo.mono hpS5.le
          refine hK _ _ ?_; clear hK K; try clear Q'
          iterate 1 (refine wpList_plainQ rfl (fun K Q' hK => ?_); go_simp; refine hK _ _ ?_; clear hK K; try clear Q')
          refine wpList_nil ?_
          show Code.wp _ _ _ _ _
          refine wp_seq ?_
          repeat (first | simp only [List.nil_append] at h12 | simp only [List.cons_append] at h12 | simp only [List.set_cons_zero] at h12 | simp only [List.set_cons_succ] at h12 | simp only [List.eraseIdx_zero] at h12 | simp only [List.tail_cons] at h12 | simp only [List.eraseIdx_cons_zero] at h12 | simp only [List.eraseIdx_cons_succ] at h12 | simp only [List.setIfInBounds_toArray] at h12)
          refine wp_region_lit ?_
          have c_0_0 := h12.cell 0 rfl 0 rfl
          have c_2_0 := h12.cell 2 rfl 0 rfl
          iterate 3 (refine wpList_plainQ rfl (fun K Q' hK => ?_); go_simp; refine hK _ _ ?_; clear hK K; try clear Q')
          clear c_0_0 c_2_0
          -- stops at: eff:call (Go.Op.call {'callee': (Go.Callee.value (Go.Operand.func 15)), 'args': [(Go.Operand.tmp 55), (Go.Operand.tmp 56), (Go.Operand.tmp 57)], 'argTypes': [26, 36, 26] slot 58
          obtain ⟨Y1, eY1⟩ : ∃ t, Hid (Hp.meld X Xo = t) := ⟨_, show _ = _ from rfl⟩
          obtain ⟨mcY1, hmcY1⟩ : ∃ n, Hid (Hp.meldC X Xo = n) := ⟨_, show _ = _ from rfl⟩
          obtain ⟨mdY1, hmdY1⟩ : ∃ n, Hid (Hp.meldD X Xo = n) := ⟨_, show _ = _ from rfl⟩
          have hmsY1 : mcY1 + mdY1 ≤ 6 := by rw [← hmcY1.out, ← hmdY1.out]; exact Hp.meld_steps _ _
          have sY1 : Hp.size Y1 = Hp.size X + Hp.size Xo := by rw [← eY1.out]; exact Hp.size_meld hX.ok hXo.ok
          have kY1 : Hp.sk Y1 := by rw [← eY1.out]; exact Hp.sk_meld kX kXo
          refine wpList_plainQ rfl (fun K Q' hK => ?_); go_simp
          refine (hmeld_ok (m := some bM) (h12.pre_at (i := 1) rfl) (by omega) hX_12 hXo_12).mono ?_
          rintro e wY1 ⟨rY1, HY1, rfl, hpY1, hY1⟩
          rw [hmcY1.out, hmdY1.out] at hpY1
          rw [eY1.out] at hY1
          have h13 := h12.call_at (i := 1) rfl hpY1
          have hX_13 := hX_12.mono hpY1.le
          have hbY_13 := hbY_12.mono hpY1.le
          have hXo_13 := hXo_12.mono hpY1.le
          refine hK _ _ ?_; clear hK K; try clear Q'
          have c_0 := h13.cell 0 rfl 0 rfl
          have f_0 := h13.free 0 rfl 0
          refine wpList_plainQ rfl (fun K Q' hK => ?_); go_simp
          clear c_0 f_0
          refine h13.k_set 0 rfl (fun w14 h14 => ?_)
          refine hK _ _ ?_; clear hK K; try clear Q'
          refine wpList_nil ?_
          show Code.wp _ _ _ _ _
          refine wp_seq ?_
          repeat (first | simp only [List.nil_append] at h14 | simp only [List.cons_append] at h14 | simp only [List.set_cons_zero] at h14 | simp only [List.set_cons_succ] at h14 | simp only [List.eraseIdx_zero] at h14 | simp only [List.tail_cons] at h14 | simp only [List.eraseIdx_cons_zero] at h14 | simp only [List.eraseIdx_cons_succ] at h14 | simp only [List.setIfInBounds_toArray] at h14)
          refine wp_region_lit ?_
          have c_0_0 := h14.cell 0 rfl 0 rfl
          have c_2_0 := h14.cell 2 rfl 0 rfl
          iterate 3 (refine wpList_plainQ rfl (fun K Q' hK => ?_); go_simp; refine hK _ _ ?_; clear hK K; try clear Q')
          clear c_0_0 c_2_0
          -- stops at: eff:call (Go.Op.call {'callee': (Go.Callee.value (Go.Operand.func 15)), 'args': [(Go.Operand.tmp 59), (Go.Operand.tmp 60), (Go.Operand.tmp 61)], 'argTypes': [26, 36, 26] slot 62
          obtain ⟨Y2, eY2⟩ : ∃ t, Hid (Hp.meld Y1 Xo = t) := ⟨_, show _ = _ from rfl⟩
          obtain ⟨mcY2, hmcY2⟩ : ∃ n, Hid (Hp.meldC Y1 Xo = n) := ⟨_, show _ = _ from rfl⟩
          obtain ⟨mdY2, hmdY2⟩ : ∃ n, Hid (Hp.meldD Y1 Xo = n) := ⟨_, show _ = _ from rfl⟩
          have hmsY2 : mcY2 + mdY2 ≤ 6 := by rw [← hmcY2.out, ← hmdY2.out]; exact Hp.meld_steps _ _
          have sY2 : Hp.size Y2 = Hp.size Y1 + Hp.size Xo := by rw [← eY2.out]; exact Hp.size_meld hY1.ok hXo.ok
          have kY2 : Hp.sk Y2 := by rw [← eY2.out]; exact Hp.sk_meld kY1 kXo
          refine wpList_plainQ rfl (fun K Q' hK => ?_); go_simp
          refine (hmeld_ok (m := some bM) (h14.pre_at (i := 1) rfl) (by omega) hY1 hXo_13).mono ?_
          rintro e wY2 ⟨rY2, HY2, rfl, hpY2, hY2⟩
          rw [hmcY2.out, hmdY2.out] at hpY2
          rw [eY2.out] at hY2
          have h15 := h14.call_at (i := 1) rfl hpY2
          have hX_15 := hX_13.mono hpY2.le
          have hbY_15 := hbY_13.mono hpY2.le
          have hXo_15 := hXo_13.mono hpY2.le
          have hY1_15 := hY1.mono hpY2.le
          refine hK _ _ ?_; clear hK K; try clear Q'
          have c_0 := h15.cell 0 rfl 0 rfl
          have f_0 := h15.free 0 rfl 0
          refine wpList_plainQ rfl (fun K Q' hK => ?_); go_simp
          clear c_0 f_0
          refine h15.k_set 0 rfl (fun w16 h16 => ?_)
          refine hK _ _ ?_; clear hK K; try clear Q'
          refine wpList_nil ?_
          show Code.wp _ _ _ _ _
          refine wp_seq ?_
          refine wp_seq ?_
          repeat (first | simp only [List.nil_append] at h16 | simp only [List.cons_append] at h16 | simp only [List.set_cons_zero] at h16 | simp only [List.set_cons_succ] at h16 | simp only [List.eraseIdx_zero] at h16 | simp only [List.tail_cons] at h16 | simp only [List.eraseIdx_cons_zero] at h16 | simp only [List.eraseIdx_cons_succ] at h16 | simp only [List.setIfInBounds_toArray] at h16)
          refine wp_region_lit ?_
          iterate 2 (refine wpList_plainQ rfl (fun K Q' hK => ?_); go_simp; refine hK _ _ ?_; clear hK K; try clear Q')
          -- stops at: eff:call (Go.Op.call {'callee': (Go.Callee.value (Go.Operand.func 30)), 'args': [(Go.Operand.tmp 63), (Go.Operand.tmp 64)], 'argTypes': [36, 3]}) slot 65
          obtain ⟨ms, hms⟩ : ∃ n, Hid (mcY1 + mdY1 + (mcY2 + mdY2) = n) := ⟨_, show _ = _ from rfl⟩
          have hmsl : ms ≤ 12 := by rw [← hms.out]; omega
          have d12 : decide ((12 : Int) < (ms : Int)) = false := decide_eq_false (by omega)
          refine wpList_plainQ rfl (fun K Q' hK => ?_); go_simp
          refine (since_ok _ _ bM _ _ _ (h16.pre_at (i := 1) rfl)).mono ?_
          rintro e wS7 ⟨rfl, hpS7⟩
          rw [since_nat _ _ ms (by have := hcd.out; omega) (by have := hcd.out; omega) (by have := hcd.out; omega) (by have := hms.out; omega)]
          have h17 := h16.call_at (i := 1) rfl hpS7
          have hX_17 := hX_15.mono hpS7.le
          have hbY_17 := hbY_15.mono hpS7.le
          have hXo_17 := hXo_15.mono hpS7.le
          have hY1_17 := hY1_15.mono hpS7.le
          have hY2_17 := hY2.mono hpS7.le
          refine hK _ _ ?_; clear hK K; try clear Q'
          iterate 1 (refine wpList_plainQ rfl (fun K Q' hK => ?_); go_simp; refine hK _ _ ?_; clear hK K; try clear Q')
          refine wpList_nil ?_
          show Code.wp _ _ _ _ _
          -- stops at: cond
          refine wp_cond_false (rfl) ?_
          refine wp_skip ?_
          show Code.wp _ _ _ _ _
          refine wp_seq ?_
          refine wp_seq ?_
          repeat (first | simp only [List.nil_append] at h17 | simp only [List.cons_append] at h17 | simp only [List.set_cons_zero] at h17 | simp only [List.set_cons_succ] at h17 | simp only [List.eraseIdx_zero] at h17 | simp only [List.tail_cons] at h17 | simp only [List.eraseIdx_cons_zero] at h17 | simp only [List.eraseIdx_cons_succ] at h17 | simp only [List.setIfInBounds_toArray] at h17)
          refine wp_region_lit ?_
          iterate 1 (refine wpList_plainQ rfl (fun K Q' hK => ?_); go_simp; refine hK _ _ ?_; clear hK K; try clear Q')
          refine wpList_nil ?_
          show Code.wp _ _ _ _ _
          refine wp_block ?_
          -- stops at: loop
          have szY2 : Hp.size Y2 ≤ 300 := by omega
          go_loopw [14] (fun v14 wr => ∃ (k : Nat) (X : Hp) (q : Option Addr) (H' : GH) (c d : Nat), k ≤ k9 ∧ v14 = .int .i64 k ∧ Hid (Hp.size X ≤ 300) ∧ Hid (Hp.sk X) ∧ Hid (c + d ≤ 712 + 4300 * k) ∧ HpR H' q X ∧ St w H none 0 0 wr H' [(wAw.heap.size, .cells #[.pointer q] 26), (bM, meterObj c d), (wXo.heap.size, .cells #[.pointer rXo] 26)] []) (fun v14 _ => k9 - (intOf v14).toNat)
          case atStart => exact ⟨0, Y2, rY2, _, c + mcY1 + mcY2, d + mdY1 + mdY2, by omega, rfl, szY2, kY2, by have := hcd.out; show _ ≤ _; omega, hY2_17, by simp only [Int.natCast_add]; exact h17⟩
          case round =>
            clear hX hs
            obtain ⟨k, Y, q, H8, c, d, hk2, rfl, hY1, skY, hcd1, hY, hs⟩ := hrel
            obtain ⟨sX, hsX⟩ : ∃ n, Hid (Hp.size Y = n) := ⟨_, show _ = _ from rfl⟩
            have sY : Hp.size Y = sX := hsX.out
            have sXl : sX ≤ 300 := by have := hY1.out; omega
            have hcd : Hid (c + d ≤ 712 + 4300 * 12) := by have := hcd1.out; show _ ≤ _; omega
            by_cases hlt2 : k < k9
            · skip
              as_aux_lemma =>
              have e1 : IntKind.i64.wrap ((k : Int) + 1) = (k : Int) + 1 := IntWalk.i64_in _ (by omega)
              refine wp_seq ?_
              refine wp_seq ?_
              repeat (first | simp only [List.nil_append] at hs | simp only [List.cons_append] at hs | simp only [List.set_cons_zero] at hs | simp only [List.set_cons_succ] at hs | simp only [List.eraseIdx_zero] at hs | simp only [List.tail_cons] at hs | simp only [List.eraseIdx_cons_zero] at hs | simp only [List.eraseIdx_cons_succ] at hs | simp only [List.setIfInBounds_toArray] at hs)
              refine wp_region_lit ?_
              iterate 5 (refine wpList_plainQ rfl (fun K Q' hK => ?_); go_simp; refine hK _ _ ?_; clear hK K; try clear Q')
              refine wpList_nil ?_
              show Code.wp _ _ _ _ _
              -- stops at: cond
              refine wp_cond_true (rfl) ?_
              refine wp_skip ?_
              show Code.wp _ _ _ _ _
              refine wp_seq ?_
              refine wp_block ?_
              refine wp_seq ?_
              refine wp_region_lit ?_
              iterate 1 (refine wpList_plainQ rfl (fun K Q' hK => ?_); go_simp; refine hK _ _ ?_; clear hK K; try clear Q')
              refine wpList_nil ?_
              show Code.wp _ _ _ _ _
              refine wp_seq ?_
              refine wp_seq ?_
              refine wp_region_lit ?_
              have c_0_0 := hs.cell 0 rfl 0 rfl
              iterate 1 (refine wpList_plainQ rfl (fun K Q' hK => ?_); go_simp; refine hK _ _ ?_; clear hK K; try clear Q')
              clear c_0_0
              -- stops at: eff:call (Go.Op.call {'callee': (Go.Callee.value (Go.Operand.func 20)), 'args': [(Go.Operand.tmp 74)], 'argTypes': [26]}) slot 75
              refine wpList_plainQ rfl (fun K Q' hK => ?_); go_simp
              refine (hsize_ok hs.fits (by omega) hY).mono ?_
              rintro e wZ1 ⟨HZ1, rfl, hpZ1⟩
              rw [sY]
              have h18 := hs.call0 hpZ1
              have hY_18 := hY.mono hpZ1.le
              refine hK _ _ ?_; clear hK K; try clear Q'
              iterate 1 (refine wpList_plainQ rfl (fun K Q' hK => ?_); go_simp; refine hK _ _ ?_; clear hK K; try clear Q')
              refine wpList_nil ?_
              show Code.wp _ _ _ _ _
              refine wp_block ?_
              -- stops at: loop
              obtain ⟨bt, hbt⟩ : ∃ n, Hid (bits sX = n) := ⟨_, show _ = _ from rfl⟩
              have hbtl : bt ≤ sX := by rw [← hbt.out]; exact bits_le sX
              go_loopw [15, 16] (fun vB vK wr => ∃ kk bb : Nat, vK = .int .i64 kk ∧ vB = .int .i64 bb ∧ Hid (bb + bits kk = bt) ∧ kk ≤ sX ∧ St w H none 0 0 wr HZ1 [(wAw.heap.size, .cells #[.pointer q] 26), (bM, meterObj c d), (wXo.heap.size, .cells #[.pointer rXo] 26)] []) (fun _ vK _ => (intOf vK).toNat)
              case atStart => exact ⟨sX, 0, rfl, rfl, by show _ = _; have := hbt.out; omega, Nat.le_refl _, h18⟩
              case round =>
                obtain ⟨kk, bb, rfl, rfl, hbk, hkl, hs2⟩ := hrel
                by_cases hk0 : 0 < kk
                · have hbp := bits_pos (n := kk) (by omega)
                  have hq : Int.tdiv (kk : Int) 2 = ((kk / 2 : Nat) : Int) := rfl
                  obtain ⟨kh, hkh⟩ : ∃ n, Hid (kk / 2 = n) := ⟨_, show _ = _ from rfl⟩
                  have hq2 : Int.tdiv (kk : Int) 2 = (kh : Int) := by rw [← hkh.out]; rfl
                  have hq3 : IntKind.i64.wrap (kh : Int) = (kh : Int) := IntWalk.i64_in _ (by have := hkh.out; omega)
                  have hb1 : IntKind.i64.wrap ((bb : Int) + 1) = (bb : Int) + 1 := IntWalk.i64_in _ (by have := hbk.out; omega)
                  have hbk2 : Hid (bb + 1 + bits kh = bt) := by have := hbk.out; have := hkh.out; show _ = _; rw [← this]; omega
                  have hkh2 : kh < kk := by have := hkh.out; omega
                  clear hbp hq
                  refine wp_seq ?_
                  refine wp_seq ?_
                  repeat (first | simp only [List.nil_append] at hs2 | simp only [List.cons_append] at hs2 | simp only [List.set_cons_zero] at hs2 | simp only [List.set_cons_succ] at hs2 | simp only [List.eraseIdx_zero] at hs2 | simp only [List.tail_cons] at hs2 | simp only [List.eraseIdx_cons_zero] at hs2 | simp only [List.eraseIdx_cons_succ] at hs2 | simp only [List.setIfInBounds_toArray] at hs2)
                  refine wp_region_lit ?_
                  iterate 2 (refine wpList_plainQ rfl (fun K Q' hK => ?_); go_simp; refine hK _ _ ?_; clear hK K; try clear Q')
                  refine wpList_nil ?_
                  show Code.wp _ _ _ _ _
                  -- stops at: cond
                  refine wp_cond_true (rfl) ?_
                  refine wp_skip ?_
                  show Code.wp _ _ _ _ _
                  refine wp_seq ?_
                  refine wp_block ?_
                  refine wp_region_lit ?_
                  iterate 3 (refine wpList_plainQ rfl (fun K Q' hK => ?_); go_simp; refine hK _ _ ?_; clear hK K; try clear Q')
                  refine wpList_nil ?_
                  show Code.wp _ _ _ _ _
                  refine wp_region_lit ?_
                  iterate 3 (refine wpList_plainQ rfl (fun K Q' hK => ?_); go_simp; refine hK _ _ ?_; clear hK K; try clear Q')
                  refine wpList_nil ?_
                  -- stops at: end ('roundend',)
                  show _ ∧ _
                  go_roundw
                  case rel => exact ⟨kh, bb + 1, rfl, by simp, hbk2, by omega, hs2⟩
                  case measure => simp [intOf]; omega
                · obtain rfl : kk = 0 := by omega
                  obtain rfl : bb = bt := by have := hbk.out; rw [bits_zero] at this; omega
                  refine wp_seq ?_
                  refine wp_seq ?_
                  repeat (first | simp only [List.nil_append] at hs2 | simp only [List.cons_append] at hs2 | simp only [List.set_cons_zero] at hs2 | simp only [List.set_cons_succ] at hs2 | simp only [List.eraseIdx_zero] at hs2 | simp only [List.tail_cons] at hs2 | simp only [List.eraseIdx_cons_zero] at hs2 | simp only [List.eraseIdx_cons_succ] at hs2 | simp only [List.setIfInBounds_toArray] at hs2)
                  refine wp_region_lit ?_
                  iterate 2 (refine wpList_plainQ rfl (fun K Q' hK => ?_); go_simp; refine hK _ _ ?_; clear hK K; try clear Q')
                  refine wpList_nil ?_
                  show Code.wp _ _ _ _ _
                  -- stops at: cond
                  refine wp_cond_false (rfl) ?_
                  refine wp_exit ?_
                  show Code.wp _ _ _ _ _
                  refine wp_seq ?_
                  refine wp_region_lit ?_
                  iterate 1 (refine wpList_plainQ rfl (fun K Q' hK => ?_); go_simp; refine hK _ _ ?_; clear hK K; try clear Q')
                  -- stops at: eff:call (Go.Op.call {'callee': (Go.Callee.value (Go.Operand.func 29)), 'args': [(Go.Operand.tmp 82)], 'argTypes': [36]}) slot 83
                  clear hs
                  obtain ⟨pc, hpc⟩ : ∃ n, Hid (Hp.popC Y = n) := ⟨_, show _ = _ from rfl⟩
                  obtain ⟨pd, hpd⟩ : ∃ n, Hid (Hp.popD Y = n) := ⟨_, show _ = _ from rfl⟩
                  have hp1 : pc + pd ≤ 14 * bb := by rw [← hpc.out, ← hpd.out, ← hbt.out, ← sY]; exact Hp.pop_steps skY.out
                  obtain ⟨ps, hps⟩ : ∃ n, Hid (pc + pd = n) := ⟨_, show _ = _ from rfl⟩
                  have hps1 : ps ≤ 14 * bb := by rw [← hps.out]; exact hp1
                  have hee1 : Hid (0 = 0) := rfl
                  have hps0 := hps
                  have e16 : IntKind.i64.wrap (14 * (bb : Int)) = 14 * (bb : Int) := IntWalk.i64_in _ (by omega)
                  have dp1 : decide (14 * (bb : Int) < (ps : Int)) = false := decide_eq_false (by omega)
                  have dp2 : decide (14 * bb < ps) = false := decide_eq_false (by omega)
                  refine wpList_plainQ rfl (fun K Q' hK => ?_); go_simp
                  refine (steps_ok _ _ bM _ _ (hs2.pre_at (i := 1) rfl)).mono ?_
                  rintro e wS3 ⟨rfl, hpS3⟩
                  rw [show IntKind.i64.wrap ((c : Int) + (d : Int)) = ((c : Int) + (d : Int)) from IntWalk.i64_in _ (by have := hcd.out; omega)]
                  have h19 := hs2.call_at (i := 1) rfl hpS3
                  have hY_19 := hY_18.mono hpS3.le
                  refine hK _ _ ?_; clear hK K; try clear Q'
                  iterate 1 (refine wpList_plainQ rfl (fun K Q' hK => ?_); go_simp; refine hK _ _ ?_; clear hK K; try clear Q')
                  refine wpList_nil ?_
                  show Code.wp _ _ _ _ _
                  refine wp_seq ?_
                  repeat (first | simp only [List.nil_append] at h19 | simp only [List.cons_append] at h19 | simp only [List.set_cons_zero] at h19 | simp only [List.set_cons_succ] at h19 | simp only [List.eraseIdx_zero] at h19 | simp only [List.tail_cons] at h19 | simp only [List.eraseIdx_cons_zero] at h19 | simp only [List.eraseIdx_cons_succ] at h19 | simp only [List.setIfInBounds_toArray] at h19)
                  refine wp_region_lit ?_
                  have c_0_0 := h19.cell 0 rfl 0 rfl
                  iterate 2 (refine wpList_plainQ rfl (fun K Q' hK => ?_); go_simp; refine hK _ _ ?_; clear hK K; try clear Q')
                  clear c_0_0
                  -- stops at: eff:call (Go.Op.call {'callee': (Go.Callee.value (Go.Operand.func 27)), 'args': [(Go.Operand.tmp 84), (Go.Operand.tmp 85)], 'argTypes': [26, 36]}) slot 86
                  refine wpList_plainQ rfl (fun K Q' hK => ?_); go_simp
                  refine (hmin_ok (m := some bM) (h19.pre_at (i := 1) rfl) (by omega) hY_19).mono ?_
                  rintro e wMi ⟨HMi, rfl, hpMi⟩
                  rw [show (c : Int) + ((Hp.minC Y : Nat) : Int) = (c : Int) by unfold Hp.minC; omega] at hpMi
                  have h20 := h19.call_at (i := 1) rfl hpMi
                  have hY_20 := hY_19.mono hpMi.le
                  refine hK _ _ ?_; clear hK K; try clear Q'
                  refine wpList_nil ?_
                  show Code.wp _ _ _ _ _
                  refine wp_seq ?_
                  refine wp_seq ?_
                  repeat (first | simp only [List.nil_append] at h20 | simp only [List.cons_append] at h20 | simp only [List.set_cons_zero] at h20 | simp only [List.set_cons_succ] at h20 | simp only [List.eraseIdx_zero] at h20 | simp only [List.tail_cons] at h20 | simp only [List.eraseIdx_cons_zero] at h20 | simp only [List.eraseIdx_cons_succ] at h20 | simp only [List.setIfInBounds_toArray] at h20)
                  refine wp_region_lit ?_
                  iterate 2 (refine wpList_plainQ rfl (fun K Q' hK => ?_); go_simp; refine hK _ _ ?_; clear hK K; try clear Q')
                  -- stops at: eff:call (Go.Op.call {'callee': (Go.Callee.value (Go.Operand.func 30)), 'args': [(Go.Operand.tmp 87), (Go.Operand.tmp 88)], 'argTypes': [36, 3]}) slot 89
                  refine wpList_plainQ rfl (fun K Q' hK => ?_); go_simp
                  refine (since_ok _ _ bM _ _ _ (h20.pre_at (i := 1) rfl)).mono ?_
                  rintro e wS4 ⟨rfl, hpS4⟩
                  rw [since_nat _ _ 0 (by have := hcd.out; omega) (by have := hcd.out; omega) (by have := hcd.out; omega) (by have := hee1.out; omega)]
                  have h21 := h20.call_at (i := 1) rfl hpS4
                  have hY_21 := hY_20.mono hpS4.le
                  refine hK _ _ ?_; clear hK K; try clear Q'
                  iterate 1 (refine wpList_plainQ rfl (fun K Q' hK => ?_); go_simp; refine hK _ _ ?_; clear hK K; try clear Q')
                  refine wpList_nil ?_
                  show Code.wp _ _ _ _ _
                  -- stops at: cond
                  refine wp_cond_false (rfl) ?_
                  refine wp_skip ?_
                  show Code.wp _ _ _ _ _
                  refine wp_seq ?_
                  repeat (first | simp only [List.nil_append] at h21 | simp only [List.cons_append] at h21 | simp only [List.set_cons_zero] at h21 | simp only [List.set_cons_succ] at h21 | simp only [List.eraseIdx_zero] at h21 | simp only [List.tail_cons] at h21 | simp only [List.eraseIdx_cons_zero] at h21 | simp only [List.eraseIdx_cons_succ] at h21 | simp only [List.setIfInBounds_toArray] at h21)
                  refine wp_region_lit ?_
                  have c_0_0 := h21.cell 0 rfl 0 rfl
                  iterate 2 (refine wpList_plainQ rfl (fun K Q' hK => ?_); go_simp; refine hK _ _ ?_; clear hK K; try clear Q')
                  clear c_0_0
                  -- stops at: eff:call (Go.Op.call {'callee': (Go.Callee.value (Go.Operand.func 25)), 'args': [(Go.Operand.tmp 92), (Go.Operand.tmp 93)], 'argTypes': [26, 36]}) slot 94
                  by_cases h0 : sX = 0
                  · have hmY : Hp.min? Y = none := by
                      have := Hp.isSome_iff hY.ok
                      rw [sY, h0] at this
                      cases hh : Hp.min? Y with
                      | none => rfl
                      | some y => rw [hh] at this; cases this
                    subst h0
                    refine wpList_plainQ rfl (fun K Q' hK => ?_); go_simp
                    refine (hpop_ok (m := some bM) (h21.pre_at (i := 1) rfl) (by omega) hY_21).mono ?_
                    rintro e wPo ⟨rPo, HPo, rfl, hpPo, hPo⟩
                    rw [hpc.out, hpd.out] at hpPo
                    simp only [hmY]
                    try simp only [Option.isSome_some]
                    try simp only [Option.isSome_none]
                    have h22 := h21.call_at (i := 1) rfl hpPo
                    have hY_22 := hY_21.mono hpPo.le
                    refine hK _ _ ?_; clear hK K; try clear Q'
                    iterate 3 (refine wpList_plainQ rfl (fun K Q' hK => ?_); go_simp; refine hK _ _ ?_; clear hK K; try clear Q')
                    refine wpList_plainQ rfl (fun K Q' hK => ?_); go_simp
                    refine h22.k_alloc (fun w23 h23 => ?_)
                    refine hK _ _ ?_; clear hK K; try clear Q'
                    have c_0 := h23.cell 3 rfl 0 rfl
                    have f_0 := h23.free 3 rfl 0
                    refine wpList_plainQ rfl (fun K Q' hK => ?_); go_simp
                    clear c_0 f_0
                    refine h23.k_set 3 rfl (fun w24 h24 => ?_)
                    refine hK _ _ ?_; clear hK K; try clear Q'
                    iterate 1 (refine wpList_plainQ rfl (fun K Q' hK => ?_); go_simp; refine hK _ _ ?_; clear hK K; try clear Q')
                    refine wpList_nil ?_
                    show Code.wp _ _ _ _ _
                    refine wp_seq ?_
                    refine wp_seq ?_
                    repeat (first | simp only [List.nil_append] at h24 | simp only [List.cons_append] at h24 | simp only [List.set_cons_zero] at h24 | simp only [List.set_cons_succ] at h24 | simp only [List.eraseIdx_zero] at h24 | simp only [List.tail_cons] at h24 | simp only [List.eraseIdx_cons_zero] at h24 | simp only [List.eraseIdx_cons_succ] at h24 | simp only [List.setIfInBounds_toArray] at h24)
                    refine wp_region_lit ?_
                    iterate 2 (refine wpList_plainQ rfl (fun K Q' hK => ?_); go_simp; refine hK _ _ ?_; clear hK K; try clear Q')
                    -- stops at: eff:call (Go.Op.call {'callee': (Go.Callee.value (Go.Operand.func 30)), 'args': [(Go.Operand.tmp 97), (Go.Operand.tmp 98)], 'argTypes': [36, 3]}) slot 99
                    refine wpList_plainQ rfl (fun K Q' hK => ?_); go_simp
                    refine (since_ok _ _ bM _ _ _ (h24.pre_at (i := 1) rfl)).mono ?_
                    rintro e wS6 ⟨rfl, hpS6⟩
                    rw [since_nat _ _ ps (by have := hcd.out; omega) (by have := hcd.out; omega) (by have := hcd.out; omega) (by have := hps.out; omega)]
                    have h25 := h24.call_at (i := 1) rfl hpS6
                    have hY_25 := hY_22.mono hpS6.le
                    have hPo_25 := hPo.mono hpS6.le
                    refine hK _ _ ?_; clear hK K; try clear Q'
                    iterate 4 (refine wpList_plainQ rfl (fun K Q' hK => ?_); go_simp; refine hK _ _ ?_; clear hK K; try clear Q')
                    have c_0_0 := h25.cell 0 rfl 0 rfl
                    first | go_skip | (iterate 2 (refine wpList_stepQ (o := { dst := _, op := _, type := _, pos := _, after := _, guard := some (6, false) }) (fun K Q' hK => ?_); go_simp; refine hK _ _ ?_; clear hK K; try clear Q')) | skip
                    clear c_0_0
                    -- stops at: eff:call (Go.Op.call {'callee': (Go.Callee.value (Go.Operand.func 20)), 'args': [(Go.Operand.tmp 105)], 'argTypes': [26]}) slot 106
                    refine wpList_stepQ (fun K Q' hK => ?_); go_simp
                    refine (hsize_ok h25.fits (by omega) hY_25).mono ?_
                    rintro e wZ2 ⟨HZ2, rfl, hpZ2⟩
                    rw [sY]
                    have h26 := h25.call0 hpZ2
                    have hY_26 := hY_25.mono hpZ2.le
                    have hPo_26 := hPo_25.mono hpZ2.le
                    refine hK _ _ ?_; clear hK K; try clear Q'
                    first | go_skip | (iterate 2 (refine wpList_stepQ (o := { dst := _, op := _, type := _, pos := _, after := _, guard := some (6, false) }) (fun K Q' hK => ?_); go_simp; refine hK _ _ ?_; clear hK K; try clear Q')) | skip
                    iterate 1 (refine wpList_plainQ rfl (fun K Q' hK => ?_); go_simp; refine hK _ _ ?_; clear hK K; try clear Q')
                    refine wpList_nil ?_
                    show Code.wp _ _ _ _ _
                    -- stops at: cond
                    refine wp_cond_false (rfl) ?_
                    refine wp_skip ?_
                    show Code.wp _ _ _ _ _
                    repeat (first | simp only [List.nil_append] at h26 | simp only [List.cons_append] at h26 | simp only [List.set_cons_zero] at h26 | simp only [List.set_cons_succ] at h26 | simp only [List.eraseIdx_zero] at h26 | simp only [List.tail_cons] at h26 | simp only [List.eraseIdx_cons_zero] at h26 | simp only [List.eraseIdx_cons_succ] at h26 | simp only [List.setIfInBounds_toArray] at h26)
                    refine wp_region_lit ?_
                    have c_3_0 := h26.cell 3 rfl 0 rfl
                    iterate 1 (refine wpList_plainQ rfl (fun K Q' hK => ?_); go_simp; refine hK _ _ ?_; clear hK K; try clear Q')
                    clear c_3_0
                    have c_0 := h26.cell 0 rfl 0 rfl
                    have f_0 := h26.free 0 rfl 0
                    refine wpList_plainQ rfl (fun K Q' hK => ?_); go_simp
                    clear c_0 f_0
                    refine h26.k_set 0 rfl (fun w27 h27 => ?_)
                    refine hK _ _ ?_; clear hK K; try clear Q'
                    refine wpList_nil ?_
                    show Code.wp _ _ _ _ _
                    repeat (first | simp only [List.nil_append] at h27 | simp only [List.cons_append] at h27 | simp only [List.set_cons_zero] at h27 | simp only [List.set_cons_succ] at h27 | simp only [List.eraseIdx_zero] at h27 | simp only [List.tail_cons] at h27 | simp only [List.eraseIdx_cons_zero] at h27 | simp only [List.eraseIdx_cons_succ] at h27 | simp only [List.setIfInBounds_toArray] at h27)
                    refine wp_region_lit ?_
                    iterate 3 (refine wpList_plainQ rfl (fun K Q' hK => ?_); go_simp; refine hK _ _ ?_; clear hK K; try clear Q')
                    refine wpList_nil ?_
                    -- stops at: end ('roundend',)
                    show _ ∧ _
                    go_roundw
                    case rel =>
                      refine ⟨k + 1, Hp.pop Y, rPo, _, c + pc, d + pd, by omega, by simp, ?_, Hp.sk_pop skY.out, ?_, hPo_26, ?_⟩
                      · show _ ≤ _; rw [Hp.size_pop1 hY.ok]; omega
                      · have := hcd1.out; show _ ≤ _; omega
                      · rw [Int.natCast_add, Int.natCast_add]
                        exact h27.take 3
                    case measure => simp [intOf]; omega
                  · obtain ⟨y, hmY⟩ : ∃ y, Hp.min? Y = some y := by
                      have := Hp.isSome_iff hY.ok
                      rw [sY, show decide (0 < sX) = true from decide_eq_true (by omega)] at this
                      cases hh : Hp.min? Y with
                      | none => rw [hh] at this; cases this
                      | some y => exact ⟨y, rfl⟩
                    have ds : 0 < sX := by omega
                    refine wpList_plainQ rfl (fun K Q' hK => ?_); go_simp
                    refine (hpop_ok (m := some bM) (h21.pre_at (i := 1) rfl) (by omega) hY_21).mono ?_
                    rintro e wPo ⟨rPo, HPo, rfl, hpPo, hPo⟩
                    rw [hpc.out, hpd.out] at hpPo
                    simp only [hmY]
                    try simp only [Option.isSome_some]
                    try simp only [Option.isSome_none]
                    have h28 := h21.call_at (i := 1) rfl hpPo
                    have hY_28 := hY_21.mono hpPo.le
                    refine hK _ _ ?_; clear hK K; try clear Q'
                    iterate 3 (refine wpList_plainQ rfl (fun K Q' hK => ?_); go_simp; refine hK _ _ ?_; clear hK K; try clear Q')
                    refine wpList_plainQ rfl (fun K Q' hK => ?_); go_simp
                    refine h28.k_alloc (fun w29 h29 => ?_)
                    refine hK _ _ ?_; clear hK K; try clear Q'
                    have c_0 := h29.cell 3 rfl 0 rfl
                    have f_0 := h29.free 3 rfl 0
                    refine wpList_plainQ rfl (fun K Q' hK => ?_); go_simp
                    clear c_0 f_0
                    refine h29.k_set 3 rfl (fun w30 h30 => ?_)
                    refine hK _ _ ?_; clear hK K; try clear Q'
                    iterate 1 (refine wpList_plainQ rfl (fun K Q' hK => ?_); go_simp; refine hK _ _ ?_; clear hK K; try clear Q')
                    refine wpList_nil ?_
                    show Code.wp _ _ _ _ _
                    refine wp_seq ?_
                    refine wp_seq ?_
                    repeat (first | simp only [List.nil_append] at h30 | simp only [List.cons_append] at h30 | simp only [List.set_cons_zero] at h30 | simp only [List.set_cons_succ] at h30 | simp only [List.eraseIdx_zero] at h30 | simp only [List.tail_cons] at h30 | simp only [List.eraseIdx_cons_zero] at h30 | simp only [List.eraseIdx_cons_succ] at h30 | simp only [List.setIfInBounds_toArray] at h30)
                    refine wp_region_lit ?_
                    iterate 2 (refine wpList_plainQ rfl (fun K Q' hK => ?_); go_simp; refine hK _ _ ?_; clear hK K; try clear Q')
                    -- stops at: eff:call (Go.Op.call {'callee': (Go.Callee.value (Go.Operand.func 30)), 'args': [(Go.Operand.tmp 97), (Go.Operand.tmp 98)], 'argTypes': [36, 3]}) slot 99
                    refine wpList_plainQ rfl (fun K Q' hK => ?_); go_simp
                    refine (since_ok _ _ bM _ _ _ (h30.pre_at (i := 1) rfl)).mono ?_
                    rintro e wS6 ⟨rfl, hpS6⟩
                    rw [since_nat _ _ ps (by have := hcd.out; omega) (by have := hcd.out; omega) (by have := hcd.out; omega) (by have := hps.out; omega)]
                    have h31 := h30.call_at (i := 1) rfl hpS6
                    have hY_31 := hY_28.mono hpS6.le
                    have hPo_31 := hPo.mono hpS6.le
                    refine hK _ _ ?_; clear hK K; try clear Q'
                    iterate 4 (refine wpList_plainQ rfl (fun K Q' hK => ?_); go_simp; refine hK _ _ ?_; clear hK K; try clear Q')
                    have c_0_0 := h31.cell 0 rfl 0 rfl
                    first | go_skip | (iterate 2 (refine wpList_stepQ (o := { dst := _, op := _, type := _, pos := _, after := _, guard := some (6, false) }) (fun K Q' hK => ?_); go_simp; refine hK _ _ ?_; clear hK K; try clear Q')) | skip
                    clear c_0_0
                    -- stops at: eff:call (Go.Op.call {'callee': (Go.Callee.value (Go.Operand.func 20)), 'args': [(Go.Operand.tmp 105)], 'argTypes': [26]}) slot 106
                    refine wpList_stepQ (fun K Q' hK => ?_); go_simp
                    refine (hsize_ok h31.fits (by omega) hY_31).mono ?_
                    rintro e wZ2 ⟨HZ2, rfl, hpZ2⟩
                    rw [sY]
                    have h32 := h31.call0 hpZ2
                    have hY_32 := hY_31.mono hpZ2.le
                    have hPo_32 := hPo_31.mono hpZ2.le
                    refine hK _ _ ?_; clear hK K; try clear Q'
                    first | go_skip | (iterate 2 (refine wpList_stepQ (o := { dst := _, op := _, type := _, pos := _, after := _, guard := some (6, false) }) (fun K Q' hK => ?_); go_simp; refine hK _ _ ?_; clear hK K; try clear Q')) | skip
                    iterate 1 (refine wpList_plainQ rfl (fun K Q' hK => ?_); go_simp; refine hK _ _ ?_; clear hK K; try clear Q')
                    refine wpList_nil ?_
                    show Code.wp _ _ _ _ _
                    -- stops at: cond
                    refine wp_cond_false (rfl) ?_
                    refine wp_skip ?_
                    show Code.wp _ _ _ _ _
                    repeat (first | simp only [List.nil_append] at h32 | simp only [List.cons_append] at h32 | simp only [List.set_cons_zero] at h32 | simp only [List.set_cons_succ] at h32 | simp only [List.eraseIdx_zero] at h32 | simp only [List.tail_cons] at h32 | simp only [List.eraseIdx_cons_zero] at h32 | simp only [List.eraseIdx_cons_succ] at h32 | simp only [List.setIfInBounds_toArray] at h32)
                    refine wp_region_lit ?_
                    have c_3_0 := h32.cell 3 rfl 0 rfl
                    iterate 1 (refine wpList_plainQ rfl (fun K Q' hK => ?_); go_simp; refine hK _ _ ?_; clear hK K; try clear Q')
                    clear c_3_0
                    have c_0 := h32.cell 0 rfl 0 rfl
                    have f_0 := h32.free 0 rfl 0
                    refine wpList_plainQ rfl (fun K Q' hK => ?_); go_simp
                    clear c_0 f_0
                    refine h32.k_set 0 rfl (fun w33 h33 => ?_)
                    refine hK _ _ ?_; clear hK K; try clear Q'
                    refine wpList_nil ?_
                    show Code.wp _ _ _ _ _
                    repeat (first | simp only [List.nil_append] at h33 | simp only [List.cons_append] at h33 | simp only [List.set_cons_zero] at h33 | simp only [List.set_cons_succ] at h33 | simp only [List.eraseIdx_zero] at h33 | simp only [List.tail_cons] at h33 | simp only [List.eraseIdx_cons_zero] at h33 | simp only [List.eraseIdx_cons_succ] at h33 | simp only [List.setIfInBounds_toArray] at h33)
                    refine wp_region_lit ?_
                    iterate 3 (refine wpList_plainQ rfl (fun K Q' hK => ?_); go_simp; refine hK _ _ ?_; clear hK K; try clear Q')
                    refine wpList_nil ?_
                    -- stops at: end ('roundend',)
                    show _ ∧ _
                    go_roundw
                    case rel =>
                      refine ⟨k + 1, Hp.pop Y, rPo, _, c + pc, d + pd, by omega, by simp, ?_, Hp.sk_pop skY.out, ?_, hPo_32, ?_⟩
                      · show _ ≤ _; rw [Hp.size_pop1 hY.ok]; omega
                      · have := hcd1.out; show _ ≤ _; omega
                      · rw [Int.natCast_add, Int.natCast_add]
                        exact h33.take 3
                    case measure => simp [intOf]; omega
            · obtain rfl : k = k9 := by omega
              refine wp_seq ?_
              refine wp_seq ?_
              repeat (first | simp only [List.nil_append] at hs | simp only [List.cons_append] at hs | simp only [List.set_cons_zero] at hs | simp only [List.set_cons_succ] at hs | simp only [List.eraseIdx_zero] at hs | simp only [List.tail_cons] at hs | simp only [List.eraseIdx_cons_zero] at hs | simp only [List.eraseIdx_cons_succ] at hs | simp only [List.setIfInBounds_toArray] at hs)
              refine wp_region_lit ?_
              iterate 5 (refine wpList_plainQ rfl (fun K Q' hK => ?_); go_simp; refine hK _ _ ?_; clear hK K; try clear Q')
              refine wpList_nil ?_
              show Code.wp _ _ _ _ _
              -- stops at: cond
              refine wp_cond_false (rfl) ?_
              refine wp_exit ?_
              show Code.wp _ _ _ _ _
              refine wp_seq ?_
              refine wp_region_lit ?_
              iterate 1 (refine wpList_plainQ rfl (fun K Q' hK => ?_); go_simp; refine hK _ _ ?_; clear hK K; try clear Q')
              refine wpList_nil ?_
              show Code.wp _ _ _ _ _
              -- stops at: ret
              refine wp_ret ?_
              go_ret
              exact ⟨rfl, hs.post.keep⟩
    · have hl2 : decide ((100 : Int) < (b.length : Int)) = true := by simp; omega
      go_enter Tryd.func12, Tryd.ntmps12
      have h0 := St.start hpre
      refine wp_seq ?_
      repeat (first | simp only [List.nil_append] at h0 | simp only [List.cons_append] at h0 | simp only [List.set_cons_zero] at h0 | simp only [List.set_cons_succ] at h0 | simp only [List.eraseIdx_zero] at h0 | simp only [List.tail_cons] at h0 | simp only [List.eraseIdx_cons_zero] at h0 | simp only [List.eraseIdx_cons_succ] at h0 | simp only [List.setIfInBounds_toArray] at h0)
      refine wp_region_lit ?_
      iterate 1 (refine wpList_plainQ rfl (fun K Q' hK => ?_); go_simp; refine hK _ _ ?_; clear hK K; try clear Q')
      refine wpList_nil ?_
      show Code.wp _ _ _ _ _
      refine wp_seq ?_
      refine wp_region_lit ?_
      -- stops at: eff:call (Go.Op.call {'callee': (Go.Callee.value (Go.Operand.func 13)), 'args': [], 'argTypes': []}) slot 19
      refine wpList_plainQ rfl (fun K Q' hK => ?_); go_simp
      refine (awake_ok H _ h0.fits htab).mono ?_
      rintro e wAw ⟨HAw, rfl, hpAw⟩
      have h1 := h0.call0 hpAw
      have htab_1 := htab.mono hpAw.le
      refine hK _ _ ?_; clear hK K; try clear Q'
      iterate 1 (refine wpList_plainQ rfl (fun K Q' hK => ?_); go_simp; refine hK _ _ ?_; clear hK K; try clear Q')
      refine wpList_nil ?_
      show Code.wp _ _ _ _ _
      refine wp_seq ?_
      refine wp_seq ?_
      repeat (first | simp only [List.nil_append] at h1 | simp only [List.cons_append] at h1 | simp only [List.set_cons_zero] at h1 | simp only [List.set_cons_succ] at h1 | simp only [List.eraseIdx_zero] at h1 | simp only [List.tail_cons] at h1 | simp only [List.eraseIdx_cons_zero] at h1 | simp only [List.eraseIdx_cons_succ] at h1 | simp only [List.setIfInBounds_toArray] at h1)
      refine wp_region_lit ?_
      iterate 2 (refine wpList_plainQ rfl (fun K Q' hK => ?_); go_simp; refine hK _ _ ?_; clear hK K; try clear Q')
      refine wpList_nil ?_
      show Code.wp _ _ _ _ _
      -- stops at: cond
      refine wp_cond_false (rfl) ?_
      refine wp_skip ?_
      show Code.wp _ _ _ _ _
      refine wp_seq ?_
      refine wp_seq ?_
      refine wp_region_lit ?_
      iterate 4 (refine wpList_plainQ rfl (fun K Q' hK => ?_); go_simp; refine hK _ _ ?_; clear hK K; try clear Q')
      first | go_skip | (iterate 3 (refine wpList_stepQ (o := { dst := _, op := _, type := _, pos := _, after := _, guard := some (3, false) }) (fun K Q' hK => ?_); go_simp; refine hK _ _ ?_; clear hK K; try clear Q')) | skip
      iterate 1 (refine wpList_plainQ rfl (fun K Q' hK => ?_); go_simp; refine hK _ _ ?_; clear hK K; try clear Q')
      refine wpList_nil ?_
      show Code.wp _ _ _ _ _
      -- stops at: cond
      refine wp_cond_true (rfl) ?_
      refine wp_seq ?_
      refine wp_region_lit ?_
      iterate 1 (refine wpList_plainQ rfl (fun K Q' hK => ?_); go_simp; refine hK _ _ ?_; clear hK K; try clear Q')
      refine wpList_nil ?_
      show Code.wp _ _ _ _ _
      -- stops at: ret
      refine wp_ret ?_
      go_ret
      exact ⟨rfl, h1.post.keep⟩
  · have hl1 : decide ((100 : Int) < (a.length : Int)) = true := by simp; omega
    go_enter Tryd.func12, Tryd.ntmps12
    have h0 := St.start hpre
    refine wp_seq ?_
    repeat (first | simp only [List.nil_append] at h0 | simp only [List.cons_append] at h0 | simp only [List.set_cons_zero] at h0 | simp only [List.set_cons_succ] at h0 | simp only [List.eraseIdx_zero] at h0 | simp only [List.tail_cons] at h0 | simp only [List.eraseIdx_cons_zero] at h0 | simp only [List.eraseIdx_cons_succ] at h0 | simp only [List.setIfInBounds_toArray] at h0)
    refine wp_region_lit ?_
    iterate 1 (refine wpList_plainQ rfl (fun K Q' hK => ?_); go_simp; refine hK _ _ ?_; clear hK K; try clear Q')
    refine wpList_nil ?_
    show Code.wp _ _ _ _ _
    refine wp_seq ?_
    refine wp_region_lit ?_
    -- stops at: eff:call (Go.Op.call {'callee': (Go.Callee.value (Go.Operand.func 13)), 'args': [], 'argTypes': []}) slot 19
    refine wpList_plainQ rfl (fun K Q' hK => ?_); go_simp
    refine (awake_ok H _ h0.fits htab).mono ?_
    rintro e wAw ⟨HAw, rfl, hpAw⟩
    have h1 := h0.call0 hpAw
    have htab_1 := htab.mono hpAw.le
    refine hK _ _ ?_; clear hK K; try clear Q'
    iterate 1 (refine wpList_plainQ rfl (fun K Q' hK => ?_); go_simp; refine hK _ _ ?_; clear hK K; try clear Q')
    refine wpList_nil ?_
    show Code.wp _ _ _ _ _
    refine wp_seq ?_
    refine wp_seq ?_
    repeat (first | simp only [List.nil_append] at h1 | simp only [List.cons_append] at h1 | simp only [List.set_cons_zero] at h1 | simp only [List.set_cons_succ] at h1 | simp only [List.eraseIdx_zero] at h1 | simp only [List.tail_cons] at h1 | simp only [List.eraseIdx_cons_zero] at h1 | simp only [List.eraseIdx_cons_succ] at h1 | simp only [List.setIfInBounds_toArray] at h1)
    refine wp_region_lit ?_
    iterate 2 (refine wpList_plainQ rfl (fun K Q' hK => ?_); go_simp; refine hK _ _ ?_; clear hK K; try clear Q')
    refine wpList_nil ?_
    show Code.wp _ _ _ _ _
    -- stops at: cond
    refine wp_cond_false (rfl) ?_
    refine wp_skip ?_
    show Code.wp _ _ _ _ _
    refine wp_seq ?_
    refine wp_seq ?_
    refine wp_region_lit ?_
    iterate 4 (refine wpList_plainQ rfl (fun K Q' hK => ?_); go_simp; refine hK _ _ ?_; clear hK K; try clear Q')
    first | go_skip | (iterate 3 (refine wpList_stepQ (o := { dst := _, op := _, type := _, pos := _, after := _, guard := some (3, false) }) (fun K Q' hK => ?_); go_simp; refine hK _ _ ?_; clear hK K; try clear Q')) | skip
    iterate 1 (refine wpList_plainQ rfl (fun K Q' hK => ?_); go_simp; refine hK _ _ ?_; clear hK K; try clear Q')
    refine wpList_nil ?_
    show Code.wp _ _ _ _ _
    -- stops at: cond
    refine wp_cond_true (rfl) ?_
    refine wp_seq ?_
    refine wp_region_lit ?_
    iterate 1 (refine wpList_plainQ rfl (fun K Q' hK => ?_); go_simp; refine hK _ _ ?_; clear hK K; try clear Q')
    refine wpList_nil ?_
    show Code.wp _ _ _ _ _
    -- stops at: ret
    refine wp_ret ?_
    go_ret
    exact ⟨rfl, h1.post.keep⟩
end Go.Proofs.YtceamdacacacjaaDoor
