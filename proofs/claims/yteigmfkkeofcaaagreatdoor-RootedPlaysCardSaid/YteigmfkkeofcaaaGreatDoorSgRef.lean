/-
The document's heaps of rows of trees: as texts; the least element; rows cut at a place.
-/
import Derived.Test.YteigmfkkeofcaaaGreatDoorSfShow
import Derived.Test.YteigmfkkeofcaaaGreatDoorOmSkew
namespace Go.Proofs.YteigmfkkeofcaaaGreatDoor
open Go Go.RowKit
set_option linter.unusedVariables false

/-! ### Rows cut -/
theorem TV.drop {H : GH} : ∀ (l : List (Tr El)) (cs : List Value) (k : Nat), TV H (RT.ofL l) cs → TV H (RT.ofL (l.drop k)) (cs.drop (k * 6)) := by
  intro l
  induction l with
  | nil => intro cs k h; obtain rfl : cs = [] := h; simp; exact (show TV H .nil [] from rfl)
  | cons t l ih =>
    intro cs k h
    cases k with
    | zero => simpa using h
    | succ k =>
      obtain ⟨bv, kv, kcs, rest, r, sz, rfl, h2, h3, h4, h5, h6, h7⟩ := h
      have := ih rest k h7
      rw [show (k + 1) * 6 = k * 6 + 6 by omega]
      exact this
theorem TV.take {H : GH} : ∀ (l : List (Tr El)) (cs : List Value) (k : Nat), TV H (RT.ofL l) cs → TV H (RT.ofL (l.take k)) (cs.take (k * 6)) := by
  intro l
  induction l with
  | nil => intro cs k h; obtain rfl : cs = [] := h; simp; exact (show TV H .nil [] from rfl)
  | cons t l ih =>
    intro cs k h
    cases k with
    | zero => simp; exact (show TV H .nil [] from rfl)
    | succ k =>
      obtain ⟨bv, kv, kcs, rest, r, sz, rfl, h2, h3, h4, h5, h6, h7⟩ := h
      have := ih rest k h7
      rw [show (k + 1) * 6 = k * 6 + 6 by omega]
      exact ⟨bv, kv, kcs, rest.take (k * 6), r, sz, rfl, h2, h3, h4, h5, h6, this⟩
theorem RsV.from {H : GH} {a : Option Addr} {cap n : Nat} {l : List (Tr El)} (h : RsV H (.slice a n cap) l) (hl : n = l.length) (k : Nat) (hk : k ≤ n) :
    RsV H (.slice (if cap = k then a else Option.map (fun x => x.add (k * 6)) a) (n - k) (cap - k)) (l.drop k) := by
  obtain ⟨cs, h1, h2⟩ := h
  subst hl
  refine ⟨cs.drop (k * 6), ?_, TV.drop l cs k h2⟩
  rw [List.length_drop]
  exact h1.from k hk
theorem RsV.upto {H : GH} {a : Option Addr} {cap n : Nat} {l : List (Tr El)} (h : RsV H (.slice a n cap) l) (hl : n = l.length) (k : Nat) (hk : k ≤ n) : RsV H (.slice a k cap) (l.take k) := by
  obtain ⟨cs, h1, h2⟩ := h
  subst hl
  refine ⟨cs.take (k * 6), ?_, TV.take l cs k h2⟩
  rw [List.length_take, Nat.min_eq_left hk]
  exact h1.upto k hk

/-! ### Texts -/
theorem join_snoc (l : List (List UInt8)) (x : List UInt8) (h : l ≠ []) : Lib.join (l ++ [x]) [32] = Lib.join l [32] ++ 32 :: x := by
  cases l with
  | nil => exact absurd rfl h
  | cons y r => rw [List.cons_append, Lib.join_cons, Lib.join_cons]; simp [Lib.joinTail]
theorem lens_take_le (l : List (List UInt8)) (j : Nat) : Lib.lens (l.take j) ≤ Lib.lens l := by
  induction l generalizing j with
  | nil => simp
  | cons y l ih =>
    cases j with
    | zero => simp [Lib.lens]
    | succ j => have := ih j; simp [Lib.lens] at *; omega
theorem join_take_le (l : List (List UInt8)) (j : Nat) : (Lib.join (l.take j) [32]).length ≤ Lib.lens l + l.length := by
  have h1 := lens_take_le l j
  have h2 : (l.take j).length ≤ l.length := by simp; omega
  cases h : l.take j with
  | nil => simp [Lib.join_nil]
  | cons y r =>
    rw [Lib.join_length]
    rw [h] at h1 h2
    simp at h2 ⊢
    omega
set_option maxRecDepth 100000 in
set_option maxHeartbeats 4000000 in
theorem r7show_ok (H : GH) (w : World) (v : Value) (l : List (Tr El)) (hf : Fits w H) (hn : Rw.size l < 900000) (hfit : ∀ a ∈ Rw.els l, El.fits a) (hv : RsV H v l) :
    Calls Tryz.prog 72 #[.agg #[v]] w fun e w' => e = .returned (.string ⟨(Rw.text l).toArray⟩) ∧ Keep none w w' := by
  have hpre : Pre w H none 0 0 := Pre.none hf 0 0
  obtain ⟨a0, c0, rfl, _, _⟩ := hv.form
  have hsum := text_sum l hfit
  obtain ⟨nn, hnn⟩ : ∃ nn, Hid (l.length = nn) := ⟨_, show _ = _ from rfl⟩
  have hlb : nn < 1000000 := by have := hnn.out; have := Rw.length_le l; omega
  obtain ⟨ss, hss⟩ : ∃ ss, Hid (l.map Tr.text = ss) := ⟨_, show _ = _ from rfl⟩
  have hssl : Hid (ss.length = nn) := by show _ = _; rw [← hss.out, List.length_map, hnn.out]
  rw [hss.out] at hsum
  rw [hnn.out] at hv ⊢
  by_cases h0 : nn = 0
  · have d1 : ((nn : Int) == 0) = true := by rw [h0]; rfl
    have e : Rw.text l = [46] := by rw [Rw.text, if_pos (List.eq_nil_of_length_eq_zero (by rw [hnn.out]; exact h0))]
    clear h0
    go_enter Tryz.func72, Tryz.ntmps72
    have h0 := St.start hpre
    refine wp_seq ?_
    repeat (first | simp only [List.nil_append] at h0 | simp only [List.cons_append] at h0 | simp only [List.set_cons_zero] at h0 | simp only [List.set_cons_succ] at h0 | simp only [List.eraseIdx_zero] at h0 | simp only [List.tail_cons] at h0 | simp only [List.eraseIdx_cons_zero] at h0 | simp only [List.eraseIdx_cons_succ] at h0 | simp only [List.setIfInBounds_toArray] at h0)
    refine wp_region_lit ?_
    refine wpList_plainQ rfl (fun K Q' hK => ?_); go_simp
    refine h0.k_alloc (fun w1 h1 => ?_)
    refine hK _ _ ?_; clear hK K; try clear Q'
    iterate 1 (refine wpList_plainQ rfl (fun K Q' hK => ?_); go_simp; refine hK _ _ ?_; clear hK K; try clear Q')
    refine wpList_nil ?_
    show Code.wp _ _ _ _ _
    refine wp_seq ?_
    refine wp_seq ?_
    repeat (first | simp only [List.nil_append] at h1 | simp only [List.cons_append] at h1 | simp only [List.set_cons_zero] at h1 | simp only [List.set_cons_succ] at h1 | simp only [List.eraseIdx_zero] at h1 | simp only [List.tail_cons] at h1 | simp only [List.eraseIdx_cons_zero] at h1 | simp only [List.eraseIdx_cons_succ] at h1 | simp only [List.setIfInBounds_toArray] at h1)
    refine wp_region_lit ?_
    have c_0_0 := h1.cell 0 rfl 0 rfl
    iterate 4 (refine wpList_plainQ rfl (fun K Q' hK => ?_); go_simp; refine hK _ _ ?_; clear hK K; try clear Q')
    clear c_0_0
    refine wpList_nil ?_
    show Code.wp _ _ _ _ _
    -- stops at: cond
    refine wp_cond_true (rfl) ?_
    refine wp_seq ?_
    refine wp_region_lit ?_
    iterate 1 (refine wpList_plainQ rfl (fun K Q' hK => ?_); go_simp; refine hK _ _ ?_; clear hK K; try clear Q')
    refine wpList_nil ?_
    show Code.wp _ _ _ _ _
    -- stops at: ret
    refine wp_ret ?_
    go_ret
    exact ⟨by rw [e]; rfl, h1.post.keep⟩
  · have d1 : ((nn : Int) == 0) = false := beq_eq_false_iff_ne.2 (by omega)
    have e : Rw.text l = Lib.join ss [32] := by rw [Rw.text, if_neg (fun e => h0 (by rw [← hnn.out, e]; rfl)), hss.out]
    have hss0 : ss ≠ [] := fun e => h0 (by rw [← hssl.out, e]; rfl)
    go_enter Tryz.func72, Tryz.ntmps72
    have h0 := St.start hpre
    refine wp_seq ?_
    repeat (first | simp only [List.nil_append] at h0 | simp only [List.cons_append] at h0 | simp only [List.set_cons_zero] at h0 | simp only [List.set_cons_succ] at h0 | simp only [List.eraseIdx_zero] at h0 | simp only [List.tail_cons] at h0 | simp only [List.eraseIdx_cons_zero] at h0 | simp only [List.eraseIdx_cons_succ] at h0 | simp only [List.setIfInBounds_toArray] at h0)
    refine wp_region_lit ?_
    refine wpList_plainQ rfl (fun K Q' hK => ?_); go_simp
    refine h0.k_alloc (fun w1 h1 => ?_)
    refine hK _ _ ?_; clear hK K; try clear Q'
    iterate 1 (refine wpList_plainQ rfl (fun K Q' hK => ?_); go_simp; refine hK _ _ ?_; clear hK K; try clear Q')
    refine wpList_nil ?_
    show Code.wp _ _ _ _ _
    refine wp_seq ?_
    refine wp_seq ?_
    repeat (first | simp only [List.nil_append] at h1 | simp only [List.cons_append] at h1 | simp only [List.set_cons_zero] at h1 | simp only [List.set_cons_succ] at h1 | simp only [List.eraseIdx_zero] at h1 | simp only [List.tail_cons] at h1 | simp only [List.eraseIdx_cons_zero] at h1 | simp only [List.eraseIdx_cons_succ] at h1 | simp only [List.setIfInBounds_toArray] at h1)
    refine wp_region_lit ?_
    have c_0_0 := h1.cell 0 rfl 0 rfl
    iterate 4 (refine wpList_plainQ rfl (fun K Q' hK => ?_); go_simp; refine hK _ _ ?_; clear hK K; try clear Q')
    clear c_0_0
    refine wpList_nil ?_
    show Code.wp _ _ _ _ _
    -- stops at: cond
    refine wp_cond_false (rfl) ?_
    refine wp_skip ?_
    show Code.wp _ _ _ _ _
    refine wp_seq ?_
    refine wp_region_lit ?_
    iterate 1 (refine wpList_plainQ rfl (fun K Q' hK => ?_); go_simp; refine hK _ _ ?_; clear hK K; try clear Q')
    refine wpList_nil ?_
    show Code.wp _ _ _ _ _
    refine wp_seq ?_
    refine wp_seq ?_
    refine wp_region_lit ?_
    iterate 1 (refine wpList_plainQ rfl (fun K Q' hK => ?_); go_simp; refine hK _ _ ?_; clear hK K; try clear Q')
    refine wpList_nil ?_
    show Code.wp _ _ _ _ _
    refine wp_block ?_
    -- stops at: loop
    go_loopw [3, 4] (fun v3 v4 wr => ∃ (j : Nat) (s : List UInt8), j ≤ nn ∧ v4 = .int .i64 j ∧ v3 = .string ⟨s.toArray⟩ ∧ Hid (s = Lib.join (ss.take j) [32]) ∧ St w H none 0 0 wr H [(w.heap.size, .cells #[.slice a0 nn c0] 91)] []) (fun _ v4 _ => nn - (intOf v4).toNat)
    case atStart => exact ⟨0, [], by omega, rfl, rfl, rfl, h1⟩
    case round =>
      obtain ⟨j, s, hj, rfl, rfl, hs1, hs⟩ := hrel
      have hsl : s.length ≤ 100000000 := by rw [hs1.out]; have := join_take_le ss j; omega
      by_cases hlt : j < nn
      · obtain ⟨tj, htj⟩ : ∃ t, l[j]? = some t := ⟨l[j]'(by have := hnn.out; omega), by simp⟩
        obtain ⟨b9, o9, cap9, e9⟩ : ∃ b o c, (Value.slice a0 nn c0) = .slice (some ⟨b, o, none⟩) nn c := by
          obtain ⟨cs, h1, _⟩ := hv
          obtain ⟨b, o, c, e, _⟩ := h1.ne_nil (by have := hnn.out; omega)
          rw [hnn.out] at e
          exact ⟨b, o, c, e⟩
        simp only [Value.slice.injEq, true_and] at e9
        obtain ⟨rfl, rfl⟩ := e9
        obtain ⟨bv, kv, r2, z2, hc, hr2, hz2, hb2, hk2⟩ := hv.at j htj
        have htv : TrV H (tV r2 tj.x bv kv z2) tj := ⟨bv, kv, r2, z2, rfl, hr2, hz2, hb2, hk2⟩
        obtain ⟨aB2, cB2, rfl, _, _⟩ := hb2.nil_or
        obtain ⟨aK2, cK2, rfl, _, _⟩ := hk2.form
        have hftj : ∀ a ∈ tj.els, El.fits a := fun a ha => hfit a (List.mem_flatMap.2 ⟨tj, List.mem_of_getElem? htj, ha⟩)
        have htjs : tj.size < 900000 := by have := size_mem htj; omega
        have hsj : ss[j]? = some (Tr.text tj) := by rw [← hss.out, List.getElem?_map, htj]; rfl
        obtain ⟨ty, hty⟩ : ∃ s, Hid (Tr.text tj = s) := ⟨_, show _ = _ from rfl⟩
        have htake : Hid (ss.take (j + 1) = ss.take j ++ [ty]) := by show _ = _; rw [List.take_add_one, hsj, hty.out]; rfl
        have htyl : ty.length ≤ 100000000 := by
          have h5 := Lib.lens_take_succ ss j ty (by rw [hsj, hty.out])
          have h6 := lens_take_le ss (j + 1)
          omega
        have l1 : ¬ 9223372036854775807 < s.length + 1 := by omega
        have l2 : ¬ 9223372036854775807 < s.length + ty.length := by omega
        have l3 : ¬ 9223372036854775807 < s.length + 1 + ty.length := by omega
        have e8 : IntKind.i64.wrap ((j : Int) + 1) = (j : Int) + 1 := IntWalk.i64_in _ (by omega)
        have ce := hc.out
        by_cases hj0 : j = 0
        · have d2 : decide (0 < j) = false := decide_eq_false (by omega)
          have hjn : Hid (j = 0) := hj0
          clear hj0
          refine wp_seq ?_
          refine wp_seq ?_
          repeat (first | simp only [List.nil_append] at hs | simp only [List.cons_append] at hs | simp only [List.set_cons_zero] at hs | simp only [List.set_cons_succ] at hs | simp only [List.eraseIdx_zero] at hs | simp only [List.tail_cons] at hs | simp only [List.eraseIdx_cons_zero] at hs | simp only [List.eraseIdx_cons_succ] at hs | simp only [List.setIfInBounds_toArray] at hs)
          refine wp_region_lit ?_
          have c_0_0 := hs.cell 0 rfl 0 rfl
          iterate 5 (refine wpList_plainQ rfl (fun K Q' hK => ?_); go_simp; refine hK _ _ ?_; clear hK K; try clear Q')
          clear c_0_0
          refine wpList_nil ?_
          show Code.wp _ _ _ _ _
          -- stops at: cond
          refine wp_cond_true (rfl) ?_
          refine wp_skip ?_
          show Code.wp _ _ _ _ _
          refine wp_seq ?_
          refine wp_block ?_
          refine wp_seq ?_
          refine wp_seq ?_
          refine wp_region_lit ?_
          iterate 2 (refine wpList_plainQ rfl (fun K Q' hK => ?_); go_simp; refine hK _ _ ?_; clear hK K; try clear Q')
          refine wpList_nil ?_
          show Code.wp _ _ _ _ _
          -- stops at: cond
          refine wp_cond_false (rfl) ?_
          refine wp_skip ?_
          show Code.wp _ _ _ _ _
          refine wp_region_lit ?_
          have c_0_0 := hs.cell 0 rfl 0 rfl
          iterate 5 (refine wpList_plainQ rfl (fun K Q' hK => ?_); go_simp; refine hK _ _ ?_; clear hK K; try clear Q')
          clear c_0_0
          -- stops at: load (Go.Op.load 103 (Go.Operand.tmp 24)) slot 25
          have ce1 := ce _ hs.fits
          obtain ⟨q0, q1, q2, q3, q4, q5⟩ := ce1
          iterate 1 (refine wpList_plainQ rfl (fun K Q' hK => ?_); go_simp; refine hK _ _ ?_; clear hK K; try clear Q')
          clear q0 q1 q2 q3 q4 q5
          -- stops at: eff:call (Go.Op.call {'callee': (Go.Callee.value (Go.Operand.func 94)), 'args': [(Go.Operand.tmp 25)], 'argTypes': [103]}) slot 26
          refine wpList_plainQ rfl (fun K Q' hK => ?_); go_simp
          refine (r5show_ok H _ _ tj hs.fits hftj htjs htv).mono ?_
          rintro e wC ⟨rfl, hkC⟩
          rw [hty.out]
          have h2 := hs.callk hkC
          refine hK _ _ ?_; clear hK K; try clear Q'
          iterate 2 (refine wpList_plainQ rfl (fun K Q' hK => ?_); go_simp; refine hK _ _ ?_; clear hK K; try clear Q')
          refine wpList_nil ?_
          show Code.wp _ _ _ _ _
          repeat (first | simp only [List.nil_append] at h2 | simp only [List.cons_append] at h2 | simp only [List.set_cons_zero] at h2 | simp only [List.set_cons_succ] at h2 | simp only [List.eraseIdx_zero] at h2 | simp only [List.tail_cons] at h2 | simp only [List.eraseIdx_cons_zero] at h2 | simp only [List.eraseIdx_cons_succ] at h2 | simp only [List.setIfInBounds_toArray] at h2)
          refine wp_region_lit ?_
          iterate 3 (refine wpList_plainQ rfl (fun K Q' hK => ?_); go_simp; refine hK _ _ ?_; clear hK K; try clear Q')
          refine wpList_nil ?_
          -- stops at: end ('roundend',)
          show _ ∧ _
          go_roundw
          case rel =>
            refine ⟨j + 1, s ++ ty, by omega, by simp, congrArg Value.string (ByteArray.ext (by simp)), ?_, h2⟩
            show _ = _
            rw [htake.out, hs1.out, hjn.out, List.take_zero, Lib.join_nil, List.nil_append, List.nil_append, Lib.join_one]
          case measure => simp [intOf]; omega
        · have d2 : decide (0 < j) = true := decide_eq_true (by omega)
          have hjn : ss.take j ≠ [] := fun e => by
            have := congrArg List.length e
            rw [List.length_take, hssl.out] at this
            simp at this
            omega
          refine wp_seq ?_
          refine wp_seq ?_
          repeat (first | simp only [List.nil_append] at hs | simp only [List.cons_append] at hs | simp only [List.set_cons_zero] at hs | simp only [List.set_cons_succ] at hs | simp only [List.eraseIdx_zero] at hs | simp only [List.tail_cons] at hs | simp only [List.eraseIdx_cons_zero] at hs | simp only [List.eraseIdx_cons_succ] at hs | simp only [List.setIfInBounds_toArray] at hs)
          refine wp_region_lit ?_
          have c_0_0 := hs.cell 0 rfl 0 rfl
          iterate 5 (refine wpList_plainQ rfl (fun K Q' hK => ?_); go_simp; refine hK _ _ ?_; clear hK K; try clear Q')
          clear c_0_0
          refine wpList_nil ?_
          show Code.wp _ _ _ _ _
          -- stops at: cond
          refine wp_cond_true (rfl) ?_
          refine wp_skip ?_
          show Code.wp _ _ _ _ _
          refine wp_seq ?_
          refine wp_block ?_
          refine wp_seq ?_
          refine wp_seq ?_
          refine wp_region_lit ?_
          iterate 2 (refine wpList_plainQ rfl (fun K Q' hK => ?_); go_simp; refine hK _ _ ?_; clear hK K; try clear Q')
          refine wpList_nil ?_
          show Code.wp _ _ _ _ _
          -- stops at: cond
          refine wp_cond_true (rfl) ?_
          refine wp_region_lit ?_
          iterate 3 (refine wpList_plainQ rfl (fun K Q' hK => ?_); go_simp; refine hK _ _ ?_; clear hK K; try clear Q')
          refine wpList_nil ?_
          show Code.wp _ _ _ _ _
          refine wp_region_lit ?_
          have c_0_0 := hs.cell 0 rfl 0 rfl
          iterate 5 (refine wpList_plainQ rfl (fun K Q' hK => ?_); go_simp; refine hK _ _ ?_; clear hK K; try clear Q')
          clear c_0_0
          -- stops at: load (Go.Op.load 103 (Go.Operand.tmp 24)) slot 25
          have ce1 := ce _ hs.fits
          obtain ⟨q0, q1, q2, q3, q4, q5⟩ := ce1
          iterate 1 (refine wpList_plainQ rfl (fun K Q' hK => ?_); go_simp; refine hK _ _ ?_; clear hK K; try clear Q')
          clear q0 q1 q2 q3 q4 q5
          -- stops at: eff:call (Go.Op.call {'callee': (Go.Callee.value (Go.Operand.func 94)), 'args': [(Go.Operand.tmp 25)], 'argTypes': [103]}) slot 26
          refine wpList_plainQ rfl (fun K Q' hK => ?_); go_simp
          refine (r5show_ok H _ _ tj hs.fits hftj htjs htv).mono ?_
          rintro e wC ⟨rfl, hkC⟩
          rw [hty.out]
          have h3 := hs.callk hkC
          refine hK _ _ ?_; clear hK K; try clear Q'
          iterate 2 (refine wpList_plainQ rfl (fun K Q' hK => ?_); go_simp; refine hK _ _ ?_; clear hK K; try clear Q')
          refine wpList_nil ?_
          show Code.wp _ _ _ _ _
          repeat (first | simp only [List.nil_append] at h3 | simp only [List.cons_append] at h3 | simp only [List.set_cons_zero] at h3 | simp only [List.set_cons_succ] at h3 | simp only [List.eraseIdx_zero] at h3 | simp only [List.tail_cons] at h3 | simp only [List.eraseIdx_cons_zero] at h3 | simp only [List.eraseIdx_cons_succ] at h3 | simp only [List.setIfInBounds_toArray] at h3)
          refine wp_region_lit ?_
          iterate 3 (refine wpList_plainQ rfl (fun K Q' hK => ?_); go_simp; refine hK _ _ ?_; clear hK K; try clear Q')
          refine wpList_nil ?_
          -- stops at: end ('roundend',)
          show _ ∧ _
          go_roundw
          case rel =>
            refine ⟨j + 1, s ++ 32 :: ty, by omega, by simp, congrArg Value.string (ByteArray.ext (by simp)), ?_, h3⟩
            show _ = _
            rw [htake.out, join_snoc _ _ hjn, hs1.out]
          case measure => simp [intOf]; omega
      · obtain rfl : j = nn := by omega
        refine wp_seq ?_
        refine wp_seq ?_
        repeat (first | simp only [List.nil_append] at hs | simp only [List.cons_append] at hs | simp only [List.set_cons_zero] at hs | simp only [List.set_cons_succ] at hs | simp only [List.eraseIdx_zero] at hs | simp only [List.tail_cons] at hs | simp only [List.eraseIdx_cons_zero] at hs | simp only [List.eraseIdx_cons_succ] at hs | simp only [List.setIfInBounds_toArray] at hs)
        refine wp_region_lit ?_
        have c_0_0 := hs.cell 0 rfl 0 rfl
        iterate 5 (refine wpList_plainQ rfl (fun K Q' hK => ?_); go_simp; refine hK _ _ ?_; clear hK K; try clear Q')
        clear c_0_0
        refine wpList_nil ?_
        show Code.wp _ _ _ _ _
        -- stops at: cond
        refine wp_cond_false (rfl) ?_
        refine wp_exit ?_
        show Code.wp _ _ _ _ _
        refine wp_seq ?_
        refine wp_region_lit ?_
        iterate 2 (refine wpList_plainQ rfl (fun K Q' hK => ?_); go_simp; refine hK _ _ ?_; clear hK K; try clear Q')
        refine wpList_nil ?_
        show Code.wp _ _ _ _ _
        -- stops at: ret
        refine wp_ret ?_
        go_ret
        refine ⟨?_, hs.post.keep⟩
        rw [e, hs1.out, List.take_of_length_le (by rw [hssl.out]; omega)]
        rfl

/-! ### The least element -/
theorem at_least {l : List (Tr El)} {t : Tr El} (h : Rw.minT kf l = some t) : l[Rw.least kf l]? = some t := h
set_option maxRecDepth 100000 in
set_option maxHeartbeats 2000000 in
theorem r7min_ok (H : GH) (w : World) (v : Value) (l : List (Tr El)) (hf : Fits w H) (hn : Rw.size l < 1000000) (hv : RsV H v l) :
    Calls Tryz.prog 65 #[.agg #[v]] w fun e w' => e = .returned (.tuple #[elV ((Rw.min? kf l).getD (0, 0)), .int .i64 (l.length - 1 : Nat)]) ∧ Keep none w w' := by
  have hpre : Pre w H none 0 0 := Pre.none hf 0 0
  cases l with
  | nil =>
    obtain ⟨a0, c0, rfl, _, _⟩ := hv.form
    go_enter Tryz.func65, Tryz.ntmps65
    have h0 := St.start hpre
    refine wp_seq ?_
    repeat (first | simp only [List.nil_append] at h0 | simp only [List.cons_append] at h0 | simp only [List.set_cons_zero] at h0 | simp only [List.set_cons_succ] at h0 | simp only [List.eraseIdx_zero] at h0 | simp only [List.tail_cons] at h0 | simp only [List.eraseIdx_cons_zero] at h0 | simp only [List.eraseIdx_cons_succ] at h0 | simp only [List.setIfInBounds_toArray] at h0)
    refine wp_region_lit ?_
    refine wpList_plainQ rfl (fun K Q' hK => ?_); go_simp
    refine h0.k_alloc (fun w1 h1 => ?_)
    refine hK _ _ ?_; clear hK K; try clear Q'
    refine wpList_plainQ rfl (fun K Q' hK => ?_); go_simp
    refine h1.k_alloc (fun w2 h2 => ?_)
    refine hK _ _ ?_; clear hK K; try clear Q'
    iterate 1 (refine wpList_plainQ rfl (fun K Q' hK => ?_); go_simp; refine hK _ _ ?_; clear hK K; try clear Q')
    refine wpList_nil ?_
    show Code.wp _ _ _ _ _
    refine wp_seq ?_
    refine wp_seq ?_
    repeat (first | simp only [List.nil_append] at h2 | simp only [List.cons_append] at h2 | simp only [List.set_cons_zero] at h2 | simp only [List.set_cons_succ] at h2 | simp only [List.eraseIdx_zero] at h2 | simp only [List.tail_cons] at h2 | simp only [List.eraseIdx_cons_zero] at h2 | simp only [List.eraseIdx_cons_succ] at h2 | simp only [List.setIfInBounds_toArray] at h2)
    refine wp_region_lit ?_
    have c_0_0 := h2.cell 0 rfl 0 rfl
    iterate 4 (refine wpList_plainQ rfl (fun K Q' hK => ?_); go_simp; refine hK _ _ ?_; clear hK K; try clear Q')
    clear c_0_0
    refine wpList_nil ?_
    show Code.wp _ _ _ _ _
    -- stops at: cond
    refine wp_cond_true (rfl) ?_
    refine wp_seq ?_
    refine wp_region_lit ?_
    iterate 1 (refine wpList_plainQ rfl (fun K Q' hK => ?_); go_simp; refine hK _ _ ?_; clear hK K; try clear Q')
    have c_0 := h2.cell 1 rfl 0 rfl
    have f_0 := h2.free 1 rfl 0
    have c_1 := h2.cell 1 rfl 1 rfl
    have f_1 := h2.free 1 rfl 1
    refine wpList_plainQ rfl (fun K Q' hK => ?_); go_simp
    clear c_0 f_0 c_1 f_1
    refine (h2.set (i := 1) rfl 0 _).k_set 1 rfl (fun w3 h3 => ?_)
    refine hK _ _ ?_; clear hK K; try clear Q'
    iterate 1 (refine wpList_plainQ rfl (fun K Q' hK => ?_); go_simp; refine hK _ _ ?_; clear hK K; try clear Q')
    refine wpList_nil ?_
    show Code.wp _ _ _ _ _
    -- stops at: ret
    refine wp_ret ?_
    have r_1_0 := h3.cell 1 rfl 0 rfl
    have r_1_1 := h3.cell 1 rfl 1 rfl
    first | show bodyPost _ _ _ _ _ _ | (simp only [Exit.then]; show bodyPost _ _ _ _ _ _) | (simp only [Exit.inBlock]; show bodyPost _ _ _ _ _ _) | (simp only [Exit.inBlock, Exit.then]; show bodyPost _ _ _ _ _ _) | (simp only [Exit.noGoto, Exit.inBlock, Exit.then]; show bodyPost _ _ _ _ _ _)
    refine bodyPost_ret (v := ?_) ?_ rfl ?_
    rotate_left
    · simp only [results, Tryz.results65]; go_simp; with_reducible rfl
    clear r_1_0 r_1_1
    exact ⟨rfl, h3.post.keep⟩
  | cons t0 l0 =>
    have hv' := hv
    obtain ⟨b9, o9, cap9, nn, _, rfl, hnn, _, hn0, hcap, _, _⟩ := hv.cons
    obtain ⟨t, hm⟩ : ∃ t, Rw.minT kf (t0 :: l0) = some t := by
      cases hm : Rw.minT kf (t0 :: l0) with
      | none => cases Rw.minT_none kf hm
      | some t => exact ⟨t, rfl⟩
    have hmin : Rw.min? kf (t0 :: l0) = some t.x := by unfold Rw.min?; rw [hm]; rfl
    have hat := at_least hm
    have hil := (List.getElem?_eq_some_iff.1 hat).1
    obtain ⟨i, hi⟩ : ∃ i, Hid (Rw.least kf (t0 :: l0) = i) := ⟨_, show _ = _ from rfl⟩
    rw [hi.out] at hat hil
    obtain ⟨_, _, _, _, hc, _, _, _, _⟩ := hv'.at i hat
    have hlb : nn < 1000000 := by have := hnn.out; have := Rw.length_le (t0 :: l0); simp at this; omega
    have hin : (i : Int) < (nn : Int) := by have := hnn.out; simp at hil; omega
    have d1 : ((nn : Int) == 0) = false := beq_eq_false_iff_ne.2 (by omega)
    obtain ⟨pn, hpn⟩ : ∃ p, Hid (nn - 1 = p) := ⟨_, show _ = _ from rfl⟩
    have e1 : IntKind.i64.wrap ((nn : Int) - 1) = (pn : Int) := by have := hpn.out; rw [IntWalk.i64_in _ (by omega)]; omega
    go_enter Tryz.func65, Tryz.ntmps65
    have h0 := St.start hpre
    refine wp_seq ?_
    repeat (first | simp only [List.nil_append] at h0 | simp only [List.cons_append] at h0 | simp only [List.set_cons_zero] at h0 | simp only [List.set_cons_succ] at h0 | simp only [List.eraseIdx_zero] at h0 | simp only [List.tail_cons] at h0 | simp only [List.eraseIdx_cons_zero] at h0 | simp only [List.eraseIdx_cons_succ] at h0 | simp only [List.setIfInBounds_toArray] at h0)
    refine wp_region_lit ?_
    refine wpList_plainQ rfl (fun K Q' hK => ?_); go_simp
    refine h0.k_alloc (fun w1 h1 => ?_)
    refine hK _ _ ?_; clear hK K; try clear Q'
    refine wpList_plainQ rfl (fun K Q' hK => ?_); go_simp
    refine h1.k_alloc (fun w2 h2 => ?_)
    refine hK _ _ ?_; clear hK K; try clear Q'
    iterate 1 (refine wpList_plainQ rfl (fun K Q' hK => ?_); go_simp; refine hK _ _ ?_; clear hK K; try clear Q')
    refine wpList_nil ?_
    show Code.wp _ _ _ _ _
    refine wp_seq ?_
    refine wp_seq ?_
    repeat (first | simp only [List.nil_append] at h2 | simp only [List.cons_append] at h2 | simp only [List.set_cons_zero] at h2 | simp only [List.set_cons_succ] at h2 | simp only [List.eraseIdx_zero] at h2 | simp only [List.tail_cons] at h2 | simp only [List.eraseIdx_cons_zero] at h2 | simp only [List.eraseIdx_cons_succ] at h2 | simp only [List.setIfInBounds_toArray] at h2)
    refine wp_region_lit ?_
    have c_0_0 := h2.cell 0 rfl 0 rfl
    iterate 4 (refine wpList_plainQ rfl (fun K Q' hK => ?_); go_simp; refine hK _ _ ?_; clear hK K; try clear Q')
    clear c_0_0
    refine wpList_nil ?_
    show Code.wp _ _ _ _ _
    -- stops at: cond
    refine wp_cond_false (rfl) ?_
    refine wp_skip ?_
    show Code.wp _ _ _ _ _
    refine wp_seq ?_
    refine h2.region [0] [(0, true), (1, true), (2, true), (3, true), (8, true), (9, true), (10, true), (11, true), (4, false), (5, true), (6, true), (7, true), (12, false), (13, true)] (by kernel_rfl) (by kernel_rfl) (fun w3 h3 => ?_)
    refine wpOrd_hide (fun _ _ d _ _ h => by cases d <;> exact h) (fun QR hQn hQp => ?_)
    simp only [ordOps, List.map_cons, List.map_nil, List.getD_cons_zero, List.getD_cons_succ]
    iterate 8 (refine wpOrd_quiet (v := ?_) rfl (fun _ _ _ => hQp _ _ _ _ _) ?_ ?_; rotate_left; (intro w' hS; have c_0_0 := hS.cell 0 rfl 0 rfl; (first | (go_simp; done) | (go_simp; with_reducible rfl))); simp only [Act.put, List.setIfInBounds_toArray, List.set_cons_zero, List.set_cons_succ])
    -- stops at: eff:call (Go.Op.call {'callee': (Go.Callee.value (Go.Operand.func 66)), 'args': [(Go.Operand.tmp 12)], 'argTypes': [33]}) slot 13
    refine wpOrd_effQ rfl (fun K Q' hK => ?_); go_simp
    refine (rleast_ok H _ _ t0 l0 h3.fits hn hv').mono ?_
    rintro e wA ⟨rfl, hkA⟩
    rw [hi.out]
    have h4 := h3.callk hkA
    refine hK _ _ (h4.sat' (GH.le_refl _) [0] (by kernel_rfl)) ?_; clear hK K; try clear Q'
    iterate 2 (refine wpOrd_quiet (v := ?_) rfl (fun _ _ _ => hQp _ _ _ _ _) ?_ ?_; rotate_left; (intro w' hS; (first | (go_simp; done) | (go_simp; with_reducible rfl))); simp only [Act.put, List.setIfInBounds_toArray, List.set_cons_zero, List.set_cons_succ])
    -- stops at: load (Go.Op.load 32 (Go.Operand.tmp 15)) slot 16
    iterate 1 (refine wpOrd_quiet (v := ?_) rfl (fun _ _ _ => hQp _ _ _ _ _) ?_ ?_; rotate_left; (intro w' hS; obtain ⟨q0, q1, q2, q3, q4, q5⟩ := hc.out _ hS.1; (first | (go_simp; done) | (go_simp; with_reducible rfl))); simp only [Act.put, List.setIfInBounds_toArray, List.set_cons_zero, List.set_cons_succ])
    have c_0 := h4.cell 1 rfl 0 rfl
    have f_0 := h4.free 1 rfl 0
    have c_1 := h4.cell 1 rfl 1 rfl
    have f_1 := h4.free 1 rfl 1
    refine wpOrd_effQ rfl (fun K Q' hK => ?_); go_simp
    clear c_0 f_0 c_1 f_1
    refine (h4.set (i := 1) rfl 0 _).k_set 1 rfl (fun w5 h5 => ?_)
    refine hK _ _ (h5.sat' (GH.le_refl _) [0] (by kernel_rfl)) ?_; clear hK K; try clear Q'
    iterate 1 (refine wpOrd_quiet (v := ?_) rfl (fun _ _ _ => hQp _ _ _ _ _) ?_ ?_; rotate_left; (intro w' hS; (first | (go_simp; done) | (go_simp; with_reducible rfl))); simp only [Act.put, List.setIfInBounds_toArray, List.set_cons_zero, List.set_cons_succ])
    refine wpOrd_nil (hQn _ _ ?_); clear hQn hQp QR
    show Code.wp _ _ _ _ _
    -- stops at: ret
    refine wp_ret ?_
    have r_1_0 := h5.cell 1 rfl 0 rfl
    have r_1_1 := h5.cell 1 rfl 1 rfl
    first | show bodyPost _ _ _ _ _ _ | (simp only [Exit.then]; show bodyPost _ _ _ _ _ _) | (simp only [Exit.inBlock]; show bodyPost _ _ _ _ _ _) | (simp only [Exit.inBlock, Exit.then]; show bodyPost _ _ _ _ _ _) | (simp only [Exit.noGoto, Exit.inBlock, Exit.then]; show bodyPost _ _ _ _ _ _)
    refine bodyPost_ret (v := ?_) ?_ rfl ?_
    rotate_left
    · simp only [results, Tryz.results65]; go_simp; with_reducible rfl
    clear r_1_0 r_1_1
    refine ⟨?_, h5.post.keep⟩
    have hpl : l0.length + 1 - 1 = pn := by have := hpn.out; have := hnn.out; omega
    rw [hmin]
    show _ = Ending.returned (.tuple #[_, .int .i64 ((l0.length + 1 - 1 : Nat) : Int)])
    rw [hpl]
    rfl
end Go.Proofs.YteigmfkkeofcaaaGreatDoor
