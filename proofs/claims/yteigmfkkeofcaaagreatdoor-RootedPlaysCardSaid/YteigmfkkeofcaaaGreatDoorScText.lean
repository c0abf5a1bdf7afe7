/-
The document's texts of numbers and elements.
-/
import Derived.Test.YteigmfkkeofcaaaGreatDoorNcText
import Derived.Lib.ItoaMem
namespace Go.Proofs.YteigmfkkeofcaaaGreatDoor
open Go Go.RowKit
set_option linter.unusedVariables false

theorem dec_small {u : Nat} (h : u < 10) : Lib.decDigits u = [UInt8.ofNat (48 + u)] := by rw [Lib.decDigits, dif_pos h]
theorem dec_big {u : Nat} (h : ¬ u < 10) : Lib.decDigits u = Lib.decDigits (u / 10) ++ [UInt8.ofNat (48 + u % 10)] := by rw [Lib.decDigits, dif_neg h]
theorem dec_len : ∀ (k u : Nat), u < 10 ^ (k + 1) → (Lib.decDigits u).length ≤ k + 1 := by
  intro k
  induction k with
  | zero => intro u h; rw [dec_small (by simpa using h)]; simp
  | succ k ih =>
    intro u h
    by_cases h10 : u < 10
    · rw [dec_small h10]; simp
    · rw [dec_big h10]
      have := ih (u / 10) (by rw [Nat.pow_succ] at h; omega)
      simp; omega
theorem dec_len20 {u : Nat} (h : u ≤ 9223372036854775808) : (Lib.decDigits u).length ≤ 20 := dec_len 19 u (by simp; omega)

theorem conv1 (w : World) (b s : Nat) (hs : s < 256) (hc : w.cell? ⟨b, 0, none⟩ = some (.int .u8 (s : Int))) : (convert 152 9 (.slice (some ⟨b, 0, none⟩) 1 1)).run Tryz.prog w = .ok (.string ⟨#[UInt8.ofNat s]⟩) w := by
  refine run_convert_bytes_back w _ _ 5 ⟨b, 0, none⟩ 1 [UInt8.ofNat s] Tryz.underlying152 (by kernel_rfl) (by kernel_rfl) (fun j hj => ?_)
  obtain rfl : j = 0 := by simp at hj; omega
  have : ((UInt8.ofNat s).toNat : Int) = (s : Int) := by simp; omega
  rw [show ([UInt8.ofNat s][0]'hj) = UInt8.ofNat s from rfl, this]
  exact hc
set_option maxRecDepth 100000 in
set_option maxHeartbeats 1000000 in
theorem rdigits_ok : ∀ (u : Nat) (n : Int) (H : GH) (w : World), Hid (n = -(u : Int)) → u ≤ 9223372036854775808 → Fits w H →
    Calls Tryz.prog 93 #[.int .i64 n] w fun e w' => e = .returned (.string ⟨(Lib.decDigits u).toArray⟩) ∧ Keep none w w' := by
  intro u
  induction u using Nat.strongRecOn with
  | _ u ih =>
    intro n H w hn hu hf
    have hpre : Pre w H none 0 0 := Pre.none hf 0 0
    obtain ⟨s, hs⟩ : ∃ s : Nat, Hid (48 + u % 10 = s) := ⟨_, show _ = _ from rfl⟩
    have hsl : s < 58 := by have := hs.out; omega
    obtain ⟨r, hr⟩ : ∃ r : Int, Hid (n.tmod 10 = r) := ⟨_, show _ = _ from rfl⟩
    have er : n.tmod 10 = r := hr.out
    have hr2 : r = -((u % 10 : Nat) : Int) := by rw [← er, hn.out, Int.neg_tmod]; rfl
    have es : IntKind.i64.wrap (48 - r) = (s : Int) := by rw [IntWalk.i64_in _ (by omega), hr2, ← hs.out]; omega
    have e8 : IntKind.u8.wrap (s : Int) = (s : Int) := by simp only [IntKind.wrap_u8]; omega
    have hsb : Hid (UInt8.ofNat s = UInt8.ofNat (48 + u % 10)) := by show _ = _; rw [hs.out]
    by_cases h10 : u < 10
    · have d1 : decide (n ≤ -10) = false := decide_eq_false (by rw [hn.out]; omega)
      have hd : Hid (Lib.decDigits u = [UInt8.ofNat (48 + u)]) := dec_small h10
      clear hr2
      go_enter Tryz.func93, Tryz.ntmps93
      have h0 := St.start hpre
      refine wp_seq ?_
      repeat (first | simp only [List.nil_append] at h0 | simp only [List.cons_append] at h0 | simp only [List.set_cons_zero] at h0 | simp only [List.set_cons_succ] at h0 | simp only [List.eraseIdx_zero] at h0 | simp only [List.tail_cons] at h0 | simp only [List.eraseIdx_cons_zero] at h0 | simp only [List.eraseIdx_cons_succ] at h0 | simp only [List.setIfInBounds_toArray] at h0)
      refine wp_region_lit ?_
      iterate 1 (refine wpList_plainQ rfl (fun K Q' hK => ?_); go_simp; refine hK _ _ ?_; clear hK K; try clear Q')
      refine wpList_nil ?_
      show Code.wp _ _ _ _ _
      refine wp_seq ?_
      refine wp_region_lit ?_
      iterate 1 (refine wpList_plainQ rfl (fun K Q' hK => ?_); go_simp; refine hK _ _ ?_; clear hK K; try clear Q')
      refine wpList_nil ?_
      show Code.wp _ _ _ _ _
      refine wp_seq ?_
      refine wp_seq ?_
      refine wp_region_lit ?_
      iterate 2 (refine wpList_plainQ rfl (fun K Q' hK => ?_); go_simp; refine hK _ _ ?_; clear hK K; try clear Q')
      refine wpList_nil ?_
      show Code.wp _ _ _ _ _
      -- stops at: cond
      refine wp_cond_false (rfl) ?_
      refine wp_skip ?_
      show Code.wp _ _ _ _ _
      refine wp_seq ?_
      refine wp_region_lit ?_
      iterate 5 (refine wpList_plainQ rfl (fun K Q' hK => ?_); go_simp; refine hK _ _ ?_; clear hK K; try clear Q')
      refine wpList_plainQ rfl (fun K Q' hK => ?_); go_simp
      refine h0.k_alloc (fun w1 h1 => ?_)
      refine hK _ _ ?_; clear hK K; try clear Q'
      have ce := conv1 _ _ s (by omega) (h1.cell 0 rfl 0 rfl)
      iterate 1 (refine wpList_plainQ rfl (fun K Q' hK => ?_); go_simp; refine hK _ _ ?_; clear hK K; try clear Q')
      clear ce
      iterate 2 (refine wpList_plainQ rfl (fun K Q' hK => ?_); go_simp; refine hK _ _ ?_; clear hK K; try clear Q')
      refine wpList_nil ?_
      show Code.wp _ _ _ _ _
      -- stops at: ret
      refine wp_ret ?_
      go_ret
      have hz : Lib.decDigits u = [UInt8.ofNat s] := by rw [hd.out, hsb.out, Nat.mod_eq_of_lt h10]
      refine ⟨?_, h1.post.keep⟩
      rw [hz]
      show Ending.returned (.string ((⟨#[]⟩ : ByteArray) ++ ⟨#[UInt8.ofNat s]⟩)) = _
      rw [show ((⟨#[]⟩ : ByteArray) ++ ⟨#[UInt8.ofNat s]⟩) = ⟨[UInt8.ofNat s].toArray⟩ from ByteArray.ext (by simp)]
    · have d1 : decide (n ≤ -10) = true := decide_eq_true (by rw [hn.out]; omega)
      have hd : Hid (Lib.decDigits u = Lib.decDigits (u / 10) ++ [UInt8.ofNat (48 + u % 10)]) := dec_big h10
      obtain ⟨q, hq⟩ : ∃ q : Int, Hid (IntKind.i64.wrap (n.tdiv 10) = q) := ⟨_, show _ = _ from rfl⟩
      have hq1 : Hid (q = -((u / 10 : Nat) : Int)) := by show _ = _; rw [← hq.out, hn.out, Int.neg_tdiv]; rw [IntWalk.i64_in _ (by show _ ∧ _; have : (u : Int).tdiv 10 = ((u / 10 : Nat) : Int) := rfl; omega)]; rfl
      have eq1 : IntKind.i64.wrap (n.tdiv 10) = q := hq.out
      obtain ⟨ds, hds⟩ : ∃ s, Hid (Lib.decDigits (u / 10) = s) := ⟨_, show _ = _ from rfl⟩
      have hdl : ds.length ≤ 20 := by rw [← hds.out]; exact dec_len20 (by omega)
      have l1 : ¬ 9223372036854775807 < ds.length + 1 := by omega
      clear hr2
      go_enter Tryz.func93, Tryz.ntmps93
      have h0 := St.start hpre
      refine wp_seq ?_
      repeat (first | simp only [List.nil_append] at h0 | simp only [List.cons_append] at h0 | simp only [List.set_cons_zero] at h0 | simp only [List.set_cons_succ] at h0 | simp only [List.eraseIdx_zero] at h0 | simp only [List.tail_cons] at h0 | simp only [List.eraseIdx_cons_zero] at h0 | simp only [List.eraseIdx_cons_succ] at h0 | simp only [List.setIfInBounds_toArray] at h0)
      refine wp_region_lit ?_
      iterate 1 (refine wpList_plainQ rfl (fun K Q' hK => ?_); go_simp; refine hK _ _ ?_; clear hK K; try clear Q')
      refine wpList_nil ?_
      show Code.wp _ _ _ _ _
      refine wp_seq ?_
      refine wp_region_lit ?_
      iterate 1 (refine wpList_plainQ rfl (fun K Q' hK => ?_); go_simp; refine hK _ _ ?_; clear hK K; try clear Q')
      refine wpList_nil ?_
      show Code.wp _ _ _ _ _
      refine wp_seq ?_
      refine wp_seq ?_
      refine wp_region_lit ?_
      iterate 2 (refine wpList_plainQ rfl (fun K Q' hK => ?_); go_simp; refine hK _ _ ?_; clear hK K; try clear Q')
      refine wpList_nil ?_
      show Code.wp _ _ _ _ _
      -- stops at: cond
      refine wp_cond_true (rfl) ?_
      refine wp_region_lit ?_
      iterate 2 (refine wpList_plainQ rfl (fun K Q' hK => ?_); go_simp; refine hK _ _ ?_; clear hK K; try clear Q')
      -- stops at: eff:call (Go.Op.call {'callee': (Go.Callee.value (Go.Operand.func 93)), 'args': [(Go.Operand.tmp 7)], 'argTypes': [2]}) slot 8
      refine wpList_plainQ rfl (fun K Q' hK => ?_); go_simp
      refine (ih (u / 10) (by omega) q H _ hq1 (by omega) h0.fits).mono ?_
      rintro e wA ⟨rfl, hkA⟩
      rw [hds.out]
      have h1 := h0.callk hkA
      refine hK _ _ ?_; clear hK K; try clear Q'
      iterate 1 (refine wpList_plainQ rfl (fun K Q' hK => ?_); go_simp; refine hK _ _ ?_; clear hK K; try clear Q')
      refine wpList_nil ?_
      show Code.wp _ _ _ _ _
      refine wp_seq ?_
      repeat (first | simp only [List.nil_append] at h1 | simp only [List.cons_append] at h1 | simp only [List.set_cons_zero] at h1 | simp only [List.set_cons_succ] at h1 | simp only [List.eraseIdx_zero] at h1 | simp only [List.tail_cons] at h1 | simp only [List.eraseIdx_cons_zero] at h1 | simp only [List.eraseIdx_cons_succ] at h1 | simp only [List.setIfInBounds_toArray] at h1)
      refine wp_region_lit ?_
      iterate 5 (refine wpList_plainQ rfl (fun K Q' hK => ?_); go_simp; refine hK _ _ ?_; clear hK K; try clear Q')
      refine wpList_plainQ rfl (fun K Q' hK => ?_); go_simp
      refine h1.k_alloc (fun w2 h2 => ?_)
      refine hK _ _ ?_; clear hK K; try clear Q'
      have ce := conv1 _ _ s (by omega) (h2.cell 0 rfl 0 rfl)
      iterate 1 (refine wpList_plainQ rfl (fun K Q' hK => ?_); go_simp; refine hK _ _ ?_; clear hK K; try clear Q')
      clear ce
      iterate 2 (refine wpList_plainQ rfl (fun K Q' hK => ?_); go_simp; refine hK _ _ ?_; clear hK K; try clear Q')
      refine wpList_nil ?_
      show Code.wp _ _ _ _ _
      -- stops at: ret
      refine wp_ret ?_
      go_ret
      have hz : Lib.decDigits u = ds ++ [UInt8.ofNat s] := by rw [hd.out, hds.out, hsb.out]
      refine ⟨?_, h2.post.keep⟩
      rw [hz]
      show Ending.returned (.string ((⟨ds.toArray⟩ : ByteArray) ++ ⟨#[UInt8.ofNat s]⟩)) = _
      rw [show ((⟨ds.toArray⟩ : ByteArray) ++ ⟨#[UInt8.ofNat s]⟩) = ⟨(ds ++ [UInt8.ofNat s]).toArray⟩ from ByteArray.ext (by simp)]

set_option maxRecDepth 100000 in
set_option maxHeartbeats 1000000 in
theorem rnumber_ok (H : GH) (w : World) (n : Int) (h1 : -9223372036854775808 ≤ n) (h2 : n ≤ 9223372036854775807) (hf : Fits w H) :
    Calls Tryz.prog 71 #[.int .i64 n] w fun e w' => e = .returned (.string ⟨(Lib.itoa n).toArray⟩) ∧ Keep none w w' := by
  have hpre : Pre w H none 0 0 := Pre.none hf 0 0
  by_cases h0 : n < 0
  · have d1 : decide (n < 0) = true := decide_eq_true h0
    have hi : Lib.itoa n = 45 :: Lib.decDigits n.natAbs := if_pos h0
    obtain ⟨ds, hds⟩ : ∃ s, Hid (Lib.decDigits n.natAbs = s) := ⟨_, show _ = _ from rfl⟩
    have hdl : ds.length ≤ 20 := by rw [← hds.out]; exact dec_len20 (by omega)
    have l1 : ¬ 9223372036854775807 < 1 + ds.length := by omega
    go_enter Tryz.func71, Tryz.ntmps71
    have h0 := St.start hpre
    refine wp_seq ?_
    repeat (first | simp only [List.nil_append] at h0 | simp only [List.cons_append] at h0 | simp only [List.set_cons_zero] at h0 | simp only [List.set_cons_succ] at h0 | simp only [List.eraseIdx_zero] at h0 | simp only [List.tail_cons] at h0 | simp only [List.eraseIdx_cons_zero] at h0 | simp only [List.eraseIdx_cons_succ] at h0 | simp only [List.setIfInBounds_toArray] at h0)
    refine wp_region_lit ?_
    iterate 1 (refine wpList_plainQ rfl (fun K Q' hK => ?_); go_simp; refine hK _ _ ?_; clear hK K; try clear Q')
    refine wpList_nil ?_
    show Code.wp _ _ _ _ _
    refine wp_seq ?_
    refine wp_seq ?_
    refine wp_region_lit ?_
    iterate 2 (refine wpList_plainQ rfl (fun K Q' hK => ?_); go_simp; refine hK _ _ ?_; clear hK K; try clear Q')
    refine wpList_nil ?_
    show Code.wp _ _ _ _ _
    -- stops at: cond
    refine wp_cond_true (rfl) ?_
    refine wp_seq ?_
    refine wp_region_lit ?_
    iterate 1 (refine wpList_plainQ rfl (fun K Q' hK => ?_); go_simp; refine hK _ _ ?_; clear hK K; try clear Q')
    -- stops at: eff:call (Go.Op.call {'callee': (Go.Callee.value (Go.Operand.func 93)), 'args': [(Go.Operand.tmp 5)], 'argTypes': [2]}) slot 6
    refine wpList_plainQ rfl (fun K Q' hK => ?_); go_simp
    refine (rdigits_ok n.natAbs n H _ (by show _ = _; omega) (by omega) h0.fits).mono ?_
    rintro e wA ⟨rfl, hkA⟩
    rw [hds.out]
    have h1 := h0.callk hkA
    refine hK _ _ ?_; clear hK K; try clear Q'
    iterate 2 (refine wpList_plainQ rfl (fun K Q' hK => ?_); go_simp; refine hK _ _ ?_; clear hK K; try clear Q')
    refine wpList_nil ?_
    show Code.wp _ _ _ _ _
    -- stops at: ret
    refine wp_ret ?_
    go_ret
    refine ⟨?_, h1.post.keep⟩
    rw [hi, hds.out]
    show Ending.returned (.string ((⟨#[45]⟩ : ByteArray) ++ ⟨ds.toArray⟩)) = _
    rw [show ((⟨#[45]⟩ : ByteArray) ++ ⟨ds.toArray⟩) = ⟨(45 :: ds).toArray⟩ from ByteArray.ext (by simp)]
  · have d1 : decide (n < 0) = false := decide_eq_false h0
    have hi : Lib.itoa n = Lib.decDigits n.toNat := if_neg h0
    have e1 : IntKind.i64.wrap (-n) = -n := IntWalk.i64_in _ (by omega)
    go_enter Tryz.func71, Tryz.ntmps71
    have h0 := St.start hpre
    refine wp_seq ?_
    repeat (first | simp only [List.nil_append] at h0 | simp only [List.cons_append] at h0 | simp only [List.set_cons_zero] at h0 | simp only [List.set_cons_succ] at h0 | simp only [List.eraseIdx_zero] at h0 | simp only [List.tail_cons] at h0 | simp only [List.eraseIdx_cons_zero] at h0 | simp only [List.eraseIdx_cons_succ] at h0 | simp only [List.setIfInBounds_toArray] at h0)
    refine wp_region_lit ?_
    iterate 1 (refine wpList_plainQ rfl (fun K Q' hK => ?_); go_simp; refine hK _ _ ?_; clear hK K; try clear Q')
    refine wpList_nil ?_
    show Code.wp _ _ _ _ _
    refine wp_seq ?_
    refine wp_seq ?_
    refine wp_region_lit ?_
    iterate 2 (refine wpList_plainQ rfl (fun K Q' hK => ?_); go_simp; refine hK _ _ ?_; clear hK K; try clear Q')
    refine wpList_nil ?_
    show Code.wp _ _ _ _ _
    -- stops at: cond
    refine wp_cond_false (rfl) ?_
    refine wp_skip ?_
    show Code.wp _ _ _ _ _
    refine wp_seq ?_
    refine wp_region_lit ?_
    iterate 2 (refine wpList_plainQ rfl (fun K Q' hK => ?_); go_simp; refine hK _ _ ?_; clear hK K; try clear Q')
    -- stops at: eff:call (Go.Op.call {'callee': (Go.Callee.value (Go.Operand.func 93)), 'args': [(Go.Operand.tmp 9)], 'argTypes': [2]}) slot 10
    refine wpList_plainQ rfl (fun K Q' hK => ?_); go_simp
    refine (rdigits_ok n.toNat (-n) H _ (by show _ = _; omega) (by omega) h0.fits).mono ?_
    rintro e wA ⟨rfl, hkA⟩
    have h1 := h0.callk hkA
    refine hK _ _ ?_; clear hK K; try clear Q'
    iterate 1 (refine wpList_plainQ rfl (fun K Q' hK => ?_); go_simp; refine hK _ _ ?_; clear hK K; try clear Q')
    refine wpList_nil ?_
    show Code.wp _ _ _ _ _
    -- stops at: ret
    refine wp_ret ?_
    go_ret
    exact ⟨by rw [hi]; rfl, h1.post.keep⟩

set_option maxRecDepth 100000 in
set_option maxHeartbeats 1000000 in
theorem rtext_ok (H : GH) (w : World) (a : El) (ha : a.fits) (hf : Fits w H) :
    Calls Tryz.prog 37 #[elV a] w fun e w' => e = .returned (.string ⟨(El.text a).toArray⟩) ∧ Keep none w w' := by
  have hpre : Pre w H none 0 0 := Pre.none hf 0 0
  obtain ⟨s1, hs1⟩ : ∃ s, Hid (Lib.itoa a.1 = s) := ⟨Lib.itoa a.1, show _ = _ from rfl⟩
  obtain ⟨s2, hs2⟩ : ∃ s, Hid (Lib.itoa a.2 = s) := ⟨Lib.itoa a.2, show _ = _ from rfl⟩
  have l1 : s1.length ≤ 21 := by rw [← hs1.out]; exact Lib.itoa_length_le a.1 ha.1.1 ha.1.2
  have l2 : s2.length ≤ 21 := by rw [← hs2.out]; exact Lib.itoa_length_le a.2 ha.2.1 ha.2.2
  have l3 : ¬ 9223372036854775807 < s1.length + 1 := by omega
  have l4 : ¬ 9223372036854775807 < s1.length + 1 + s2.length := by omega
  go_enter Tryz.func37, Tryz.ntmps37
  have h0 := St.start hpre
  refine wp_seq ?_
  repeat (first | simp only [List.nil_append] at h0 | simp only [List.cons_append] at h0 | simp only [List.set_cons_zero] at h0 | simp only [List.set_cons_succ] at h0 | simp only [List.eraseIdx_zero] at h0 | simp only [List.tail_cons] at h0 | simp only [List.eraseIdx_cons_zero] at h0 | simp only [List.eraseIdx_cons_succ] at h0 | simp only [List.setIfInBounds_toArray] at h0)
  refine wp_region_lit ?_
  refine wpList_plainQ rfl (fun K Q' hK => ?_); go_simp
  refine h0.k_alloc (fun w1 h1 => ?_)
  refine hK _ _ ?_; clear hK K; try clear Q'
  iterate 1 (refine wpList_plainQ rfl (fun K Q' hK => ?_); go_simp; refine hK _ _ ?_; clear hK K; try clear Q')
  refine wpList_nil ?_
  show Code.wp _ _ _ _ _
  refine wp_seq ?_
  repeat (first | simp only [List.nil_append] at h1 | simp only [List.cons_append] at h1 | simp only [List.set_cons_zero] at h1 | simp only [List.set_cons_succ] at h1 | simp only [List.eraseIdx_zero] at h1 | simp only [List.tail_cons] at h1 | simp only [List.eraseIdx_cons_zero] at h1 | simp only [List.eraseIdx_cons_succ] at h1 | simp only [List.setIfInBounds_toArray] at h1)
  refine h1.region [0] [(0, true), (1, true), (4, true), (5, true), (2, false), (3, true), (6, false), (7, true), (8, true)] (by kernel_rfl) (by kernel_rfl) (fun w2 h2 => ?_)
  refine wpOrd_hide (fun _ _ d _ _ h => by cases d <;> exact h) (fun QR hQn hQp => ?_)
  simp only [ordOps, List.map_cons, List.map_nil, List.getD_cons_zero, List.getD_cons_succ]
  iterate 4 (refine wpOrd_quiet (v := ?_) rfl (fun _ _ _ => hQp _ _ _ _ _) ?_ ?_; rotate_left; (intro w' hS; have c_0_0 := hS.cell 0 rfl 0 rfl; have c_0_1 := hS.cell 0 rfl 1 rfl; (first | (go_simp; done) | (go_simp; with_reducible rfl))); simp only [Act.put, List.setIfInBounds_toArray, List.set_cons_zero, List.set_cons_succ])
  -- stops at: eff:call (Go.Op.call {'callee': (Go.Callee.value (Go.Operand.func 71)), 'args': [(Go.Operand.tmp 4)], 'argTypes': [2]}) slot 5
  refine wpOrd_effQ rfl (fun K Q' hK => ?_); go_simp
  refine (rnumber_ok H _ a.1 ha.1.1 ha.1.2 h2.fits).mono ?_
  rintro e wA ⟨rfl, hkA⟩
  rw [hs1.out]
  have h3 := h2.callk hkA
  refine hK _ _ (h3.sat' (GH.le_refl _) [0] (by kernel_rfl)) ?_; clear hK K; try clear Q'
  iterate 1 (refine wpOrd_quiet (v := ?_) rfl (fun _ _ _ => hQp _ _ _ _ _) ?_ ?_; rotate_left; (intro w' hS; (first | (go_simp; done) | (go_simp; with_reducible rfl))); simp only [Act.put, List.setIfInBounds_toArray, List.set_cons_zero, List.set_cons_succ])
  -- stops at: eff:call (Go.Op.call {'callee': (Go.Callee.value (Go.Operand.func 71)), 'args': [(Go.Operand.tmp 8)], 'argTypes': [2]}) slot 9
  refine wpOrd_effQ rfl (fun K Q' hK => ?_); go_simp
  refine (rnumber_ok H _ a.2 ha.2.1 ha.2.2 h3.fits).mono ?_
  rintro e wB ⟨rfl, hkB⟩
  rw [hs2.out]
  have h4 := h3.callk hkB
  refine hK _ _ (h4.sat' (GH.le_refl _) [0] (by kernel_rfl)) ?_; clear hK K; try clear Q'
  iterate 2 (refine wpOrd_quiet (v := ?_) rfl (fun _ _ _ => hQp _ _ _ _ _) ?_ ?_; rotate_left; (intro w' hS; (first | (go_simp; done) | (go_simp; with_reducible rfl))); simp only [Act.put, List.setIfInBounds_toArray, List.set_cons_zero, List.set_cons_succ])
  refine wpOrd_nil (hQn _ _ ?_); clear hQn hQp QR
  show Code.wp _ _ _ _ _
  -- stops at: ret
  refine wp_ret ?_
  go_ret
  refine ⟨?_, h4.post.keep⟩
  unfold El.text
  rw [hs1.out, hs2.out]
  show Ending.returned (.string ((⟨s1.toArray⟩ ++ ⟨#[58]⟩ : ByteArray) ++ ⟨s2.toArray⟩)) = _
  rw [show ((⟨s1.toArray⟩ ++ ⟨#[58]⟩ : ByteArray) ++ ⟨s2.toArray⟩) = ⟨(s1 ++ 58 :: s2).toArray⟩ from ByteArray.ext (by simp)]
end Go.Proofs.YteigmfkkeofcaaaGreatDoor
