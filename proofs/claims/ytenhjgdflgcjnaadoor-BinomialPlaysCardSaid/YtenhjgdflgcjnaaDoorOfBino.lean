/-
Binomial heaps: a tree put ahead of others, rows melded.
-/
import Derived.Test.YtenhjgdflgcjnaaDoorHcTr
import Derived.Test.YtenhjgdflgcjnaaDoorOeSl
import Derived.Test.YtenhjgdflgcjnaaDoorGcOrd2
namespace Go.Proofs.YtenhjgdflgcjnaaDoor
open Go Go.RowKit
set_option linter.unusedVariables false

/-- A list of trees and where it lies. -/
def LsR (H : GH) (q : Option Addr) (l : List (Tr El)) : Prop := ∃ ps : List (Option Addr), ConsRep 121 H q (ps.map .pointer) ∧ RowR H ps l
theorem LsR.mono {H H' : GH} {q : Option Addr} {l : List (Tr El)} (h : LsR H q l) (hl : H.le H') : LsR H' q l := by
  obtain ⟨ps, h1, h2⟩ := h
  exact ⟨ps, h1.mono hl, h2.mono hl⟩
theorem LsR.nil (H : GH) : LsR H none [] := ⟨[], .nil, RowR.nil H⟩
theorem LsR.none_of {H : GH} {q : Option Addr} (h : LsR H q []) : q = none := by
  obtain ⟨ps, h1, h2⟩ := h
  obtain rfl := h2.nil_of
  cases h1
  rfl

theorem push_row (H : GH) (w : World) (q p : Option Addr) (t : Tr El) (l : List (Tr El)) (hn : Rw.size l < 1000000) (hf : Fits w H) (hl : LsR H q l) (ht : TrR H p t) :
    Calls Tryd.prog 48 #[.agg #[.pointer q], .pointer p] w fun e w' => ∃ q' H', e = .returned (.agg #[.pointer q']) ∧ Post w H none w' H' 0 0 ∧ LsR H' q' (t :: l) := by
  obtain ⟨ps, h1, h2⟩ := hl
  have hlen : ps.length < 1000000 := by have := h2.1; have := Rw.length_le l; omega
  refine (CTr.push_ok H w q (ps.map .pointer) p (by simpa using hlen) hf h1).mono ?_
  rintro e w' ⟨q', H', rfl, hp, hq⟩
  exact ⟨q', H', rfl, hp, p :: ps, hq, RowR.cons (ht.mono hp.le) (h2.mono hp.le)⟩
theorem first_row_nil (H : GH) (w : World) (q : Option Addr) (hf : Fits w H) (hl : LsR H q []) :
    Calls Tryd.prog 45 #[.agg #[.pointer q]] w fun e w' => e = .returned (.tuple #[.pointer none, .bool false]) ∧ Keep none w w' := by
  obtain rfl := hl.none_of
  exact CTr.first_nil H w hf
theorem first_row (H : GH) (q : Option Addr) (t : Tr El) (l : List (Tr El)) (hl : LsR H q (t :: l)) :
    ∃ p, TrR H p t ∧ ∀ w, Fits w H → Calls Tryd.prog 45 #[.agg #[.pointer q]] w fun e w' => e = .returned (.tuple #[.pointer p, .bool true]) ∧ Keep none w w' := by
  obtain ⟨ps, h1, h2⟩ := hl
  obtain ⟨p, rest, rfl, ht, hr⟩ := h2.uncons
  exact ⟨p, ht, fun w hf => CTr.first_cons H w q p (rest.map .pointer) hf h1⟩
theorem first_any (H : GH) (q : Option Addr) (l : List (Tr El)) (hl : LsR H q l) :
    ∃ p b, ∀ w, Fits w H → Calls Tryd.prog 45 #[.agg #[.pointer q]] w fun e w' => e = .returned (.tuple #[.pointer p, .bool b]) ∧ Keep none w w' := by
  cases l with
  | nil => exact ⟨none, false, fun w hf => first_row_nil H w q hf hl⟩
  | cons t l =>
    obtain ⟨p, _, h⟩ := first_row H q t l hl
    exact ⟨p, true, h⟩
theorem rest_row (H : GH) (w : World) (q : Option Addr) (t : Tr El) (l : List (Tr El)) (hf : Fits w H) (hl : LsR H q (t :: l)) :
    Calls Tryd.prog 47 #[.agg #[.pointer q]] w fun e w' => ∃ q', e = .returned (.agg #[.pointer q']) ∧ Keep none w w' ∧ LsR H q' l := by
  obtain ⟨ps, h1, h2⟩ := hl
  obtain ⟨p, rest, rfl, ht, hr⟩ := h2.uncons
  refine (CTr.rest_ok H w q _ hf h1).mono ?_
  rintro e w' ⟨q', rfl, hk, hq⟩
  exact ⟨q', rfl, hk, rest, hq, hr⟩

/-- How many cells lie from the first one on that a block points to. -/
noncomputable def leftAt (H : GH) (B : Nat) (w : World) : Nat := match w.cell? ⟨B, 0, none⟩ with
  | some v => consLeft 121 H v
  | none => 0
theorem leftAt_eq {H : GH} {B : Nat} {w : World} {q : Option Addr} {l : List (Tr El)} (hc : w.cell? ⟨B, 0, none⟩ = some (.pointer q)) (h : LsR H q l) : leftAt H B w = l.length := by
  obtain ⟨ps, h1, h2⟩ := h
  have e := consLeft_eq h1
  unfold leftAt
  rw [hc]
  simp only
  rw [e, List.length_map, h2.1]

set_option maxRecDepth 100000 in
set_option maxHeartbeats 4000000 in
theorem put_ok (H : GH) (w : World) (m : Option Nat) (c d : Int) (p q0 : Option Addr) (t : Tr El) (l : List (Tr El)) (hpre : Pre w H m c d) (hn : t.size + Rw.size l < 1000000) (ht : TrR H p t) (hl : LsR H q0 l) :
    Calls Tryd.prog 33 #[mV m, .pointer p, .agg #[.pointer q0]] w fun e w' => ∃ r H', e = .returned (.agg #[.pointer r]) ∧ Post w H m w' H' (c + Rw.putN kf t l) (d + Rw.putN kf t l) ∧ LsR H' r (Rw.put kf t l) := by
  go_enter Tryd.func33, Tryd.ntmps33
  have h0 := St.start hpre
  refine wp_seq ?_
  refine wp_region_lit ?_
  refine wpList_plainQ rfl (fun K Q' hK => ?_); go_simp
  refine h0.k_alloc (fun w1 h1 => ?_)
  refine hK _ _ ?_; clear hK K; try clear Q'
  refine wpList_plainQ rfl (fun K Q' hK => ?_); go_simp
  refine h1.k_alloc (fun w2 h2 => ?_)
  refine hK _ _ ?_; clear hK K; try clear Q'
  refine wpList_nil ?_
  show Code.wp _ _ _ _ _
  refine wp_scope_straight ?_
  refine wp_seq ?_
  refine wp_label ?_
  show Code.wp _ _ _ _ _
  refine wp_seq ?_
  refine wp_block ?_
  -- stops at: loop
  -- L=[1, 1] slots={5: ('own', 0, 0), 6: ('own', 1, 0)} facts=[]
  go_loopw [1] (fun v1 wr => ∃ (t' : Tr El) (l' : List (Tr El)) (p' q : Option Addr) (H1 : GH) (k : Nat), v1 = .pointer p' ∧ H.le H1 ∧ TrR H1 p' t' ∧ LsR H q l' ∧ Hid (Rw.put kf t l = Rw.put kf t' l') ∧ Hid (Rw.putN kf t l = k + Rw.putN kf t' l') ∧ Hid (t'.size + Rw.size l' < 1000000) ∧ St w H m (c + k) (d + k) wr H1 [(w.heap.size, .cells #[.pointer q] 26), (w1.heap.size, .cells #[.pointer none] 26)] []) (fun v1 wr => leftAt H w.heap.size wr)
  case atStart => exact ⟨t, l, p, q0, H, 0, rfl, GH.le_refl _, ht, hl, rfl, by show _ = _; omega, hn, by simpa using h2⟩
  case round =>
    obtain ⟨t', l', p', q, H1, k, rfl, hle1, ht', hl', hput, hputN, hsz, hs⟩ := hrel
    have hm0 := leftAt_eq (hs.cell 0 rfl 0 rfl) hl'
    cases l' with
    | nil =>
      refine wp_block ?_
      refine wp_seq ?_
      refine wp_region_lit ?_
      have c_0_0 := hs.cell 0 rfl 0 rfl
      iterate 1 (refine wpList_plainQ rfl (fun K Q' hK => ?_); go_simp; refine hK _ _ ?_; clear hK K; try clear Q')
      clear c_0_0
      -- stops at: eff:call (Go.Op.call {'callee': (Go.Callee.value (Go.Operand.func 45)), 'args': [(Go.Operand.tmp 10)], 'argTypes': [26]}) slot 11
      refine wpList_plainQ rfl (fun K Q' hK => ?_); go_simp
      refine (first_row_nil H _ q (hs.fits.le hle1) hl').mono ?_
      rintro e wA ⟨rfl, hkA⟩
      have h3 := hs.callk hkA
      refine hK _ _ ?_; clear hK K; try clear Q'
      iterate 5 (refine wpList_plainQ rfl (fun K Q' hK => ?_); go_simp; refine hK _ _ ?_; clear hK K; try clear Q')
      refine wpList_nil ?_
      show Code.wp _ _ _ _ _
      refine wp_seq ?_
      refine wp_block ?_
      refine wp_seq ?_
      refine wp_region_lit ?_
      iterate 3 (refine wpList_plainQ rfl (fun K Q' hK => ?_); go_simp; refine hK _ _ ?_; clear hK K; try clear Q')
      first | go_skip | (iterate 1 (refine wpList_stepQ (o := { dst := _, op := _, type := _, pos := _, after := _, guard := some (2, false) }) (fun K Q' hK => ?_); go_simp; refine hK _ _ ?_; clear hK K; try clear Q')) | skip
      -- stops at: eff:call (Go.Op.call {'callee': (Go.Callee.value (Go.Operand.func 46)), 'args': [(Go.Operand.tmp 18)], 'argTypes': [63]}) slot 19
      first | go_skip | (refine wpList_skip rfl ?_; simp only [Act.put, List.setIfInBounds_toArray, List.set_cons_zero, List.set_cons_succ]) | skip
      first | go_skip | (iterate 1 (refine wpList_stepQ (o := { dst := _, op := _, type := _, pos := _, after := _, guard := some (2, false) }) (fun K Q' hK => ?_); go_simp; refine hK _ _ ?_; clear hK K; try clear Q')) | skip
      -- stops at: eff:call (Go.Op.call {'callee': (Go.Callee.value (Go.Operand.func 46)), 'args': [(Go.Operand.tmp 20)], 'argTypes': [63]}) slot 21
      first | go_skip | (refine wpList_skip rfl ?_; simp only [Act.put, List.setIfInBounds_toArray, List.set_cons_zero, List.set_cons_succ]) | skip
      first | go_skip | (iterate 1 (refine wpList_stepQ (o := { dst := _, op := _, type := _, pos := _, after := _, guard := some (2, false) }) (fun K Q' hK => ?_); go_simp; refine hK _ _ ?_; clear hK K; try clear Q')) | skip
      iterate 2 (refine wpList_plainQ rfl (fun K Q' hK => ?_); go_simp; refine hK _ _ ?_; clear hK K; try clear Q')
      refine wpList_nil ?_
      show Code.wp _ _ _ _ _
      -- stops at: cond
      refine wp_cond_true (rfl) ?_
      refine wp_exit ?_
      show Code.wp _ _ _ _ _
      refine wp_seq ?_
      refine wp_region_lit ?_
      have c_0_0 := h3.cell 0 rfl 0 rfl
      iterate 2 (refine wpList_plainQ rfl (fun K Q' hK => ?_); go_simp; refine hK _ _ ?_; clear hK K; try clear Q')
      clear c_0_0
      -- stops at: eff:call (Go.Op.call {'callee': (Go.Callee.value (Go.Operand.func 48)), 'args': [(Go.Operand.tmp 30), (Go.Operand.tmp 31)], 'argTypes': [26, 63]}) slot 32
      refine wpList_plainQ rfl (fun K Q' hK => ?_); go_simp
      refine (push_row H1 _ q p' t' _ (by have := hsz.out; omega) h3.fits (hl'.mono hle1) ht').mono ?_
      rintro e wP ⟨q9, H9, rfl, hpP, hq9⟩
      have h4 := h3.call0 hpP
      refine hK _ _ ?_; clear hK K; try clear Q'
      have c_0 := h4.cell 1 rfl 0 rfl
      have f_0 := h4.free 1 rfl 0
      refine wpList_plainQ rfl (fun K Q' hK => ?_); go_simp
      clear c_0 f_0
      refine h4.k_set 1 rfl (fun w5 h5 => ?_)
      refine hK _ _ ?_; clear hK K; try clear Q'
      refine wpList_nil ?_
      show Code.wp _ _ _ _ _
      -- stops at: ret
      refine wp_ret ?_
      have r_1_0 := h5.cell 1 rfl 0 rfl
      first | show bodyPost _ _ _ _ _ _ | (simp only [Exit.then]; show bodyPost _ _ _ _ _ _) | (simp only [Exit.inBlock]; show bodyPost _ _ _ _ _ _) | (simp only [Exit.inBlock, Exit.then]; show bodyPost _ _ _ _ _ _) | (simp only [Exit.noGoto]; show bodyPost _ _ _ _ _ _)
      refine bodyPost_ret (v := ?_) ?_ rfl ?_
      rotate_left
      · simp only [results, Tryd.results33]; go_simp; with_reducible rfl
      clear r_1_0
      rw [Rw.put_nil] at hput
      rw [Rw.putN_nil] at hputN
      refine ⟨q9, H9, rfl, ?_, by rw [hput.out]; exact hq9⟩
      rw [hputN.out]
      exact h5.post
    | cons f l' =>
      obtain ⟨pf, hpf, hfirst⟩ := first_row H q f l' hl'
      obtain ⟨r1, hr1⟩ : ∃ r, Hid (t'.rank = r) := ⟨_, show _ = _ from rfl⟩
      obtain ⟨r2, hr2⟩ : ∃ r, Hid (f.rank = r) := ⟨_, show _ = _ from rfl⟩
      have hsz2 : Hid (t'.size + f.size + Rw.size l' < 1000000) := by have := hsz.out; rw [Rw.size_cons] at this; show _ < _; omega
      by_cases hlt : t'.rank < f.rank
      · have d1 : decide (r1 < r2) = true := decide_eq_true (by have := hr1.out; have := hr2.out; omega)
        rw [Rw.put_lt kf l' hlt] at hput
        rw [Rw.putN_lt kf l' hlt] at hputN
        refine wp_block ?_
        refine wp_seq ?_
        refine wp_region_lit ?_
        have c_0_0 := hs.cell 0 rfl 0 rfl
        iterate 1 (refine wpList_plainQ rfl (fun K Q' hK => ?_); go_simp; refine hK _ _ ?_; clear hK K; try clear Q')
        clear c_0_0
        -- stops at: eff:call (Go.Op.call {'callee': (Go.Callee.value (Go.Operand.func 45)), 'args': [(Go.Operand.tmp 10)], 'argTypes': [26]}) slot 11
        refine wpList_plainQ rfl (fun K Q' hK => ?_); go_simp
        refine (hfirst _ (hs.fits.le hle1)).mono ?_
        rintro e wA ⟨rfl, hkA⟩
        have h6 := hs.callk hkA
        refine hK _ _ ?_; clear hK K; try clear Q'
        iterate 5 (refine wpList_plainQ rfl (fun K Q' hK => ?_); go_simp; refine hK _ _ ?_; clear hK K; try clear Q')
        refine wpList_nil ?_
        show Code.wp _ _ _ _ _
        refine wp_seq ?_
        refine wp_block ?_
        refine wp_seq ?_
        refine wp_region_lit ?_
        iterate 3 (refine wpList_plainQ rfl (fun K Q' hK => ?_); go_simp; refine hK _ _ ?_; clear hK K; try clear Q')
        iterate 1 (refine wpList_stepQ (o := { dst := _, op := _, type := _, pos := _, after := _, guard := some (2, false) }) (fun K Q' hK => ?_); go_simp; refine hK _ _ ?_; clear hK K; try clear Q')
        -- stops at: eff:call (Go.Op.call {'callee': (Go.Callee.value (Go.Operand.func 46)), 'args': [(Go.Operand.tmp 18)], 'argTypes': [63]}) slot 19
        refine wpList_stepQ (fun K Q' hK => ?_); go_simp
        refine (rank_ok H1 _ p' t' h6.fits ht').mono ?_
        rintro e wB ⟨rfl, hkB⟩
        rw [hr1.out]
        have h7 := h6.callk hkB
        refine hK _ _ ?_; clear hK K; try clear Q'
        iterate 1 (refine wpList_stepQ (o := { dst := _, op := _, type := _, pos := _, after := _, guard := some (2, false) }) (fun K Q' hK => ?_); go_simp; refine hK _ _ ?_; clear hK K; try clear Q')
        -- stops at: eff:call (Go.Op.call {'callee': (Go.Callee.value (Go.Operand.func 46)), 'args': [(Go.Operand.tmp 20)], 'argTypes': [63]}) slot 21
        refine wpList_stepQ (fun K Q' hK => ?_); go_simp
        refine (rank_ok H1 _ pf f h7.fits (hpf.mono hle1)).mono ?_
        rintro e wC ⟨rfl, hkC⟩
        rw [hr2.out]
        have h8 := h7.callk hkC
        refine hK _ _ ?_; clear hK K; try clear Q'
        iterate 1 (refine wpList_stepQ (o := { dst := _, op := _, type := _, pos := _, after := _, guard := some (2, false) }) (fun K Q' hK => ?_); go_simp; refine hK _ _ ?_; clear hK K; try clear Q')
        iterate 2 (refine wpList_plainQ rfl (fun K Q' hK => ?_); go_simp; refine hK _ _ ?_; clear hK K; try clear Q')
        refine wpList_nil ?_
        show Code.wp _ _ _ _ _
        -- stops at: cond
        refine wp_cond_true (rfl) ?_
        refine wp_exit ?_
        show Code.wp _ _ _ _ _
        refine wp_seq ?_
        refine wp_region_lit ?_
        have c_0_0 := h8.cell 0 rfl 0 rfl
        iterate 2 (refine wpList_plainQ rfl (fun K Q' hK => ?_); go_simp; refine hK _ _ ?_; clear hK K; try clear Q')
        clear c_0_0
        -- stops at: eff:call (Go.Op.call {'callee': (Go.Callee.value (Go.Operand.func 48)), 'args': [(Go.Operand.tmp 30), (Go.Operand.tmp 31)], 'argTypes': [26, 63]}) slot 32
        refine wpList_plainQ rfl (fun K Q' hK => ?_); go_simp
        refine (push_row H1 _ q p' t' _ (by have := hsz.out; omega) h8.fits (hl'.mono hle1) ht').mono ?_
        rintro e wP ⟨q9, H9, rfl, hpP, hq9⟩
        have h9 := h8.call0 hpP
        refine hK _ _ ?_; clear hK K; try clear Q'
        have c_0 := h9.cell 1 rfl 0 rfl
        have f_0 := h9.free 1 rfl 0
        refine wpList_plainQ rfl (fun K Q' hK => ?_); go_simp
        clear c_0 f_0
        refine h9.k_set 1 rfl (fun w10 h10 => ?_)
        refine hK _ _ ?_; clear hK K; try clear Q'
        refine wpList_nil ?_
        show Code.wp _ _ _ _ _
        -- stops at: ret
        refine wp_ret ?_
        have r_1_0 := h10.cell 1 rfl 0 rfl
        first | show bodyPost _ _ _ _ _ _ | (simp only [Exit.then]; show bodyPost _ _ _ _ _ _) | (simp only [Exit.inBlock]; show bodyPost _ _ _ _ _ _) | (simp only [Exit.inBlock, Exit.then]; show bodyPost _ _ _ _ _ _) | (simp only [Exit.noGoto]; show bodyPost _ _ _ _ _ _)
        refine bodyPost_ret (v := ?_) ?_ rfl ?_
        rotate_left
        · simp only [results, Tryd.results33]; go_simp; with_reducible rfl
        clear r_1_0
        refine ⟨q9, H9, rfl, ?_, by rw [hput.out]; exact hq9⟩
        rw [hputN.out]
        exact h10.post
      · have d1 : decide (r1 < r2) = false := decide_eq_false (by have := hr1.out; have := hr2.out; omega)
        rw [Rw.put_ge kf l' hlt] at hput
        rw [Rw.putN_ge kf l' hlt] at hputN
        refine wp_block ?_
        refine wp_seq ?_
        refine wp_region_lit ?_
        have c_0_0 := hs.cell 0 rfl 0 rfl
        iterate 1 (refine wpList_plainQ rfl (fun K Q' hK => ?_); go_simp; refine hK _ _ ?_; clear hK K; try clear Q')
        clear c_0_0
        -- stops at: eff:call (Go.Op.call {'callee': (Go.Callee.value (Go.Operand.func 45)), 'args': [(Go.Operand.tmp 10)], 'argTypes': [26]}) slot 11
        refine wpList_plainQ rfl (fun K Q' hK => ?_); go_simp
        refine (hfirst _ (hs.fits.le hle1)).mono ?_
        rintro e wA ⟨rfl, hkA⟩
        have h11 := hs.callk hkA
        refine hK _ _ ?_; clear hK K; try clear Q'
        iterate 5 (refine wpList_plainQ rfl (fun K Q' hK => ?_); go_simp; refine hK _ _ ?_; clear hK K; try clear Q')
        refine wpList_nil ?_
        show Code.wp _ _ _ _ _
        refine wp_seq ?_
        refine wp_block ?_
        refine wp_seq ?_
        refine wp_region_lit ?_
        iterate 3 (refine wpList_plainQ rfl (fun K Q' hK => ?_); go_simp; refine hK _ _ ?_; clear hK K; try clear Q')
        iterate 1 (refine wpList_stepQ (o := { dst := _, op := _, type := _, pos := _, after := _, guard := some (2, false) }) (fun K Q' hK => ?_); go_simp; refine hK _ _ ?_; clear hK K; try clear Q')
        -- stops at: eff:call (Go.Op.call {'callee': (Go.Callee.value (Go.Operand.func 46)), 'args': [(Go.Operand.tmp 18)], 'argTypes': [63]}) slot 19
        refine wpList_stepQ (fun K Q' hK => ?_); go_simp
        refine (rank_ok H1 _ p' t' h11.fits ht').mono ?_
        rintro e wB ⟨rfl, hkB⟩
        rw [hr1.out]
        have h12 := h11.callk hkB
        refine hK _ _ ?_; clear hK K; try clear Q'
        iterate 1 (refine wpList_stepQ (o := { dst := _, op := _, type := _, pos := _, after := _, guard := some (2, false) }) (fun K Q' hK => ?_); go_simp; refine hK _ _ ?_; clear hK K; try clear Q')
        -- stops at: eff:call (Go.Op.call {'callee': (Go.Callee.value (Go.Operand.func 46)), 'args': [(Go.Operand.tmp 20)], 'argTypes': [63]}) slot 21
        refine wpList_stepQ (fun K Q' hK => ?_); go_simp
        refine (rank_ok H1 _ pf f h12.fits (hpf.mono hle1)).mono ?_
        rintro e wC ⟨rfl, hkC⟩
        rw [hr2.out]
        have h13 := h12.callk hkC
        refine hK _ _ ?_; clear hK K; try clear Q'
        iterate 1 (refine wpList_stepQ (o := { dst := _, op := _, type := _, pos := _, after := _, guard := some (2, false) }) (fun K Q' hK => ?_); go_simp; refine hK _ _ ?_; clear hK K; try clear Q')
        iterate 2 (refine wpList_plainQ rfl (fun K Q' hK => ?_); go_simp; refine hK _ _ ?_; clear hK K; try clear Q')
        refine wpList_nil ?_
        show Code.wp _ _ _ _ _
        -- stops at: cond
        refine wp_cond_false (rfl) ?_
        refine wp_skip ?_
        show Code.wp _ _ _ _ _
        refine h13.regionS [0] [] 7 [(0, .q2), (1, .q2), (2, .q2), (4, .q1), (3, .e1), (5, .e1), (6, .q2), (7, .e2)] (by kernel_rfl) (by kernel_rfl) (fun w14 h14 => ?_)
        refine wpOS_hide (fun _ _ d _ _ h => by cases d <;> exact h) (fun QR hQn hQp => ?_)
        simp only [opsS, List.map_cons, List.map_nil, List.getD_cons_zero, List.getD_cons_succ]
        iterate 3 (refine wpOS_quiet2 (v := ?_) rfl (fun _ _ _ => hQp _ _ _ _ _) ?_ ?_; rotate_left; (intro w' hS; (first | (go_simp; done) | (go_simp; with_reducible rfl))); simp only [Act.put, List.setIfInBounds_toArray, List.set_cons_zero, List.set_cons_succ])
        iterate 1 (refine wpOS_quiet1 (v := ?_) rfl (fun _ _ _ => hQp _ _ _ _ _) ?_ ?_; rotate_left; (intro w' hS; have c_0_0 := hS.cell 0 rfl 0 rfl; (first | (go_simp; done) | (go_simp; with_reducible rfl))); simp only [Act.put, List.setIfInBounds_toArray, List.set_cons_zero, List.set_cons_succ])
        -- stops at: eff:call (Go.Op.call {'callee': (Go.Callee.value (Go.Operand.func 49)), 'args': [(Go.Operand.tmp 24), (Go.Operand.tmp 25), (Go.Operand.tmp 26)], 'argTypes': [32, 63, 63] slot 27
        refine wpOS_eff1 rfl (fun K Q' hK => ?_); go_simp
        refine (link_ok H1 _ m _ _ p' pf t' f h14.pre (by have := hsz2.out; omega) ht' (hpf.mono hle1)).mono ?_
        rintro e wL ⟨pl, H2, rfl, hpL, hL⟩
        have h15 := h14.call hpL
        refine hK _ _ (h15.sat' hpL.le [0] (by kernel_rfl)) ?_; clear hK K; try clear Q'
        -- stops at: eff:call (Go.Op.call {'callee': (Go.Callee.value (Go.Operand.func 47)), 'args': [(Go.Operand.tmp 28)], 'argTypes': [26]}) slot 29
        refine wpOS_eff1 rfl (fun K Q' hK => ?_); go_simp
        refine (rest_row H _ q f l' (h15.fits.le (hle1.trans hpL.le)) hl').mono ?_
        rintro e wR ⟨q2, rfl, hkR, hq2⟩
        have h16 := h15.callk hkR
        refine hK _ _ (h16.sat' hpL.le [0] (by kernel_rfl)) ?_; clear hK K; try clear Q'
        iterate 1 (refine wpOS_quiet2 (v := ?_) rfl (fun _ _ _ => hQp _ _ _ _ _) ?_ ?_; rotate_left; (intro w' hS; (first | (go_simp; done) | (go_simp; with_reducible rfl))); simp only [Act.put, List.setIfInBounds_toArray, List.set_cons_zero, List.set_cons_succ])
        have c_0 := h16.cell 0 rfl 0 rfl
        have f_0 := h16.free 0 rfl 0
        refine wpOS_eff2 rfl (fun K Q' hK => ?_); go_simp
        clear c_0 f_0
        refine h16.k_set 0 rfl (fun w17 h17 => ?_)
        refine hK _ _ (h17.sat' hpL.le [] (by kernel_rfl)) ?_; clear hK K; try clear Q'
        refine wpOS_nil (hQn _ _ ?_); clear hQn hQp QR
        -- stops at: end ('roundend',)
        show _ ∧ _
        go_roundw
        case rel =>
          refine ⟨Tr.link kf t' f, l', pl, q2, H2, k + 1, rfl, hle1.trans hpL.le, hL, hq2, hput, ?_, ?_, ?_⟩
          · have := hputN.out; show _ = _; omega
          · have := hsz2.out; show _ < _; rw [Tr.link_size]; omega
          · rw [Int.natCast_add, ← Int.add_assoc, ← Int.add_assoc]
            exact h17
        case measure =>
          rw [hm0, leftAt_eq (h17.cell 0 rfl 0 rfl) hq2]
          simp

set_option maxRecDepth 100000 in
set_option maxHeartbeats 8000000 in
theorem meld_ok : ∀ (a b : List (Tr El)) (H : GH) (w : World) (m : Option Nat) (c d : Int) (pa pb : Option Addr), Pre w H m c d → Rw.size a + Rw.size b < 1000000 → LsR H pa a → LsR H pb b →
    Calls Tryd.prog 27 #[mV m, .agg #[.pointer pa], .agg #[.pointer pb]] w fun e w' => ∃ r H', e = .returned (.agg #[.pointer r]) ∧ Post w H m w' H' (c + Rw.meldN kf a b) (d + Rw.meldN kf a b) ∧ LsR H' r (Rw.meld kf a b) := by
  refine Rw.meld_cases (fun b => ?_) (fun f a => ?_) (fun f a g b h ih => ?_) (fun f a g b h ih => ?_) (fun f a g b h ih => ?_)
  · intro H w m c d pa pb hpre hn hla hlb
    as_aux_lemma =>
    obtain ⟨pg, bg, hfb⟩ := first_any H pb b hlb
    go_enter Tryd.func27, Tryd.ntmps27
    have h0 := St.start hpre
    refine wp_seq ?_
    refine wp_region_lit ?_
    refine wpList_plainQ rfl (fun K Q' hK => ?_); go_simp
    refine h0.k_alloc (fun w1 h1 => ?_)
    refine hK _ _ ?_; clear hK K; try clear Q'
    refine wpList_plainQ rfl (fun K Q' hK => ?_); go_simp
    refine h1.k_alloc (fun w2 h2 => ?_)
    refine hK _ _ ?_; clear hK K; try clear Q'
    refine wpList_plainQ rfl (fun K Q' hK => ?_); go_simp
    refine h2.k_alloc (fun w3 h3 => ?_)
    refine hK _ _ ?_; clear hK K; try clear Q'
    refine wpList_nil ?_
    show Code.wp _ _ _ _ _
    refine wp_seq ?_
    refine wp_region_lit ?_
    have c_0_0 := h3.cell 0 rfl 0 rfl
    iterate 1 (refine wpList_plainQ rfl (fun K Q' hK => ?_); go_simp; refine hK _ _ ?_; clear hK K; try clear Q')
    clear c_0_0
    -- stops at: eff:call (Go.Op.call {'callee': (Go.Callee.value (Go.Operand.func 45)), 'args': [(Go.Operand.tmp 13)], 'argTypes': [26]}) slot 14
    refine wpList_plainQ rfl (fun K Q' hK => ?_); go_simp
    refine ((fun w hf => first_row_nil H w pa hf hla) _ h3.fits).mono ?_
    rintro e wFa ⟨rfl, hkFa⟩
    have h4 := h3.callk hkFa
    refine hK _ _ ?_; clear hK K; try clear Q'
    iterate 5 (refine wpList_plainQ rfl (fun K Q' hK => ?_); go_simp; refine hK _ _ ?_; clear hK K; try clear Q')
    refine wpList_nil ?_
    show Code.wp _ _ _ _ _
    refine wp_seq ?_
    refine wp_region_lit ?_
    have c_1_0 := h4.cell 1 rfl 0 rfl
    iterate 1 (refine wpList_plainQ rfl (fun K Q' hK => ?_); go_simp; refine hK _ _ ?_; clear hK K; try clear Q')
    clear c_1_0
    -- stops at: eff:call (Go.Op.call {'callee': (Go.Callee.value (Go.Operand.func 45)), 'args': [(Go.Operand.tmp 18)], 'argTypes': [26]}) slot 19
    refine wpList_plainQ rfl (fun K Q' hK => ?_); go_simp
    refine (hfb _ h4.fits).mono ?_
    rintro e wFb ⟨rfl, hkFb⟩
    have h5 := h4.callk hkFb
    refine hK _ _ ?_; clear hK K; try clear Q'
    iterate 5 (refine wpList_plainQ rfl (fun K Q' hK => ?_); go_simp; refine hK _ _ ?_; clear hK K; try clear Q')
    refine wpList_nil ?_
    show Code.wp _ _ _ _ _
    refine wp_seq ?_
    refine wp_block ?_
    refine wp_seq ?_
    refine wp_region_lit ?_
    iterate 3 (refine wpList_plainQ rfl (fun K Q' hK => ?_); go_simp; refine hK _ _ ?_; clear hK K; try clear Q')
    refine wpList_nil ?_
    show Code.wp _ _ _ _ _
    -- stops at: cond
    refine wp_cond_true (rfl) ?_
    refine wp_seq ?_
    refine wp_region_lit ?_
    have c_1_0 := h5.cell 1 rfl 0 rfl
    iterate 1 (refine wpList_plainQ rfl (fun K Q' hK => ?_); go_simp; refine hK _ _ ?_; clear hK K; try clear Q')
    clear c_1_0
    have c_0 := h5.cell 2 rfl 0 rfl
    have f_0 := h5.free 2 rfl 0
    refine wpList_plainQ rfl (fun K Q' hK => ?_); go_simp
    clear c_0 f_0
    refine h5.k_set 2 rfl (fun w6 h6 => ?_)
    refine hK _ _ ?_; clear hK K; try clear Q'
    refine wpList_nil ?_
    show Code.wp _ _ _ _ _
    -- stops at: ret
    refine wp_ret ?_
    have r_2_0 := h6.cell 2 rfl 0 rfl
    first | show bodyPost _ _ _ _ _ _ | (simp only [Exit.then]; show bodyPost _ _ _ _ _ _) | (simp only [Exit.inBlock]; show bodyPost _ _ _ _ _ _) | (simp only [Exit.inBlock, Exit.then]; show bodyPost _ _ _ _ _ _) | (simp only [Exit.noGoto, Exit.inBlock, Exit.then]; show bodyPost _ _ _ _ _ _)
    refine bodyPost_ret (v := ?_) ?_ rfl ?_
    rotate_left
    · simp only [results, Tryd.results27]; go_simp; with_reducible rfl
    clear r_2_0
    refine ⟨pb, H, rfl, ?_, hlb⟩
    simpa [Rw.meldN_nil] using h6.post
  · intro H w m c d pa pb hpre hn hla hlb
    as_aux_lemma =>
    obtain ⟨pf, hpf, hfa⟩ := first_row H pa f a hla
    go_enter Tryd.func27, Tryd.ntmps27
    have h0 := St.start hpre
    refine wp_seq ?_
    refine wp_region_lit ?_
    refine wpList_plainQ rfl (fun K Q' hK => ?_); go_simp
    refine h0.k_alloc (fun w1 h1 => ?_)
    refine hK _ _ ?_; clear hK K; try clear Q'
    refine wpList_plainQ rfl (fun K Q' hK => ?_); go_simp
    refine h1.k_alloc (fun w2 h2 => ?_)
    refine hK _ _ ?_; clear hK K; try clear Q'
    refine wpList_plainQ rfl (fun K Q' hK => ?_); go_simp
    refine h2.k_alloc (fun w3 h3 => ?_)
    refine hK _ _ ?_; clear hK K; try clear Q'
    refine wpList_nil ?_
    show Code.wp _ _ _ _ _
    refine wp_seq ?_
    refine wp_region_lit ?_
    have c_0_0 := h3.cell 0 rfl 0 rfl
    iterate 1 (refine wpList_plainQ rfl (fun K Q' hK => ?_); go_simp; refine hK _ _ ?_; clear hK K; try clear Q')
    clear c_0_0
    -- stops at: eff:call (Go.Op.call {'callee': (Go.Callee.value (Go.Operand.func 45)), 'args': [(Go.Operand.tmp 13)], 'argTypes': [26]}) slot 14
    refine wpList_plainQ rfl (fun K Q' hK => ?_); go_simp
    refine (hfa _ h3.fits).mono ?_
    rintro e wFa ⟨rfl, hkFa⟩
    have h4 := h3.callk hkFa
    refine hK _ _ ?_; clear hK K; try clear Q'
    iterate 5 (refine wpList_plainQ rfl (fun K Q' hK => ?_); go_simp; refine hK _ _ ?_; clear hK K; try clear Q')
    refine wpList_nil ?_
    show Code.wp _ _ _ _ _
    refine wp_seq ?_
    refine wp_region_lit ?_
    have c_1_0 := h4.cell 1 rfl 0 rfl
    iterate 1 (refine wpList_plainQ rfl (fun K Q' hK => ?_); go_simp; refine hK _ _ ?_; clear hK K; try clear Q')
    clear c_1_0
    -- stops at: eff:call (Go.Op.call {'callee': (Go.Callee.value (Go.Operand.func 45)), 'args': [(Go.Operand.tmp 18)], 'argTypes': [26]}) slot 19
    refine wpList_plainQ rfl (fun K Q' hK => ?_); go_simp
    refine ((fun w hf => first_row_nil H w pb hf hlb) _ h4.fits).mono ?_
    rintro e wFb ⟨rfl, hkFb⟩
    have h5 := h4.callk hkFb
    refine hK _ _ ?_; clear hK K; try clear Q'
    iterate 5 (refine wpList_plainQ rfl (fun K Q' hK => ?_); go_simp; refine hK _ _ ?_; clear hK K; try clear Q')
    refine wpList_nil ?_
    show Code.wp _ _ _ _ _
    refine wp_seq ?_
    refine wp_block ?_
    refine wp_seq ?_
    refine wp_region_lit ?_
    iterate 3 (refine wpList_plainQ rfl (fun K Q' hK => ?_); go_simp; refine hK _ _ ?_; clear hK K; try clear Q')
    refine wpList_nil ?_
    show Code.wp _ _ _ _ _
    -- stops at: cond
    refine wp_cond_false (rfl) ?_
    refine wp_seq ?_
    refine wp_region_lit ?_
    iterate 3 (refine wpList_plainQ rfl (fun K Q' hK => ?_); go_simp; refine hK _ _ ?_; clear hK K; try clear Q')
    refine wpList_nil ?_
    show Code.wp _ _ _ _ _
    -- stops at: cond
    refine wp_cond_true (rfl) ?_
    refine wp_seq ?_
    refine wp_region_lit ?_
    have c_0_0 := h5.cell 0 rfl 0 rfl
    iterate 1 (refine wpList_plainQ rfl (fun K Q' hK => ?_); go_simp; refine hK _ _ ?_; clear hK K; try clear Q')
    clear c_0_0
    have c_0 := h5.cell 2 rfl 0 rfl
    have f_0 := h5.free 2 rfl 0
    refine wpList_plainQ rfl (fun K Q' hK => ?_); go_simp
    clear c_0 f_0
    refine h5.k_set 2 rfl (fun w6 h6 => ?_)
    refine hK _ _ ?_; clear hK K; try clear Q'
    refine wpList_nil ?_
    show Code.wp _ _ _ _ _
    -- stops at: ret
    refine wp_ret ?_
    have r_2_0 := h6.cell 2 rfl 0 rfl
    first | show bodyPost _ _ _ _ _ _ | (simp only [Exit.then]; show bodyPost _ _ _ _ _ _) | (simp only [Exit.inBlock]; show bodyPost _ _ _ _ _ _) | (simp only [Exit.inBlock, Exit.then]; show bodyPost _ _ _ _ _ _) | (simp only [Exit.noGoto, Exit.inBlock, Exit.then]; show bodyPost _ _ _ _ _ _)
    refine bodyPost_ret (v := ?_) ?_ rfl ?_
    rotate_left
    · simp only [results, Tryd.results27]; go_simp; with_reducible rfl
    clear r_2_0
    refine ⟨pa, H, rfl, ?_, by rw [Rw.meld_nil']; exact hla⟩
    simpa [Rw.meldN_nil'] using h6.post
  · intro H w m c d pa pb hpre hn hla hlb
    as_aux_lemma =>
    obtain ⟨pf, hpf, hfa⟩ := first_row H pa f a hla
    obtain ⟨pg, hpg, hfb⟩ := first_row H pb g b hlb
    obtain ⟨r1, hr1⟩ : ∃ r, Hid (f.rank = r) := ⟨_, show _ = _ from rfl⟩
    obtain ⟨r2, hr2⟩ : ∃ r, Hid (g.rank = r) := ⟨_, show _ = _ from rfl⟩
    have hsz : Hid (f.size + Rw.size a + (g.size + Rw.size b) < 1000000) := by rw [Rw.size_cons, Rw.size_cons] at hn; exact hn
    have d1 : decide (r1 < r2) = true := decide_eq_true (by have := hr1.out; have := hr2.out; omega)
    go_enter Tryd.func27, Tryd.ntmps27
    have h0 := St.start hpre
    refine wp_seq ?_
    refine wp_region_lit ?_
    refine wpList_plainQ rfl (fun K Q' hK => ?_); go_simp
    refine h0.k_alloc (fun w1 h1 => ?_)
    refine hK _ _ ?_; clear hK K; try clear Q'
    refine wpList_plainQ rfl (fun K Q' hK => ?_); go_simp
    refine h1.k_alloc (fun w2 h2 => ?_)
    refine hK _ _ ?_; clear hK K; try clear Q'
    refine wpList_plainQ rfl (fun K Q' hK => ?_); go_simp
    refine h2.k_alloc (fun w3 h3 => ?_)
    refine hK _ _ ?_; clear hK K; try clear Q'
    refine wpList_nil ?_
    show Code.wp _ _ _ _ _
    refine wp_seq ?_
    refine wp_region_lit ?_
    have c_0_0 := h3.cell 0 rfl 0 rfl
    iterate 1 (refine wpList_plainQ rfl (fun K Q' hK => ?_); go_simp; refine hK _ _ ?_; clear hK K; try clear Q')
    clear c_0_0
    -- stops at: eff:call (Go.Op.call {'callee': (Go.Callee.value (Go.Operand.func 45)), 'args': [(Go.Operand.tmp 13)], 'argTypes': [26]}) slot 14
    refine wpList_plainQ rfl (fun K Q' hK => ?_); go_simp
    refine (hfa _ h3.fits).mono ?_
    rintro e wFa ⟨rfl, hkFa⟩
    have h4 := h3.callk hkFa
    refine hK _ _ ?_; clear hK K; try clear Q'
    iterate 5 (refine wpList_plainQ rfl (fun K Q' hK => ?_); go_simp; refine hK _ _ ?_; clear hK K; try clear Q')
    refine wpList_nil ?_
    show Code.wp _ _ _ _ _
    refine wp_seq ?_
    refine wp_region_lit ?_
    have c_1_0 := h4.cell 1 rfl 0 rfl
    iterate 1 (refine wpList_plainQ rfl (fun K Q' hK => ?_); go_simp; refine hK _ _ ?_; clear hK K; try clear Q')
    clear c_1_0
    -- stops at: eff:call (Go.Op.call {'callee': (Go.Callee.value (Go.Operand.func 45)), 'args': [(Go.Operand.tmp 18)], 'argTypes': [26]}) slot 19
    refine wpList_plainQ rfl (fun K Q' hK => ?_); go_simp
    refine (hfb _ h4.fits).mono ?_
    rintro e wFb ⟨rfl, hkFb⟩
    have h5 := h4.callk hkFb
    refine hK _ _ ?_; clear hK K; try clear Q'
    iterate 5 (refine wpList_plainQ rfl (fun K Q' hK => ?_); go_simp; refine hK _ _ ?_; clear hK K; try clear Q')
    refine wpList_nil ?_
    show Code.wp _ _ _ _ _
    refine wp_seq ?_
    refine wp_block ?_
    refine wp_seq ?_
    refine wp_region_lit ?_
    iterate 3 (refine wpList_plainQ rfl (fun K Q' hK => ?_); go_simp; refine hK _ _ ?_; clear hK K; try clear Q')
    refine wpList_nil ?_
    show Code.wp _ _ _ _ _
    -- stops at: cond
    refine wp_cond_false (rfl) ?_
    refine wp_seq ?_
    refine wp_region_lit ?_
    iterate 3 (refine wpList_plainQ rfl (fun K Q' hK => ?_); go_simp; refine hK _ _ ?_; clear hK K; try clear Q')
    refine wpList_nil ?_
    show Code.wp _ _ _ _ _
    -- stops at: cond
    refine wp_cond_false (rfl) ?_
    refine wp_seq ?_
    refine wp_region_lit ?_
    iterate 1 (refine wpList_plainQ rfl (fun K Q' hK => ?_); go_simp; refine hK _ _ ?_; clear hK K; try clear Q')
    -- stops at: eff:call (Go.Op.call {'callee': (Go.Callee.value (Go.Operand.func 46)), 'args': [(Go.Operand.tmp 31)], 'argTypes': [63]}) slot 32
    refine wpList_plainQ rfl (fun K Q' hK => ?_); go_simp
    refine (rank_ok H _ pf f h5.fits hpf).mono ?_
    rintro e wA1 ⟨rfl, hkA1⟩
    rw [hr1.out]
    have h6 := h5.callk hkA1
    refine hK _ _ ?_; clear hK K; try clear Q'
    iterate 1 (refine wpList_plainQ rfl (fun K Q' hK => ?_); go_simp; refine hK _ _ ?_; clear hK K; try clear Q')
    -- stops at: eff:call (Go.Op.call {'callee': (Go.Callee.value (Go.Operand.func 46)), 'args': [(Go.Operand.tmp 33)], 'argTypes': [63]}) slot 34
    refine wpList_plainQ rfl (fun K Q' hK => ?_); go_simp
    refine (rank_ok H _ pg g h6.fits hpg).mono ?_
    rintro e wA2 ⟨rfl, hkA2⟩
    rw [hr2.out]
    have h7 := h6.callk hkA2
    refine hK _ _ ?_; clear hK K; try clear Q'
    iterate 2 (refine wpList_plainQ rfl (fun K Q' hK => ?_); go_simp; refine hK _ _ ?_; clear hK K; try clear Q')
    refine wpList_nil ?_
    show Code.wp _ _ _ _ _
    -- stops at: cond
    refine wp_cond_true (rfl) ?_
    refine wp_seq ?_
    refine h7.region [0, 1] [(0, true), (1, true), (3, true), (5, true), (2, false), (4, false), (6, false), (7, false)] (by kernel_rfl) (by kernel_rfl) (fun w8 h8 => ?_)
    refine wpOrd_hide (fun _ _ d _ _ h => by cases d <;> exact h) (fun QR hQn hQp => ?_)
    simp only [ordOps, List.map_cons, List.map_nil, List.getD_cons_zero, List.getD_cons_succ]
    iterate 4 (refine wpOrd_quiet (v := ?_) rfl (fun _ _ _ => hQp _ _ _ _ _) ?_ ?_; rotate_left; (intro w' hS; have c_0_0 := hS.cell 0 rfl 0 rfl; have c_1_0 := hS.cell 1 rfl 0 rfl; (first | (go_simp; done) | (go_simp; with_reducible rfl))); simp only [Act.put, List.setIfInBounds_toArray, List.set_cons_zero, List.set_cons_succ])
    -- stops at: eff:call (Go.Op.call {'callee': (Go.Callee.value (Go.Operand.func 47)), 'args': [(Go.Operand.tmp 37)], 'argTypes': [26]}) slot 38
    refine wpOrd_effQ rfl (fun K Q' hK => ?_); go_simp
    refine (rest_row H _ pa f a h8.fits hla).mono ?_
    rintro e wR ⟨q2, rfl, hkR, hq2⟩
    have h9 := h8.callk hkR
    refine hK _ _ (h9.sat' (GH.le_refl _) [0, 1] (by kernel_rfl)) ?_; clear hK K; try clear Q'
    -- stops at: eff:call (Go.Op.call {'callee': (Go.Callee.value (Go.Operand.func 27)), 'args': [(Go.Operand.tmp 36), (Go.Operand.tmp 38), (Go.Operand.tmp 39)], 'argTypes': [32, 26, 26] slot 40
    refine wpOrd_effQ rfl (fun K Q' hK => ?_); go_simp
    refine (ih H _ m c d q2 pb h9.pre (by have := hsz.out; rw [Rw.size_cons]; omega) hq2 hlb).mono ?_
    rintro e wM ⟨q3, H1, rfl, hpM, hq3⟩
    have h10 := h9.call hpM
    refine hK _ _ (h10.sat' hpM.le [0, 1] (by kernel_rfl)) ?_; clear hK K; try clear Q'
    -- stops at: eff:call (Go.Op.call {'callee': (Go.Callee.value (Go.Operand.func 48)), 'args': [(Go.Operand.tmp 40), (Go.Operand.tmp 41)], 'argTypes': [26, 63]}) slot 42
    refine wpOrd_effQ rfl (fun K Q' hK => ?_); go_simp
    refine (push_row H1 _ q3 pf f _ (by have := hsz.out; rw [Rw.meld_size, Rw.size_cons]; omega) h10.fits hq3 (hpf.mono hpM.le)).mono ?_
    rintro e wP ⟨q9, H9, rfl, hpP, hq9⟩
    have h11 := h10.call0 hpP
    refine hK _ _ (h11.sat' (GH.le.trans hpM.le hpP.le) [0, 1] (by kernel_rfl)) ?_; clear hK K; try clear Q'
    have c_0 := h11.cell 2 rfl 0 rfl
    have f_0 := h11.free 2 rfl 0
    refine wpOrd_effQ rfl (fun K Q' hK => ?_); go_simp
    clear c_0 f_0
    refine h11.k_set 2 rfl (fun w12 h12 => ?_)
    refine hK _ _ (h12.sat' (GH.le.trans hpM.le hpP.le) [0, 1] (by kernel_rfl)) ?_; clear hK K; try clear Q'
    refine wpOrd_nil (hQn _ _ ?_); clear hQn hQp QR
    show Code.wp _ _ _ _ _
    -- stops at: ret
    refine wp_ret ?_
    have r_2_0 := h12.cell 2 rfl 0 rfl
    first | show bodyPost _ _ _ _ _ _ | (simp only [Exit.then]; show bodyPost _ _ _ _ _ _) | (simp only [Exit.inBlock]; show bodyPost _ _ _ _ _ _) | (simp only [Exit.inBlock, Exit.then]; show bodyPost _ _ _ _ _ _) | (simp only [Exit.noGoto, Exit.inBlock, Exit.then]; show bodyPost _ _ _ _ _ _)
    refine bodyPost_ret (v := ?_) ?_ rfl ?_
    rotate_left
    · simp only [results, Tryd.results27]; go_simp; with_reducible rfl
    clear r_2_0
    refine ⟨q9, H9, rfl, ?_, by rw [Rw.meld_lt kf a b h]; exact hq9⟩
    rw [Rw.meldN_lt kf a b h]
    exact h12.post
  · intro H w m c d pa pb hpre hn hla hlb
    as_aux_lemma =>
    obtain ⟨pf, hpf, hfa⟩ := first_row H pa f a hla
    obtain ⟨pg, hpg, hfb⟩ := first_row H pb g b hlb
    obtain ⟨r1, hr1⟩ : ∃ r, Hid (f.rank = r) := ⟨_, show _ = _ from rfl⟩
    obtain ⟨r2, hr2⟩ : ∃ r, Hid (g.rank = r) := ⟨_, show _ = _ from rfl⟩
    have hsz : Hid (f.size + Rw.size a + (g.size + Rw.size b) < 1000000) := by rw [Rw.size_cons, Rw.size_cons] at hn; exact hn
    have d1 : decide (r1 < r2) = false := decide_eq_false (by have := hr1.out; have := hr2.out; omega)
    go_enter Tryd.func27, Tryd.ntmps27
    have h0 := St.start hpre
    refine wp_seq ?_
    refine wp_region_lit ?_
    refine wpList_plainQ rfl (fun K Q' hK => ?_); go_simp
    refine h0.k_alloc (fun w1 h1 => ?_)
    refine hK _ _ ?_; clear hK K; try clear Q'
    refine wpList_plainQ rfl (fun K Q' hK => ?_); go_simp
    refine h1.k_alloc (fun w2 h2 => ?_)
    refine hK _ _ ?_; clear hK K; try clear Q'
    refine wpList_plainQ rfl (fun K Q' hK => ?_); go_simp
    refine h2.k_alloc (fun w3 h3 => ?_)
    refine hK _ _ ?_; clear hK K; try clear Q'
    refine wpList_nil ?_
    show Code.wp _ _ _ _ _
    refine wp_seq ?_
    refine wp_region_lit ?_
    have c_0_0 := h3.cell 0 rfl 0 rfl
    iterate 1 (refine wpList_plainQ rfl (fun K Q' hK => ?_); go_simp; refine hK _ _ ?_; clear hK K; try clear Q')
    clear c_0_0
    -- stops at: eff:call (Go.Op.call {'callee': (Go.Callee.value (Go.Operand.func 45)), 'args': [(Go.Operand.tmp 13)], 'argTypes': [26]}) slot 14
    refine wpList_plainQ rfl (fun K Q' hK => ?_); go_simp
    refine (hfa _ h3.fits).mono ?_
    rintro e wFa ⟨rfl, hkFa⟩
    have h4 := h3.callk hkFa
    refine hK _ _ ?_; clear hK K; try clear Q'
    iterate 5 (refine wpList_plainQ rfl (fun K Q' hK => ?_); go_simp; refine hK _ _ ?_; clear hK K; try clear Q')
    refine wpList_nil ?_
    show Code.wp _ _ _ _ _
    refine wp_seq ?_
    refine wp_region_lit ?_
    have c_1_0 := h4.cell 1 rfl 0 rfl
    iterate 1 (refine wpList_plainQ rfl (fun K Q' hK => ?_); go_simp; refine hK _ _ ?_; clear hK K; try clear Q')
    clear c_1_0
    -- stops at: eff:call (Go.Op.call {'callee': (Go.Callee.value (Go.Operand.func 45)), 'args': [(Go.Operand.tmp 18)], 'argTypes': [26]}) slot 19
    refine wpList_plainQ rfl (fun K Q' hK => ?_); go_simp
    refine (hfb _ h4.fits).mono ?_
    rintro e wFb ⟨rfl, hkFb⟩
    have h5 := h4.callk hkFb
    refine hK _ _ ?_; clear hK K; try clear Q'
    iterate 5 (refine wpList_plainQ rfl (fun K Q' hK => ?_); go_simp; refine hK _ _ ?_; clear hK K; try clear Q')
    refine wpList_nil ?_
    show Code.wp _ _ _ _ _
    refine wp_seq ?_
    refine wp_block ?_
    refine wp_seq ?_
    refine wp_region_lit ?_
    iterate 3 (refine wpList_plainQ rfl (fun K Q' hK => ?_); go_simp; refine hK _ _ ?_; clear hK K; try clear Q')
    refine wpList_nil ?_
    show Code.wp _ _ _ _ _
    -- stops at: cond
    refine wp_cond_false (rfl) ?_
    refine wp_seq ?_
    refine wp_region_lit ?_
    iterate 3 (refine wpList_plainQ rfl (fun K Q' hK => ?_); go_simp; refine hK _ _ ?_; clear hK K; try clear Q')
    refine wpList_nil ?_
    show Code.wp _ _ _ _ _
    -- stops at: cond
    refine wp_cond_false (rfl) ?_
    refine wp_seq ?_
    refine wp_region_lit ?_
    iterate 1 (refine wpList_plainQ rfl (fun K Q' hK => ?_); go_simp; refine hK _ _ ?_; clear hK K; try clear Q')
    -- stops at: eff:call (Go.Op.call {'callee': (Go.Callee.value (Go.Operand.func 46)), 'args': [(Go.Operand.tmp 31)], 'argTypes': [63]}) slot 32
    refine wpList_plainQ rfl (fun K Q' hK => ?_); go_simp
    refine (rank_ok H _ pf f h5.fits hpf).mono ?_
    rintro e wA1 ⟨rfl, hkA1⟩
    rw [hr1.out]
    have h6 := h5.callk hkA1
    refine hK _ _ ?_; clear hK K; try clear Q'
    iterate 1 (refine wpList_plainQ rfl (fun K Q' hK => ?_); go_simp; refine hK _ _ ?_; clear hK K; try clear Q')
    -- stops at: eff:call (Go.Op.call {'callee': (Go.Callee.value (Go.Operand.func 46)), 'args': [(Go.Operand.tmp 33)], 'argTypes': [63]}) slot 34
    refine wpList_plainQ rfl (fun K Q' hK => ?_); go_simp
    refine (rank_ok H _ pg g h6.fits hpg).mono ?_
    rintro e wA2 ⟨rfl, hkA2⟩
    rw [hr2.out]
    have h7 := h6.callk hkA2
    refine hK _ _ ?_; clear hK K; try clear Q'
    iterate 2 (refine wpList_plainQ rfl (fun K Q' hK => ?_); go_simp; refine hK _ _ ?_; clear hK K; try clear Q')
    refine wpList_nil ?_
    show Code.wp _ _ _ _ _
    -- stops at: cond
    have d2 : decide (r2 < r1) = true := decide_eq_true (by have := hr1.out; have := hr2.out; omega)
    refine wp_cond_false (rfl) ?_
    refine wp_seq ?_
    refine wp_region_lit ?_
    iterate 1 (refine wpList_plainQ rfl (fun K Q' hK => ?_); go_simp; refine hK _ _ ?_; clear hK K; try clear Q')
    -- stops at: eff:call (Go.Op.call {'callee': (Go.Callee.value (Go.Operand.func 46)), 'args': [(Go.Operand.tmp 44)], 'argTypes': [63]}) slot 45
    refine wpList_plainQ rfl (fun K Q' hK => ?_); go_simp
    refine (rank_ok H _ pg g h7.fits hpg).mono ?_
    rintro e wB1 ⟨rfl, hkB1⟩
    rw [hr2.out]
    have h8 := h7.callk hkB1
    refine hK _ _ ?_; clear hK K; try clear Q'
    iterate 1 (refine wpList_plainQ rfl (fun K Q' hK => ?_); go_simp; refine hK _ _ ?_; clear hK K; try clear Q')
    -- stops at: eff:call (Go.Op.call {'callee': (Go.Callee.value (Go.Operand.func 46)), 'args': [(Go.Operand.tmp 46)], 'argTypes': [63]}) slot 47
    refine wpList_plainQ rfl (fun K Q' hK => ?_); go_simp
    refine (rank_ok H _ pf f h8.fits hpf).mono ?_
    rintro e wB2 ⟨rfl, hkB2⟩
    rw [hr1.out]
    have h9 := h8.callk hkB2
    refine hK _ _ ?_; clear hK K; try clear Q'
    iterate 2 (refine wpList_plainQ rfl (fun K Q' hK => ?_); go_simp; refine hK _ _ ?_; clear hK K; try clear Q')
    refine wpList_nil ?_
    show Code.wp _ _ _ _ _
    -- stops at: cond
    refine wp_cond_true (rfl) ?_
    refine wp_seq ?_
    refine h9.region [0, 1] [(0, true), (1, true), (2, true), (5, true), (3, false), (4, false), (6, false), (7, false)] (by kernel_rfl) (by kernel_rfl) (fun w10 h10 => ?_)
    refine wpOrd_hide (fun _ _ d _ _ h => by cases d <;> exact h) (fun QR hQn hQp => ?_)
    simp only [ordOps, List.map_cons, List.map_nil, List.getD_cons_zero, List.getD_cons_succ]
    iterate 4 (refine wpOrd_quiet (v := ?_) rfl (fun _ _ _ => hQp _ _ _ _ _) ?_ ?_; rotate_left; (intro w' hS; have c_0_0 := hS.cell 0 rfl 0 rfl; have c_1_0 := hS.cell 1 rfl 0 rfl; (first | (go_simp; done) | (go_simp; with_reducible rfl))); simp only [Act.put, List.setIfInBounds_toArray, List.set_cons_zero, List.set_cons_succ])
    -- stops at: eff:call (Go.Op.call {'callee': (Go.Callee.value (Go.Operand.func 47)), 'args': [(Go.Operand.tmp 51)], 'argTypes': [26]}) slot 52
    refine wpOrd_effQ rfl (fun K Q' hK => ?_); go_simp
    refine (rest_row H _ pb g b h10.fits hlb).mono ?_
    rintro e wR ⟨q2, rfl, hkR, hq2⟩
    have h11 := h10.callk hkR
    refine hK _ _ (h11.sat' (GH.le_refl _) [0, 1] (by kernel_rfl)) ?_; clear hK K; try clear Q'
    -- stops at: eff:call (Go.Op.call {'callee': (Go.Callee.value (Go.Operand.func 27)), 'args': [(Go.Operand.tmp 49), (Go.Operand.tmp 50), (Go.Operand.tmp 52)], 'argTypes': [32, 26, 26] slot 53
    refine wpOrd_effQ rfl (fun K Q' hK => ?_); go_simp
    refine (ih H _ m c d pa q2 h11.pre (by have := hsz.out; rw [Rw.size_cons]; omega) hla hq2).mono ?_
    rintro e wM ⟨q3, H1, rfl, hpM, hq3⟩
    have h12 := h11.call hpM
    refine hK _ _ (h12.sat' hpM.le [0, 1] (by kernel_rfl)) ?_; clear hK K; try clear Q'
    -- stops at: eff:call (Go.Op.call {'callee': (Go.Callee.value (Go.Operand.func 48)), 'args': [(Go.Operand.tmp 53), (Go.Operand.tmp 54)], 'argTypes': [26, 63]}) slot 55
    refine wpOrd_effQ rfl (fun K Q' hK => ?_); go_simp
    refine (push_row H1 _ q3 pg g _ (by have := hsz.out; rw [Rw.meld_size, Rw.size_cons]; omega) h12.fits hq3 (hpg.mono hpM.le)).mono ?_
    rintro e wP ⟨q9, H9, rfl, hpP, hq9⟩
    have h13 := h12.call0 hpP
    refine hK _ _ (h13.sat' (GH.le.trans hpM.le hpP.le) [0, 1] (by kernel_rfl)) ?_; clear hK K; try clear Q'
    have c_0 := h13.cell 2 rfl 0 rfl
    have f_0 := h13.free 2 rfl 0
    refine wpOrd_effQ rfl (fun K Q' hK => ?_); go_simp
    clear c_0 f_0
    refine h13.k_set 2 rfl (fun w14 h14 => ?_)
    refine hK _ _ (h14.sat' (GH.le.trans hpM.le hpP.le) [0, 1] (by kernel_rfl)) ?_; clear hK K; try clear Q'
    refine wpOrd_nil (hQn _ _ ?_); clear hQn hQp QR
    show Code.wp _ _ _ _ _
    -- stops at: ret
    refine wp_ret ?_
    have r_2_0 := h14.cell 2 rfl 0 rfl
    first | show bodyPost _ _ _ _ _ _ | (simp only [Exit.then]; show bodyPost _ _ _ _ _ _) | (simp only [Exit.inBlock]; show bodyPost _ _ _ _ _ _) | (simp only [Exit.inBlock, Exit.then]; show bodyPost _ _ _ _ _ _) | (simp only [Exit.noGoto, Exit.inBlock, Exit.then]; show bodyPost _ _ _ _ _ _)
    refine bodyPost_ret (v := ?_) ?_ rfl ?_
    rotate_left
    · simp only [results, Tryd.results27]; go_simp; with_reducible rfl
    clear r_2_0
    refine ⟨q9, H9, rfl, ?_, by rw [Rw.meld_gt kf a b h]; exact hq9⟩
    rw [Rw.meldN_gt kf a b h]
    exact h14.post
  · intro H w m c d pa pb hpre hn hla hlb
    as_aux_lemma =>
    obtain ⟨pf, hpf, hfa⟩ := first_row H pa f a hla
    obtain ⟨pg, hpg, hfb⟩ := first_row H pb g b hlb
    obtain ⟨r1, hr1⟩ : ∃ r, Hid (f.rank = r) := ⟨_, show _ = _ from rfl⟩
    obtain ⟨r2, hr2⟩ : ∃ r, Hid (g.rank = r) := ⟨_, show _ = _ from rfl⟩
    have hsz : Hid (f.size + Rw.size a + (g.size + Rw.size b) < 1000000) := by rw [Rw.size_cons, Rw.size_cons] at hn; exact hn
    have d1 : decide (r1 < r2) = false := decide_eq_false (by have := hr1.out; have := hr2.out; omega)
    go_enter Tryd.func27, Tryd.ntmps27
    have h0 := St.start hpre
    refine wp_seq ?_
    refine wp_region_lit ?_
    refine wpList_plainQ rfl (fun K Q' hK => ?_); go_simp
    refine h0.k_alloc (fun w1 h1 => ?_)
    refine hK _ _ ?_; clear hK K; try clear Q'
    refine wpList_plainQ rfl (fun K Q' hK => ?_); go_simp
    refine h1.k_alloc (fun w2 h2 => ?_)
    refine hK _ _ ?_; clear hK K; try clear Q'
    refine wpList_plainQ rfl (fun K Q' hK => ?_); go_simp
    refine h2.k_alloc (fun w3 h3 => ?_)
    refine hK _ _ ?_; clear hK K; try clear Q'
    refine wpList_nil ?_
    show Code.wp _ _ _ _ _
    refine wp_seq ?_
    refine wp_region_lit ?_
    have c_0_0 := h3.cell 0 rfl 0 rfl
    iterate 1 (refine wpList_plainQ rfl (fun K Q' hK => ?_); go_simp; refine hK _ _ ?_; clear hK K; try clear Q')
    clear c_0_0
    -- stops at: eff:call (Go.Op.call {'callee': (Go.Callee.value (Go.Operand.func 45)), 'args': [(Go.Operand.tmp 13)], 'argTypes': [26]}) slot 14
    refine wpList_plainQ rfl (fun K Q' hK => ?_); go_simp
    refine (hfa _ h3.fits).mono ?_
    rintro e wFa ⟨rfl, hkFa⟩
    have h4 := h3.callk hkFa
    refine hK _ _ ?_; clear hK K; try clear Q'
    iterate 5 (refine wpList_plainQ rfl (fun K Q' hK => ?_); go_simp; refine hK _ _ ?_; clear hK K; try clear Q')
    refine wpList_nil ?_
    show Code.wp _ _ _ _ _
    refine wp_seq ?_
    refine wp_region_lit ?_
    have c_1_0 := h4.cell 1 rfl 0 rfl
    iterate 1 (refine wpList_plainQ rfl (fun K Q' hK => ?_); go_simp; refine hK _ _ ?_; clear hK K; try clear Q')
    clear c_1_0
    -- stops at: eff:call (Go.Op.call {'callee': (Go.Callee.value (Go.Operand.func 45)), 'args': [(Go.Operand.tmp 18)], 'argTypes': [26]}) slot 19
    refine wpList_plainQ rfl (fun K Q' hK => ?_); go_simp
    refine (hfb _ h4.fits).mono ?_
    rintro e wFb ⟨rfl, hkFb⟩
    have h5 := h4.callk hkFb
    refine hK _ _ ?_; clear hK K; try clear Q'
    iterate 5 (refine wpList_plainQ rfl (fun K Q' hK => ?_); go_simp; refine hK _ _ ?_; clear hK K; try clear Q')
    refine wpList_nil ?_
    show Code.wp _ _ _ _ _
    refine wp_seq ?_
    refine wp_block ?_
    refine wp_seq ?_
    refine wp_region_lit ?_
    iterate 3 (refine wpList_plainQ rfl (fun K Q' hK => ?_); go_simp; refine hK _ _ ?_; clear hK K; try clear Q')
    refine wpList_nil ?_
    show Code.wp _ _ _ _ _
    -- stops at: cond
    refine wp_cond_false (rfl) ?_
    refine wp_seq ?_
    refine wp_region_lit ?_
    iterate 3 (refine wpList_plainQ rfl (fun K Q' hK => ?_); go_simp; refine hK _ _ ?_; clear hK K; try clear Q')
    refine wpList_nil ?_
    show Code.wp _ _ _ _ _
    -- stops at: cond
    refine wp_cond_false (rfl) ?_
    refine wp_seq ?_
    refine wp_region_lit ?_
    iterate 1 (refine wpList_plainQ rfl (fun K Q' hK => ?_); go_simp; refine hK _ _ ?_; clear hK K; try clear Q')
    -- stops at: eff:call (Go.Op.call {'callee': (Go.Callee.value (Go.Operand.func 46)), 'args': [(Go.Operand.tmp 31)], 'argTypes': [63]}) slot 32
    refine wpList_plainQ rfl (fun K Q' hK => ?_); go_simp
    refine (rank_ok H _ pf f h5.fits hpf).mono ?_
    rintro e wA1 ⟨rfl, hkA1⟩
    rw [hr1.out]
    have h6 := h5.callk hkA1
    refine hK _ _ ?_; clear hK K; try clear Q'
    iterate 1 (refine wpList_plainQ rfl (fun K Q' hK => ?_); go_simp; refine hK _ _ ?_; clear hK K; try clear Q')
    -- stops at: eff:call (Go.Op.call {'callee': (Go.Callee.value (Go.Operand.func 46)), 'args': [(Go.Operand.tmp 33)], 'argTypes': [63]}) slot 34
    refine wpList_plainQ rfl (fun K Q' hK => ?_); go_simp
    refine (rank_ok H _ pg g h6.fits hpg).mono ?_
    rintro e wA2 ⟨rfl, hkA2⟩
    rw [hr2.out]
    have h7 := h6.callk hkA2
    refine hK _ _ ?_; clear hK K; try clear Q'
    iterate 2 (refine wpList_plainQ rfl (fun K Q' hK => ?_); go_simp; refine hK _ _ ?_; clear hK K; try clear Q')
    refine wpList_nil ?_
    show Code.wp _ _ _ _ _
    -- stops at: cond
    have d2 : decide (r2 < r1) = false := decide_eq_false (by have := hr1.out; have := hr2.out; omega)
    refine wp_cond_false (rfl) ?_
    refine wp_seq ?_
    refine wp_region_lit ?_
    iterate 1 (refine wpList_plainQ rfl (fun K Q' hK => ?_); go_simp; refine hK _ _ ?_; clear hK K; try clear Q')
    -- stops at: eff:call (Go.Op.call {'callee': (Go.Callee.value (Go.Operand.func 46)), 'args': [(Go.Operand.tmp 44)], 'argTypes': [63]}) slot 45
    refine wpList_plainQ rfl (fun K Q' hK => ?_); go_simp
    refine (rank_ok H _ pg g h7.fits hpg).mono ?_
    rintro e wB1 ⟨rfl, hkB1⟩
    rw [hr2.out]
    have h8 := h7.callk hkB1
    refine hK _ _ ?_; clear hK K; try clear Q'
    iterate 1 (refine wpList_plainQ rfl (fun K Q' hK => ?_); go_simp; refine hK _ _ ?_; clear hK K; try clear Q')
    -- stops at: eff:call (Go.Op.call {'callee': (Go.Callee.value (Go.Operand.func 46)), 'args': [(Go.Operand.tmp 46)], 'argTypes': [63]}) slot 47
    refine wpList_plainQ rfl (fun K Q' hK => ?_); go_simp
    refine (rank_ok H _ pf f h8.fits hpf).mono ?_
    rintro e wB2 ⟨rfl, hkB2⟩
    rw [hr1.out]
    have h9 := h8.callk hkB2
    refine hK _ _ ?_; clear hK K; try clear Q'
    iterate 2 (refine wpList_plainQ rfl (fun K Q' hK => ?_); go_simp; refine hK _ _ ?_; clear hK K; try clear Q')
    refine wpList_nil ?_
    show Code.wp _ _ _ _ _
    -- stops at: cond
    refine wp_cond_false (rfl) ?_
    refine wp_skip ?_
    show Code.wp _ _ _ _ _
    refine wp_seq ?_
    refine h9.regionT [0, 1] (.one 0 true (.one 1 true (.one 3 true (.two (.one 2 false (.two (.one 4 false (.two (.one 5 false (.one 6 false (.one 7 false .nil))) (.one 6 false (.one 5 false (.one 7 false .nil))))) (.one 6 false (.one 4 false (.one 5 false (.one 7 false .nil)))))) (.one 6 false (.one 2 false (.one 4 false (.one 5 false (.one 7 false .nil))))))))) (by as_aux_lemma => kernel_rfl) (by as_aux_lemma => kernel_rfl) (fun w10 h10 => ?_)
    refine wpT_hide (fun _ _ d _ _ h => by cases d <;> exact h) (fun QR hQn hQp => ?_)
    dsimp only [OT.ops, List.getD_cons_zero, List.getD_cons_succ]
    iterate 3 (refine wpT_quiet (v := ?_) rfl (fun _ _ _ => hQp _ _ _ _ _) ?_ ?_; rotate_left; (intro w' hS; have c_0_0 := hS.cell 0 rfl 0 rfl; have c_1_0 := hS.cell 1 rfl 0 rfl; (first | (go_simp; done) | (go_simp; with_reducible rfl))); simp only [Act.put, List.setIfInBounds_toArray])
    refine wpT_two ?_ ?_
    -- stops at: fork 
    · skip
      as_aux_lemma =>
      refine wpT_effQ rfl (fun K Q' hK => ?_); go_simp
      refine (rest_row H _ pa f a h10.fits hla).mono ?_
      rintro e wR ⟨qa, rfl, hkR, hqa⟩
      have h11 := h10.callk hkR
      refine hK _ _ (h11.sat' (GH.le_refl _) [0, 1] (by kernel_rfl)) ?_; clear hK K; try clear Q'
      refine wpT_two ?_ ?_
      -- stops at: fork 
      · skip
        as_aux_lemma =>
        refine wpT_effQ rfl (fun K Q' hK => ?_); go_simp
        refine (rest_row H _ pb g b h11.fits hlb).mono ?_
        rintro e wS ⟨qb, rfl, hkS, hqb⟩
        have h12 := h11.callk hkS
        refine hK _ _ (h12.sat' (GH.le_refl _) [0, 1] (by kernel_rfl)) ?_; clear hK K; try clear Q'
        refine wpT_two ?_ ?_
        -- stops at: fork 
        · skip
          as_aux_lemma =>
          refine wpT_effQ rfl (fun K Q' hK => ?_); go_simp
          refine (ih H _ m c d qa qb h12.pre (by have := hsz.out; omega) hqa hqb).mono ?_
          rintro e wM ⟨q3, H1, rfl, hpM, hq3⟩
          have h13 := h12.call hpM
          refine hK _ _ (h13.sat' hpM.le [0, 1] (by kernel_rfl)) ?_; clear hK K; try clear Q'
          refine wpT_effQ rfl (fun K Q' hK => ?_); go_simp
          refine h13.k_alloc (fun w14 h14 => ?_)
          refine hK _ _ (h14.sat' hpM.le [0, 1] (by kernel_rfl)) ?_; clear hK K; try clear Q'
          have c_0 := h14.cell 3 rfl 0 rfl
          have f_0 := h14.free 3 rfl 0
          refine wpT_effQ rfl (fun K Q' hK => ?_); go_simp
          clear c_0 f_0
          refine h14.k_set 3 rfl (fun w15 h15 => ?_)
          refine hK _ _ (h15.sat' hpM.le [0, 1] (by kernel_rfl)) ?_; clear hK K; try clear Q'
          refine wpT_nil (hQn _ _ ?_); clear hQn hQp QR
          show Code.wp _ _ _ _ _
          refine wp_seq ?_
          refine h15.region [3] [(0, true), (1, true), (2, true), (3, true), (5, true), (4, false), (6, false), (7, false)] (by kernel_rfl) (by kernel_rfl) (fun w16 h16 => ?_)
          refine wpOrd_hide (fun _ _ d _ _ h => by cases d <;> exact h) (fun QR hQn hQp => ?_)
          simp only [ordOps, List.map_cons, List.map_nil, List.getD_cons_zero, List.getD_cons_succ]
          iterate 5 (refine wpOrd_quiet (v := ?_) rfl (fun _ _ _ => hQp _ _ _ _ _) ?_ ?_; rotate_left; (intro w' hS; have c_3_0 := hS.cell 0 rfl 0 rfl; (first | (go_simp; done) | (go_simp; with_reducible rfl))); simp only [Act.put, List.setIfInBounds_toArray, List.set_cons_zero, List.set_cons_succ])
          -- stops at: eff:call (Go.Op.call {'callee': (Go.Callee.value (Go.Operand.func 49)), 'args': [(Go.Operand.tmp 63), (Go.Operand.tmp 64), (Go.Operand.tmp 65)], 'argTypes': [32, 63, 63] slot 66
          refine wpOrd_effQ rfl (fun K Q' hK => ?_); go_simp
          refine (link_ok H1 _ m _ _ pf pg f g h16.pre (by have := hsz.out; omega) (hpf.mono hpM.le) (hpg.mono hpM.le)).mono ?_
          rintro e wL ⟨pl, H2, rfl, hpL, hL⟩
          have h17 := h16.call hpL
          refine hK _ _ (h17.sat' hpL.le [3] (by kernel_rfl)) ?_; clear hK K; try clear Q'
          -- stops at: eff:call (Go.Op.call {'callee': (Go.Callee.value (Go.Operand.func 33)), 'args': [(Go.Operand.tmp 62), (Go.Operand.tmp 66), (Go.Operand.tmp 67)], 'argTypes': [32, 63, 26] slot 68
          refine wpOrd_effQ rfl (fun K Q' hK => ?_); go_simp
          refine (put_ok H2 _ m _ _ pl q3 _ _ h17.pre (by have := hsz.out; rw [Tr.link_size, Rw.meld_size]; omega) hL (hq3.mono hpL.le)).mono ?_
          rintro e wP ⟨q9, H9, rfl, hpP, hq9⟩
          have h18 := h17.call hpP
          refine hK _ _ (h18.sat' (GH.le.trans hpL.le hpP.le) [3] (by kernel_rfl)) ?_; clear hK K; try clear Q'
          have c_0 := h18.cell 2 rfl 0 rfl
          have f_0 := h18.free 2 rfl 0
          refine wpOrd_effQ rfl (fun K Q' hK => ?_); go_simp
          clear c_0 f_0
          refine h18.k_set 2 rfl (fun w19 h19 => ?_)
          refine hK _ _ (h19.sat' (GH.le.trans hpL.le hpP.le) [3] (by kernel_rfl)) ?_; clear hK K; try clear Q'
          refine wpOrd_nil (hQn _ _ ?_); clear hQn hQp QR
          show Code.wp _ _ _ _ _
          -- stops at: ret
          refine wp_ret ?_
          have r_2_0 := h19.cell 2 rfl 0 rfl
          first | show bodyPost _ _ _ _ _ _ | (simp only [Exit.then]; show bodyPost _ _ _ _ _ _) | (simp only [Exit.inBlock]; show bodyPost _ _ _ _ _ _) | (simp only [Exit.inBlock, Exit.then]; show bodyPost _ _ _ _ _ _) | (simp only [Exit.noGoto, Exit.inBlock, Exit.then]; show bodyPost _ _ _ _ _ _)
          refine bodyPost_ret (v := ?_) ?_ rfl ?_
          rotate_left
          · simp only [results, Tryd.results27]; go_simp; with_reducible rfl
          clear r_2_0
          refine ⟨q9, H9, rfl, ?_, by rw [Rw.meld_eq kf a b h]; exact hq9⟩
          rw [Rw.meldN_eq kf a b h]
          have hq := h19.post
          have ee : ∀ z : Int, z + (Rw.meldN kf a b : Nat) + 1 + (Rw.putN kf (Tr.link kf f g) (Rw.meld kf a b) : Nat) = z + ((1 + Rw.meldN kf a b + Rw.putN kf (Tr.link kf f g) (Rw.meld kf a b) : Nat) : Int) := fun z => by omega
          rw [ee, ee] at hq
          exact hq
        · skip
          as_aux_lemma =>
          refine wpT_effQ rfl (fun K Q' hK => ?_); go_simp
          refine h12.k_alloc (fun w20 h20 => ?_)
          refine hK _ _ (h20.sat' (GH.le_refl _) [0, 1] (by kernel_rfl)) ?_; clear hK K; try clear Q'
          -- stops at: eff:call (Go.Op.call {'callee': (Go.Callee.value (Go.Operand.func 27)), 'args': [(Go.Operand.tmp 56), (Go.Operand.tmp 58), (Go.Operand.tmp 60)], 'argTypes': [32, 26, 26] slot 61
          refine wpT_effQ rfl (fun K Q' hK => ?_); go_simp
          refine (ih H _ m c d qa qb h20.pre (by have := hsz.out; omega) hqa hqb).mono ?_
          rintro e wM ⟨q3, H1, rfl, hpM, hq3⟩
          have h21 := h20.call hpM
          refine hK _ _ (h21.sat' hpM.le [0, 1] (by kernel_rfl)) ?_; clear hK K; try clear Q'
          have c_0 := h21.cell 3 rfl 0 rfl
          have f_0 := h21.free 3 rfl 0
          refine wpT_effQ rfl (fun K Q' hK => ?_); go_simp
          clear c_0 f_0
          refine h21.k_set 3 rfl (fun w22 h22 => ?_)
          refine hK _ _ (h22.sat' hpM.le [0, 1] (by kernel_rfl)) ?_; clear hK K; try clear Q'
          refine wpT_nil (hQn _ _ ?_); clear hQn hQp QR
          show Code.wp _ _ _ _ _
          refine wp_seq ?_
          refine h22.region [3] [(0, true), (1, true), (2, true), (3, true), (5, true), (4, false), (6, false), (7, false)] (by kernel_rfl) (by kernel_rfl) (fun w23 h23 => ?_)
          refine wpOrd_hide (fun _ _ d _ _ h => by cases d <;> exact h) (fun QR hQn hQp => ?_)
          simp only [ordOps, List.map_cons, List.map_nil, List.getD_cons_zero, List.getD_cons_succ]
          iterate 5 (refine wpOrd_quiet (v := ?_) rfl (fun _ _ _ => hQp _ _ _ _ _) ?_ ?_; rotate_left; (intro w' hS; have c_3_0 := hS.cell 0 rfl 0 rfl; (first | (go_simp; done) | (go_simp; with_reducible rfl))); simp only [Act.put, List.setIfInBounds_toArray, List.set_cons_zero, List.set_cons_succ])
          -- stops at: eff:call (Go.Op.call {'callee': (Go.Callee.value (Go.Operand.func 49)), 'args': [(Go.Operand.tmp 63), (Go.Operand.tmp 64), (Go.Operand.tmp 65)], 'argTypes': [32, 63, 63] slot 66
          refine wpOrd_effQ rfl (fun K Q' hK => ?_); go_simp
          refine (link_ok H1 _ m _ _ pf pg f g h23.pre (by have := hsz.out; omega) (hpf.mono hpM.le) (hpg.mono hpM.le)).mono ?_
          rintro e wL ⟨pl, H2, rfl, hpL, hL⟩
          have h24 := h23.call hpL
          refine hK _ _ (h24.sat' hpL.le [3] (by kernel_rfl)) ?_; clear hK K; try clear Q'
          -- stops at: eff:call (Go.Op.call {'callee': (Go.Callee.value (Go.Operand.func 33)), 'args': [(Go.Operand.tmp 62), (Go.Operand.tmp 66), (Go.Operand.tmp 67)], 'argTypes': [32, 63, 26] slot 68
          refine wpOrd_effQ rfl (fun K Q' hK => ?_); go_simp
          refine (put_ok H2 _ m _ _ pl q3 _ _ h24.pre (by have := hsz.out; rw [Tr.link_size, Rw.meld_size]; omega) hL (hq3.mono hpL.le)).mono ?_
          rintro e wP ⟨q9, H9, rfl, hpP, hq9⟩
          have h25 := h24.call hpP
          refine hK _ _ (h25.sat' (GH.le.trans hpL.le hpP.le) [3] (by kernel_rfl)) ?_; clear hK K; try clear Q'
          have c_0 := h25.cell 2 rfl 0 rfl
          have f_0 := h25.free 2 rfl 0
          refine wpOrd_effQ rfl (fun K Q' hK => ?_); go_simp
          clear c_0 f_0
          refine h25.k_set 2 rfl (fun w26 h26 => ?_)
          refine hK _ _ (h26.sat' (GH.le.trans hpL.le hpP.le) [3] (by kernel_rfl)) ?_; clear hK K; try clear Q'
          refine wpOrd_nil (hQn _ _ ?_); clear hQn hQp QR
          show Code.wp _ _ _ _ _
          -- stops at: ret
          refine wp_ret ?_
          have r_2_0 := h26.cell 2 rfl 0 rfl
          first | show bodyPost _ _ _ _ _ _ | (simp only [Exit.then]; show bodyPost _ _ _ _ _ _) | (simp only [Exit.inBlock]; show bodyPost _ _ _ _ _ _) | (simp only [Exit.inBlock, Exit.then]; show bodyPost _ _ _ _ _ _) | (simp only [Exit.noGoto, Exit.inBlock, Exit.then]; show bodyPost _ _ _ _ _ _)
          refine bodyPost_ret (v := ?_) ?_ rfl ?_
          rotate_left
          · simp only [results, Tryd.results27]; go_simp; with_reducible rfl
          clear r_2_0
          refine ⟨q9, H9, rfl, ?_, by rw [Rw.meld_eq kf a b h]; exact hq9⟩
          rw [Rw.meldN_eq kf a b h]
          have hq := h26.post
          have ee : ∀ z : Int, z + (Rw.meldN kf a b : Nat) + 1 + (Rw.putN kf (Tr.link kf f g) (Rw.meld kf a b) : Nat) = z + ((1 + Rw.meldN kf a b + Rw.putN kf (Tr.link kf f g) (Rw.meld kf a b) : Nat) : Int) := fun z => by omega
          rw [ee, ee] at hq
          exact hq
      · skip
        as_aux_lemma =>
        refine wpT_effQ rfl (fun K Q' hK => ?_); go_simp
        refine h11.k_alloc (fun w27 h27 => ?_)
        refine hK _ _ (h27.sat' (GH.le_refl _) [0, 1] (by kernel_rfl)) ?_; clear hK K; try clear Q'
        -- stops at: eff:call (Go.Op.call {'callee': (Go.Callee.value (Go.Operand.func 47)), 'args': [(Go.Operand.tmp 59)], 'argTypes': [26]}) slot 60
        refine wpT_effQ rfl (fun K Q' hK => ?_); go_simp
        refine (rest_row H _ pb g b h27.fits hlb).mono ?_
        rintro e wS ⟨qb, rfl, hkS, hqb⟩
        have h28 := h27.callk hkS
        refine hK _ _ (h28.sat' (GH.le_refl _) [0, 1] (by kernel_rfl)) ?_; clear hK K; try clear Q'
        -- stops at: eff:call (Go.Op.call {'callee': (Go.Callee.value (Go.Operand.func 27)), 'args': [(Go.Operand.tmp 56), (Go.Operand.tmp 58), (Go.Operand.tmp 60)], 'argTypes': [32, 26, 26] slot 61
        refine wpT_effQ rfl (fun K Q' hK => ?_); go_simp
        refine (ih H _ m c d qa qb h28.pre (by have := hsz.out; omega) hqa hqb).mono ?_
        rintro e wM ⟨q3, H1, rfl, hpM, hq3⟩
        have h29 := h28.call hpM
        refine hK _ _ (h29.sat' hpM.le [0, 1] (by kernel_rfl)) ?_; clear hK K; try clear Q'
        have c_0 := h29.cell 3 rfl 0 rfl
        have f_0 := h29.free 3 rfl 0
        refine wpT_effQ rfl (fun K Q' hK => ?_); go_simp
        clear c_0 f_0
        refine h29.k_set 3 rfl (fun w30 h30 => ?_)
        refine hK _ _ (h30.sat' hpM.le [0, 1] (by kernel_rfl)) ?_; clear hK K; try clear Q'
        refine wpT_nil (hQn _ _ ?_); clear hQn hQp QR
        show Code.wp _ _ _ _ _
        refine wp_seq ?_
        refine h30.region [3] [(0, true), (1, true), (2, true), (3, true), (5, true), (4, false), (6, false), (7, false)] (by kernel_rfl) (by kernel_rfl) (fun w31 h31 => ?_)
        refine wpOrd_hide (fun _ _ d _ _ h => by cases d <;> exact h) (fun QR hQn hQp => ?_)
        simp only [ordOps, List.map_cons, List.map_nil, List.getD_cons_zero, List.getD_cons_succ]
        iterate 5 (refine wpOrd_quiet (v := ?_) rfl (fun _ _ _ => hQp _ _ _ _ _) ?_ ?_; rotate_left; (intro w' hS; have c_3_0 := hS.cell 0 rfl 0 rfl; (first | (go_simp; done) | (go_simp; with_reducible rfl))); simp only [Act.put, List.setIfInBounds_toArray, List.set_cons_zero, List.set_cons_succ])
        -- stops at: eff:call (Go.Op.call {'callee': (Go.Callee.value (Go.Operand.func 49)), 'args': [(Go.Operand.tmp 63), (Go.Operand.tmp 64), (Go.Operand.tmp 65)], 'argTypes': [32, 63, 63] slot 66
        refine wpOrd_effQ rfl (fun K Q' hK => ?_); go_simp
        refine (link_ok H1 _ m _ _ pf pg f g h31.pre (by have := hsz.out; omega) (hpf.mono hpM.le) (hpg.mono hpM.le)).mono ?_
        rintro e wL ⟨pl, H2, rfl, hpL, hL⟩
        have h32 := h31.call hpL
        refine hK _ _ (h32.sat' hpL.le [3] (by kernel_rfl)) ?_; clear hK K; try clear Q'
        -- stops at: eff:call (Go.Op.call {'callee': (Go.Callee.value (Go.Operand.func 33)), 'args': [(Go.Operand.tmp 62), (Go.Operand.tmp 66), (Go.Operand.tmp 67)], 'argTypes': [32, 63, 26] slot 68
        refine wpOrd_effQ rfl (fun K Q' hK => ?_); go_simp
        refine (put_ok H2 _ m _ _ pl q3 _ _ h32.pre (by have := hsz.out; rw [Tr.link_size, Rw.meld_size]; omega) hL (hq3.mono hpL.le)).mono ?_
        rintro e wP ⟨q9, H9, rfl, hpP, hq9⟩
        have h33 := h32.call hpP
        refine hK _ _ (h33.sat' (GH.le.trans hpL.le hpP.le) [3] (by kernel_rfl)) ?_; clear hK K; try clear Q'
        have c_0 := h33.cell 2 rfl 0 rfl
        have f_0 := h33.free 2 rfl 0
        refine wpOrd_effQ rfl (fun K Q' hK => ?_); go_simp
        clear c_0 f_0
        refine h33.k_set 2 rfl (fun w34 h34 => ?_)
        refine hK _ _ (h34.sat' (GH.le.trans hpL.le hpP.le) [3] (by kernel_rfl)) ?_; clear hK K; try clear Q'
        refine wpOrd_nil (hQn _ _ ?_); clear hQn hQp QR
        show Code.wp _ _ _ _ _
        -- stops at: ret
        refine wp_ret ?_
        have r_2_0 := h34.cell 2 rfl 0 rfl
        first | show bodyPost _ _ _ _ _ _ | (simp only [Exit.then]; show bodyPost _ _ _ _ _ _) | (simp only [Exit.inBlock]; show bodyPost _ _ _ _ _ _) | (simp only [Exit.inBlock, Exit.then]; show bodyPost _ _ _ _ _ _) | (simp only [Exit.noGoto, Exit.inBlock, Exit.then]; show bodyPost _ _ _ _ _ _)
        refine bodyPost_ret (v := ?_) ?_ rfl ?_
        rotate_left
        · simp only [results, Tryd.results27]; go_simp; with_reducible rfl
        clear r_2_0
        refine ⟨q9, H9, rfl, ?_, by rw [Rw.meld_eq kf a b h]; exact hq9⟩
        rw [Rw.meldN_eq kf a b h]
        have hq := h34.post
        have ee : ∀ z : Int, z + (Rw.meldN kf a b : Nat) + 1 + (Rw.putN kf (Tr.link kf f g) (Rw.meld kf a b) : Nat) = z + ((1 + Rw.meldN kf a b + Rw.putN kf (Tr.link kf f g) (Rw.meld kf a b) : Nat) : Int) := fun z => by omega
        rw [ee, ee] at hq
        exact hq
    · skip
      as_aux_lemma =>
      refine wpT_effQ rfl (fun K Q' hK => ?_); go_simp
      refine h10.k_alloc (fun w35 h35 => ?_)
      refine hK _ _ (h35.sat' (GH.le_refl _) [0, 1] (by kernel_rfl)) ?_; clear hK K; try clear Q'
      -- stops at: eff:call (Go.Op.call {'callee': (Go.Callee.value (Go.Operand.func 47)), 'args': [(Go.Operand.tmp 57)], 'argTypes': [26]}) slot 58
      refine wpT_effQ rfl (fun K Q' hK => ?_); go_simp
      refine (rest_row H _ pa f a h35.fits hla).mono ?_
      rintro e wR ⟨qa, rfl, hkR, hqa⟩
      have h36 := h35.callk hkR
      refine hK _ _ (h36.sat' (GH.le_refl _) [0, 1] (by kernel_rfl)) ?_; clear hK K; try clear Q'
      -- stops at: eff:call (Go.Op.call {'callee': (Go.Callee.value (Go.Operand.func 47)), 'args': [(Go.Operand.tmp 59)], 'argTypes': [26]}) slot 60
      refine wpT_effQ rfl (fun K Q' hK => ?_); go_simp
      refine (rest_row H _ pb g b h36.fits hlb).mono ?_
      rintro e wS ⟨qb, rfl, hkS, hqb⟩
      have h37 := h36.callk hkS
      refine hK _ _ (h37.sat' (GH.le_refl _) [0, 1] (by kernel_rfl)) ?_; clear hK K; try clear Q'
      -- stops at: eff:call (Go.Op.call {'callee': (Go.Callee.value (Go.Operand.func 27)), 'args': [(Go.Operand.tmp 56), (Go.Operand.tmp 58), (Go.Operand.tmp 60)], 'argTypes': [32, 26, 26] slot 61
      refine wpT_effQ rfl (fun K Q' hK => ?_); go_simp
      refine (ih H _ m c d qa qb h37.pre (by have := hsz.out; omega) hqa hqb).mono ?_
      rintro e wM ⟨q3, H1, rfl, hpM, hq3⟩
      have h38 := h37.call hpM
      refine hK _ _ (h38.sat' hpM.le [0, 1] (by kernel_rfl)) ?_; clear hK K; try clear Q'
      have c_0 := h38.cell 3 rfl 0 rfl
      have f_0 := h38.free 3 rfl 0
      refine wpT_effQ rfl (fun K Q' hK => ?_); go_simp
      clear c_0 f_0
      refine h38.k_set 3 rfl (fun w39 h39 => ?_)
      refine hK _ _ (h39.sat' hpM.le [0, 1] (by kernel_rfl)) ?_; clear hK K; try clear Q'
      refine wpT_nil (hQn _ _ ?_); clear hQn hQp QR
      show Code.wp _ _ _ _ _
      refine wp_seq ?_
      refine h39.region [3] [(0, true), (1, true), (2, true), (3, true), (5, true), (4, false), (6, false), (7, false)] (by kernel_rfl) (by kernel_rfl) (fun w40 h40 => ?_)
      refine wpOrd_hide (fun _ _ d _ _ h => by cases d <;> exact h) (fun QR hQn hQp => ?_)
      simp only [ordOps, List.map_cons, List.map_nil, List.getD_cons_zero, List.getD_cons_succ]
      iterate 5 (refine wpOrd_quiet (v := ?_) rfl (fun _ _ _ => hQp _ _ _ _ _) ?_ ?_; rotate_left; (intro w' hS; have c_3_0 := hS.cell 0 rfl 0 rfl; (first | (go_simp; done) | (go_simp; with_reducible rfl))); simp only [Act.put, List.setIfInBounds_toArray, List.set_cons_zero, List.set_cons_succ])
      -- stops at: eff:call (Go.Op.call {'callee': (Go.Callee.value (Go.Operand.func 49)), 'args': [(Go.Operand.tmp 63), (Go.Operand.tmp 64), (Go.Operand.tmp 65)], 'argTypes': [32, 63, 63] slot 66
      refine wpOrd_effQ rfl (fun K Q' hK => ?_); go_simp
      refine (link_ok H1 _ m _ _ pf pg f g h40.pre (by have := hsz.out; omega) (hpf.mono hpM.le) (hpg.mono hpM.le)).mono ?_
      rintro e wL ⟨pl, H2, rfl, hpL, hL⟩
      have h41 := h40.call hpL
      refine hK _ _ (h41.sat' hpL.le [3] (by kernel_rfl)) ?_; clear hK K; try clear Q'
      -- stops at: eff:call (Go.Op.call {'callee': (Go.Callee.value (Go.Operand.func 33)), 'args': [(Go.Operand.tmp 62), (Go.Operand.tmp 66), (Go.Operand.tmp 67)], 'argTypes': [32, 63, 26] slot 68
      refine wpOrd_effQ rfl (fun K Q' hK => ?_); go_simp
      refine (put_ok H2 _ m _ _ pl q3 _ _ h41.pre (by have := hsz.out; rw [Tr.link_size, Rw.meld_size]; omega) hL (hq3.mono hpL.le)).mono ?_
      rintro e wP ⟨q9, H9, rfl, hpP, hq9⟩
      have h42 := h41.call hpP
      refine hK _ _ (h42.sat' (GH.le.trans hpL.le hpP.le) [3] (by kernel_rfl)) ?_; clear hK K; try clear Q'
      have c_0 := h42.cell 2 rfl 0 rfl
      have f_0 := h42.free 2 rfl 0
      refine wpOrd_effQ rfl (fun K Q' hK => ?_); go_simp
      clear c_0 f_0
      refine h42.k_set 2 rfl (fun w43 h43 => ?_)
      refine hK _ _ (h43.sat' (GH.le.trans hpL.le hpP.le) [3] (by kernel_rfl)) ?_; clear hK K; try clear Q'
      refine wpOrd_nil (hQn _ _ ?_); clear hQn hQp QR
      show Code.wp _ _ _ _ _
      -- stops at: ret
      refine wp_ret ?_
      have r_2_0 := h43.cell 2 rfl 0 rfl
      first | show bodyPost _ _ _ _ _ _ | (simp only [Exit.then]; show bodyPost _ _ _ _ _ _) | (simp only [Exit.inBlock]; show bodyPost _ _ _ _ _ _) | (simp only [Exit.inBlock, Exit.then]; show bodyPost _ _ _ _ _ _) | (simp only [Exit.noGoto, Exit.inBlock, Exit.then]; show bodyPost _ _ _ _ _ _)
      refine bodyPost_ret (v := ?_) ?_ rfl ?_
      rotate_left
      · simp only [results, Tryd.results27]; go_simp; with_reducible rfl
      clear r_2_0
      refine ⟨q9, H9, rfl, ?_, by rw [Rw.meld_eq kf a b h]; exact hq9⟩
      rw [Rw.meldN_eq kf a b h]
      have hq := h43.post
      have ee : ∀ z : Int, z + (Rw.meldN kf a b : Nat) + 1 + (Rw.putN kf (Tr.link kf f g) (Rw.meld kf a b) : Nat) = z + ((1 + Rw.meldN kf a b + Rw.putN kf (Tr.link kf f g) (Rw.meld kf a b) : Nat) : Int) := fun z => by omega
      rw [ee, ee] at hq
      exact hq
end Go.Proofs.YtenhjgdflgcjnaaDoor
