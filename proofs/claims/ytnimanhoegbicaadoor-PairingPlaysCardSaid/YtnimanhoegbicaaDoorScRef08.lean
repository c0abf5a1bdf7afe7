/-
The document's pairing heaps: two and two melded, taking out, as texts.
-/
import Derived.Test.YtnimanhoegbicaaDoorSbRef08
import Derived.Test.YtnimanhoegbicaaDoorScText
import Derived.Test.YtnimanhoegbicaaDoorGcOrd2
import Derived.Test.YtnimanhoegbicaaDoorGeOrdR
namespace Go.Proofs.YtnimanhoegbicaaDoor
open Go Go.RowKit
set_option linter.unusedVariables false

/-- Trees side by side as a slice. -/
def KsV (H : GH) (v : Value) (t : PT) : Prop := ∃ cs : List Value, SliceRep H 4 v t.len cs ∧ KidsV H t cs
theorem KsV.mono {H H' : GH} {v : Value} {t : PT} (h : KsV H v t) (hl : H.le H') : KsV H' v t := by
  obtain ⟨cs, h1, h2⟩ := h
  exact ⟨cs, h1.mono hl, h2.mono hl⟩
theorem KsV.form {H : GH} {v : Value} {t : PT} (h : KsV H v t) : ∃ a cap, v = .slice a t.len cap ∧ t.len ≤ cap ∧ cap ≤ maxLen := by
  obtain ⟨cs, h1, h2⟩ := h
  exact h1.nil_or
/-- The trees side by side, one by one: a root, and the trees below it. -/
def PT.toL : PT → List (El × PT)
  | .nil => []
  | .node x k n => (x, k) :: PT.toL n
theorem PT.toL_length (t : PT) : (PT.toL t).length = t.len := by
  induction t with
  | nil => rfl
  | node x k n _ ih => simp [PT.toL, PT.len, ih]
/-- The tree at a place: its cells. -/
theorem KidsV.at {H : GH} : ∀ (t : PT) (cs : List Value) (j : Nat) (x : El) (k : PT), KidsV H t cs → (PT.toL t)[j]? = some (x, k) → ∃ (kv : Value) (kcs : List Value) (sz : Nat), cs[j * 4]? = some (.int .i64 x.1) ∧ cs[j * 4 + 1]? = some (.int .i64 x.2) ∧ cs[j * 4 + 2]? = some kv ∧ cs[j * 4 + 3]? = some (.int .i64 (sz : Int)) ∧
    Hid (sz = k.els.length + 1) ∧ SliceRep H 4 kv k.len kcs ∧ KidsV H k kcs := by
  intro t
  induction t with
  | nil => intro cs j x k _ h; simp [PT.toL] at h
  | node y l n _ ih =>
    intro cs j x k h hj
    obtain ⟨kv, kcs, rest, sz, rfl, h2, h3, h4, h5⟩ := h
    cases j with
    | zero =>
      obtain ⟨rfl, rfl⟩ : y = x ∧ l = k := by simpa [PT.toL] using hj
      exact ⟨kv, kcs, sz, rfl, rfl, rfl, rfl, h2, h3, h4⟩
    | succ j =>
      obtain ⟨kv', kcs', sz', e0, e1, e2, e3, e4⟩ := ih rest j x k h5 (by simpa [PT.toL] using hj)
      have key : ∀ i, ((Value.int .i64 y.1) :: .int .i64 y.2 :: kv :: .int .i64 (sz : Int) :: rest)[(j + 1) * 4 + i]? = rest[j * 4 + i]? := fun i => by
        rw [show (j + 1) * 4 + i = j * 4 + i + 4 by omega]
        rfl
      exact ⟨kv', kcs', sz', by rw [← Nat.add_zero ((j + 1) * 4), key]; exact e0, by rw [key]; exact e1, by rw [key]; exact e2, by rw [key]; exact e3, e4⟩
/-- .. of trees that are a settled slice. -/
theorem KsV.at {H : GH} {b off cap n : Nat} {t : PT} (h : KsV H (.slice (some ⟨b, off, none⟩) n cap) t) (j : Nat) {x : El} {k : PT} (hj : (PT.toL t)[j]? = some (x, k)) : ∃ (a : Option Addr) (c sz : Nat),
    Hid (∀ W, Fits W H → W.cell? ⟨b, off + j * 4, none⟩ = some (.int .i64 x.1) ∧ W.cell? ⟨b, off + j * 4 + 1, none⟩ = some (.int .i64 x.2) ∧ W.cell? ⟨b, off + j * 4 + 2, none⟩ = some (.slice a k.len c) ∧ W.cell? ⟨b, off + j * 4 + 3, none⟩ = some (.int .i64 (sz : Int))) ∧
    RefR H (.node x k .nil) (refV x (.slice a k.len c) sz) := by
  obtain ⟨cs, h1, h2⟩ := h
  obtain ⟨a', c', e, _, _⟩ := h1.nil_or
  simp only [Value.slice.injEq] at e
  obtain ⟨_, rfl, _⟩ := e
  obtain ⟨kv, kcs, sz, e0, e1, e2, e3, e4, e5, e6⟩ := KidsV.at t cs j x k h2 hj
  obtain ⟨a, c, rfl, _, _⟩ := e5.nil_or
  exact ⟨a, c, sz, fun W hF => ⟨h1.cell hF _ e0, h1.cell hF _ e1, h1.cell hF _ e2, h1.cell hF _ e3⟩, .inr ⟨x, k, _, kcs, sz, rfl, rfl, e4, e5, e6⟩⟩
theorem KsV.some {H : GH} {v : Value} {t : PT} (h : KsV H v t) (h0 : 0 < t.len) : ∃ (b off cap : Nat), v = .slice (some ⟨b, off, none⟩) t.len cap ∧ t.len ≤ cap := by
  obtain ⟨cs, h1, _⟩ := h
  obtain ⟨b, o, c, e, h2, _⟩ := h1.ne_nil h0
  exact ⟨b, o, c, e, h2⟩
/-- The trees behind the first two. -/
theorem KsV.from2 {H : GH} {a : Option Addr} {cap nn : Nat} {x y : El} {k j n : PT} (h : KsV H (.slice a nn cap) (.node x k (.node y j n))) (hn : nn = n.len + 2) :
    KsV H (.slice (if cap = 2 then a else Option.map (fun x : Addr => x.add 8) a) (nn - 2) (cap - 2)) n := by
  obtain ⟨cs, h1, h2⟩ := h
  obtain ⟨kv, kcs, rest, sz, rfl, _, _, _, h5⟩ := h2
  obtain ⟨kv', kcs', rest', sz', rfl, _, _, _, h6⟩ := h5
  refine ⟨rest', ?_, h6⟩
  have e : (PT.node x k (.node y j n)).len = nn := by simp [PT.len]; omega
  rw [e] at h1
  have h7 := h1.from 2 (by omega)
  rw [show n.len = nn - 2 by omega]
  exact h7
theorem pairN_le (t : PT) : PT.pairN t ≤ t.len := by
  induction t using PT.pair.induct with
  | case1 => simp [PT.pairN]
  | case2 x k => simp [PT.pairN]
  | case3 x k y j n ih =>
    have h2 : ∀ s t : PT, PT.meldN s t ≤ 1 := fun s t => by cases s <;> cases t <;> simp [PT.meldN]
    have := h2 (PT.meld (.node x k .nil) (.node y j .nil)) (PT.pair n)
    simp only [PT.pairN, PT.len]
    omega
theorem meldN_le (s t : PT) : PT.meldN s t ≤ 1 := by cases s <;> cases t <;> simp [PT.meldN]

set_option maxRecDepth 100000 in
set_option maxHeartbeats 8000000 in
theorem refpair_ok (t : PT) : ∀ (H : GH) (w : World) (v : Value), Fits w H → PT.size t < 900000 → KsV H v t →
    Calls Tryd.prog 27 #[v] w fun e w' => ∃ r H', e = .returned (.tuple #[r, .int .i64 (2 * PT.pairN t : Nat)]) ∧ Post w H none w' H' 0 0 ∧ RefR H' (PT.pair t) r := by
  induction t using PT.pair.induct with
  | case1 =>
    intro H w v hf hn hv
    have hpre : Pre w H none 0 0 := Pre.none hf 0 0
    obtain ⟨a0, c0, rfl, _, _⟩ := hv.form
    go_enter Tryd.func27, Tryd.ntmps27
    have h0 := St.start hpre
    refine wp_seq ?_
    repeat (first | simp only [List.nil_append] at h0 | simp only [List.cons_append] at h0 | simp only [List.set_cons_zero] at h0 | simp only [List.set_cons_succ] at h0 | simp only [List.eraseIdx_zero] at h0 | simp only [List.tail_cons] at h0 | simp only [List.eraseIdx_cons_zero] at h0 | simp only [List.eraseIdx_cons_succ] at h0 | simp only [List.setIfInBounds_toArray] at h0)
    refine wp_region_lit ?_
    refine wpList_plainQ rfl (fun K Q' hK => ?_); go_simp
    refine h0.k_alloc (fun w1 h1 => ?_)
    refine hK _ _ ?_; clear hK K; try clear Q'
    iterate 1 (refine wpList_plainQ rfl (fun K Q' hK => ?_); go_simp; refine hK _ _ ?_; clear hK K; try clear Q')
    refine wpList_nil ?_
    show Code.wp _ _ _ _ _
    refine wp_seq ?_
    refine wp_seq ?_
    repeat (first | simp only [List.nil_append] at h1 | simp only [List.cons_append] at h1 | simp only [List.set_cons_zero] at h1 | simp only [List.set_cons_succ] at h1 | simp only [List.eraseIdx_zero] at h1 | simp only [List.tail_cons] at h1 | simp only [List.eraseIdx_cons_zero] at h1 | simp only [List.eraseIdx_cons_succ] at h1 | simp only [List.setIfInBounds_toArray] at h1)
    refine wp_region_lit ?_
    iterate 3 (refine wpList_plainQ rfl (fun K Q' hK => ?_); go_simp; refine hK _ _ ?_; clear hK K; try clear Q')
    refine wpList_nil ?_
    show Code.wp _ _ _ _ _
    -- stops at: cond
    refine wp_cond_true (rfl) ?_
    refine wp_seq ?_
    refine wp_region_lit ?_
    iterate 1 (refine wpList_plainQ rfl (fun K Q' hK => ?_); go_simp; refine hK _ _ ?_; clear hK K; try clear Q')
    have c_0 := h1.cell 0 rfl 0 rfl
    have f_0 := h1.free 0 rfl 0
    have c_1 := h1.cell 0 rfl 1 rfl
    have f_1 := h1.free 0 rfl 1
    have c_2 := h1.cell 0 rfl 2 rfl
    have f_2 := h1.free 0 rfl 2
    have c_3 := h1.cell 0 rfl 3 rfl
    have f_3 := h1.free 0 rfl 3
    refine wpList_plainQ rfl (fun K Q' hK => ?_); go_simp
    clear c_0 f_0 c_1 f_1 c_2 f_2 c_3 f_3
    refine (((h1.set (i := 0) rfl 0 _).set (i := 0) rfl 1 _).set (i := 0) rfl 2 _).k_set 0 rfl (fun w2 h2 => ?_)
    refine hK _ _ ?_; clear hK K; try clear Q'
    iterate 1 (refine wpList_plainQ rfl (fun K Q' hK => ?_); go_simp; refine hK _ _ ?_; clear hK K; try clear Q')
    refine wpList_nil ?_
    show Code.wp _ _ _ _ _
    -- stops at: ret
    refine wp_ret ?_
    have r_0_0 := h2.cell 0 rfl 0 rfl
    have r_0_1 := h2.cell 0 rfl 1 rfl
    have r_0_2 := h2.cell 0 rfl 2 rfl
    have r_0_3 := h2.cell 0 rfl 3 rfl
    first | show bodyPost _ _ _ _ _ _ | (simp only [Exit.then]; show bodyPost _ _ _ _ _ _) | (simp only [Exit.inBlock]; show bodyPost _ _ _ _ _ _) | (simp only [Exit.inBlock, Exit.then]; show bodyPost _ _ _ _ _ _) | (simp only [Exit.noGoto, Exit.inBlock, Exit.then]; show bodyPost _ _ _ _ _ _)
    refine bodyPost_ret (v := ?_) ?_ rfl ?_
    rotate_left
    · simp only [results, Tryd.results27]; go_simp; with_reducible rfl
    clear r_0_0 r_0_1 r_0_2 r_0_3
    exact ⟨_, H, rfl, h2.post, RefR.nil H⟩
  | case2 x k =>
    intro H w v hf hn hv
    have hpre : Pre w H none 0 0 := Pre.none hf 0 0
    have hv' := hv
    obtain ⟨b0, o0, cap0, rfl, hc0⟩ := hv.some (by simp [PT.len])
    have hl1 : PT.len (.node x k .nil) = 1 := rfl
    rw [hl1] at hv' hc0 ⊢
    obtain ⟨ak, ck, sz, hc, hr⟩ := hv'.at 0 (x := x) (k := k) rfl
    simp only [Nat.zero_mul, Nat.add_zero] at hc
    go_enter Tryd.func27, Tryd.ntmps27
    have h0 := St.start hpre
    refine wp_seq ?_
    repeat (first | simp only [List.nil_append] at h0 | simp only [List.cons_append] at h0 | simp only [List.set_cons_zero] at h0 | simp only [List.set_cons_succ] at h0 | simp only [List.eraseIdx_zero] at h0 | simp only [List.tail_cons] at h0 | simp only [List.eraseIdx_cons_zero] at h0 | simp only [List.eraseIdx_cons_succ] at h0 | simp only [List.setIfInBounds_toArray] at h0)
    refine wp_region_lit ?_
    refine wpList_plainQ rfl (fun K Q' hK => ?_); go_simp
    refine h0.k_alloc (fun w1 h1 => ?_)
    refine hK _ _ ?_; clear hK K; try clear Q'
    iterate 1 (refine wpList_plainQ rfl (fun K Q' hK => ?_); go_simp; refine hK _ _ ?_; clear hK K; try clear Q')
    refine wpList_nil ?_
    show Code.wp _ _ _ _ _
    refine wp_seq ?_
    refine wp_seq ?_
    repeat (first | simp only [List.nil_append] at h1 | simp only [List.cons_append] at h1 | simp only [List.set_cons_zero] at h1 | simp only [List.set_cons_succ] at h1 | simp only [List.eraseIdx_zero] at h1 | simp only [List.tail_cons] at h1 | simp only [List.eraseIdx_cons_zero] at h1 | simp only [List.eraseIdx_cons_succ] at h1 | simp only [List.setIfInBounds_toArray] at h1)
    refine wp_region_lit ?_
    iterate 3 (refine wpList_plainQ rfl (fun K Q' hK => ?_); go_simp; refine hK _ _ ?_; clear hK K; try clear Q')
    refine wpList_nil ?_
    show Code.wp _ _ _ _ _
    -- stops at: cond
    refine wp_cond_false (rfl) ?_
    refine wp_skip ?_
    show Code.wp _ _ _ _ _
    refine wp_seq ?_
    refine wp_seq ?_
    refine wp_region_lit ?_
    iterate 3 (refine wpList_plainQ rfl (fun K Q' hK => ?_); go_simp; refine hK _ _ ?_; clear hK K; try clear Q')
    refine wpList_nil ?_
    show Code.wp _ _ _ _ _
    -- stops at: cond
    refine wp_cond_true (rfl) ?_
    refine wp_seq ?_
    refine wp_region_lit ?_
    iterate 2 (refine wpList_plainQ rfl (fun K Q' hK => ?_); go_simp; refine hK _ _ ?_; clear hK K; try clear Q')
    -- stops at: load (Go.Op.load 35 (Go.Operand.tmp 18)) slot 19
    have ce := hc.out _ h1.fits
    obtain ⟨q0, q1, q2, q3⟩ := ce
    iterate 1 (refine wpList_plainQ rfl (fun K Q' hK => ?_); go_simp; refine hK _ _ ?_; clear hK K; try clear Q')
    clear q0 q1 q2 q3
    have c_0 := h1.cell 0 rfl 0 rfl
    have f_0 := h1.free 0 rfl 0
    have c_1 := h1.cell 0 rfl 1 rfl
    have f_1 := h1.free 0 rfl 1
    have c_2 := h1.cell 0 rfl 2 rfl
    have f_2 := h1.free 0 rfl 2
    have c_3 := h1.cell 0 rfl 3 rfl
    have f_3 := h1.free 0 rfl 3
    refine wpList_plainQ rfl (fun K Q' hK => ?_); go_simp
    clear c_0 f_0 c_1 f_1 c_2 f_2 c_3 f_3
    refine (((h1.set (i := 0) rfl 0 _).set (i := 0) rfl 1 _).set (i := 0) rfl 2 _).k_set 0 rfl (fun w2 h2 => ?_)
    refine hK _ _ ?_; clear hK K; try clear Q'
    iterate 1 (refine wpList_plainQ rfl (fun K Q' hK => ?_); go_simp; refine hK _ _ ?_; clear hK K; try clear Q')
    refine wpList_nil ?_
    show Code.wp _ _ _ _ _
    -- stops at: ret
    refine wp_ret ?_
    have r_0_0 := h2.cell 0 rfl 0 rfl
    have r_0_1 := h2.cell 0 rfl 1 rfl
    have r_0_2 := h2.cell 0 rfl 2 rfl
    have r_0_3 := h2.cell 0 rfl 3 rfl
    first | show bodyPost _ _ _ _ _ _ | (simp only [Exit.then]; show bodyPost _ _ _ _ _ _) | (simp only [Exit.inBlock]; show bodyPost _ _ _ _ _ _) | (simp only [Exit.inBlock, Exit.then]; show bodyPost _ _ _ _ _ _) | (simp only [Exit.noGoto, Exit.inBlock, Exit.then]; show bodyPost _ _ _ _ _ _)
    refine bodyPost_ret (v := ?_) ?_ rfl ?_
    rotate_left
    · simp only [results, Tryd.results27]; go_simp; with_reducible rfl
    clear r_0_0 r_0_1 r_0_2 r_0_3
    exact ⟨_, H, rfl, h2.post, hr⟩
  | case3 x k y j n ih =>
    intro H w v hf hn hv
    have hpre : Pre w H none 0 0 := Pre.none hf 0 0
    have hv' := hv
    obtain ⟨b0, o0, cap0, rfl, hc0⟩ := hv.some (by simp [PT.len])
    obtain ⟨nn, hnn⟩ : ∃ m, Hid (PT.len (.node x k (.node y j n)) = m) := ⟨_, show _ = _ from rfl⟩
    rw [hnn.out] at hv' hc0 ⊢
    have hnr : Hid (nn = n.len + 2) := by rw [← hnn.out]; exact (show _ = _ from rfl)
    have hsz : Hid (PT.size (.node x k .nil) + (PT.size (.node y j .nil) + PT.size n) < 900000) := by
      show _ < _
      simp [PT.size, PT.els] at *
      omega
    have hlb : nn < 1000000 := by have := len_le_size n; have := hnr.out; have := hsz.out; unfold PT.size at *; omega
    obtain ⟨ak, ck, s1, hc1, hr1⟩ := hv'.at 0 (x := x) (k := k) rfl
    obtain ⟨aj, cj, s2, hc2a, hr2⟩ := hv'.at 1 (x := y) (k := j) rfl
    simp only [Nat.zero_mul, Nat.add_zero] at hc1
    have hc2 : Hid (∀ W, Fits W H → W.cell? ⟨b0, o0 + 4, none⟩ = some (.int .i64 y.1) ∧ W.cell? ⟨b0, o0 + 5, none⟩ = some (.int .i64 y.2) ∧ W.cell? ⟨b0, o0 + 6, none⟩ = some (.slice aj j.len cj) ∧ W.cell? ⟨b0, o0 + 7, none⟩ = some (.int .i64 (s2 : Int))) := fun W hF => by
      have := hc2a.out W hF
      simpa [Nat.add_assoc] using this
    obtain ⟨aS, haS⟩ : ∃ a, (if cap0 = 2 then (some ⟨b0, o0, none⟩ : Option Addr) else some ⟨b0, o0 + 8, none⟩) = a := ⟨_, rfl⟩
    obtain ⟨nS, hnS⟩ : ∃ a, nn - 2 = a := ⟨_, rfl⟩
    obtain ⟨cS, hcS⟩ : ∃ a, cap0 - 2 = a := ⟨_, rfl⟩
    have hre : KsV H (.slice aS nS cS) n := by
      have h1 := hv'.from2 hnr.out
      have hadd : (⟨b0, o0, none⟩ : Addr).add 8 = ⟨b0, o0 + 8, none⟩ := by unfold Addr.add; simp
      simp only [Option.map_some, hadd] at h1
      rw [haS, hnS, hcS] at h1
      exact h1
    have hsl2 : (2 : Int) ≤ (nn : Int) := by have := hnr.out; omega
    have d0 : ((nn : Int) == 0) = false := beq_eq_false_iff_ne.2 (by omega)
    have d1 : ((nn : Int) == 1) = false := beq_eq_false_iff_ne.2 (by omega)
    obtain ⟨m1, hm1⟩ : ∃ m, Hid (2 * PT.meldN (.node x k .nil) (.node y j .nil) = m) := ⟨_, show _ = _ from rfl⟩
    obtain ⟨m2, hm2⟩ : ∃ m, Hid (2 * PT.pairN n = m) := ⟨_, show _ = _ from rfl⟩
    obtain ⟨m3, hm3⟩ : ∃ m, Hid (2 * PT.meldN (PT.meld (.node x k .nil) (.node y j .nil)) (PT.pair n) = m) := ⟨_, show _ = _ from rfl⟩
    obtain ⟨t1, ht1⟩ : ∃ m, Hid (m1 + m2 = m) := ⟨_, show _ = _ from rfl⟩
    obtain ⟨t2, ht2⟩ : ∃ m, Hid (t1 + m3 = m) := ⟨_, show _ = _ from rfl⟩
    have hb1 : m1 ≤ 2 := by have := hm1.out; have := meldN_le (.node x k .nil) (.node y j .nil); omega
    have hb3 : m3 ≤ 2 := by have := hm3.out; have := meldN_le (PT.meld (.node x k .nil) (.node y j .nil)) (PT.pair n); omega
    have hb2 : m2 ≤ 2000000 := by have := hm2.out; have := pairN_le n; have := hnr.out; omega
    have e1 : IntKind.i64.wrap ((m1 : Int) + (m2 : Int)) = (t1 : Int) := by have := ht1.out; rw [IntWalk.i64_in _ (by omega)]; omega
    have e2 : IntKind.i64.wrap ((t1 : Int) + (m3 : Int)) = (t2 : Int) := by have := ht1.out; have := ht2.out; rw [IntWalk.i64_in _ (by omega)]; omega
    have hn2 : (1 : Int) < (nn : Int) := by omega
    have hn0 : 0 < nn := by omega
    go_enter Tryd.func27, Tryd.ntmps27
    have h0 := St.start hpre
    refine wp_seq ?_
    repeat (first | simp only [List.nil_append] at h0 | simp only [List.cons_append] at h0 | simp only [List.set_cons_zero] at h0 | simp only [List.set_cons_succ] at h0 | simp only [List.eraseIdx_zero] at h0 | simp only [List.tail_cons] at h0 | simp only [List.eraseIdx_cons_zero] at h0 | simp only [List.eraseIdx_cons_succ] at h0 | simp only [List.setIfInBounds_toArray] at h0)
    refine wp_region_lit ?_
    refine wpList_plainQ rfl (fun K Q' hK => ?_); go_simp
    refine h0.k_alloc (fun w1 h1 => ?_)
    refine hK _ _ ?_; clear hK K; try clear Q'
    iterate 1 (refine wpList_plainQ rfl (fun K Q' hK => ?_); go_simp; refine hK _ _ ?_; clear hK K; try clear Q')
    refine wpList_nil ?_
    show Code.wp _ _ _ _ _
    refine wp_seq ?_
    refine wp_seq ?_
    repeat (first | simp only [List.nil_append] at h1 | simp only [List.cons_append] at h1 | simp only [List.set_cons_zero] at h1 | simp only [List.set_cons_succ] at h1 | simp only [List.eraseIdx_zero] at h1 | simp only [List.tail_cons] at h1 | simp only [List.eraseIdx_cons_zero] at h1 | simp only [List.eraseIdx_cons_succ] at h1 | simp only [List.setIfInBounds_toArray] at h1)
    refine wp_region_lit ?_
    iterate 3 (refine wpList_plainQ rfl (fun K Q' hK => ?_); go_simp; refine hK _ _ ?_; clear hK K; try clear Q')
    refine wpList_nil ?_
    show Code.wp _ _ _ _ _
    -- stops at: cond
    refine wp_cond_false (rfl) ?_
    refine wp_skip ?_
    show Code.wp _ _ _ _ _
    refine wp_seq ?_
    refine wp_seq ?_
    refine wp_region_lit ?_
    iterate 3 (refine wpList_plainQ rfl (fun K Q' hK => ?_); go_simp; refine hK _ _ ?_; clear hK K; try clear Q')
    refine wpList_nil ?_
    show Code.wp _ _ _ _ _
    -- stops at: cond
    refine wp_cond_false (rfl) ?_
    refine wp_skip ?_
    show Code.wp _ _ _ _ _
    refine wp_seq ?_
    refine h1.regionT [] (.one 0 true (.one 1 true (.one 2 true (.one 3 true (.one 4 true (.one 5 true (.two (.one 6 false (.one 7 true (.one 8 true (.one 9 true (.one 10 false (.one 11 false (.one 12 true .nil))))))) (.one 10 false (.one 6 false (.one 7 true (.one 8 true (.one 9 true (.one 11 false (.one 12 true .nil)))))))))))))) (by as_aux_lemma => kernel_rfl) (by as_aux_lemma => kernel_rfl) (fun w2 h2 => ?_)
    refine wpT_hide (fun _ _ d _ _ h => by cases d <;> exact h) (fun QR hQn hQp => ?_)
    dsimp only [OT.ops, List.getD_cons_zero, List.getD_cons_succ]
    iterate 2 (refine wpT_quiet (v := ?_) rfl (fun _ _ _ => hQp _ _ _ _ _) ?_ ?_; rotate_left; (intro w' hS; (first | (go_simp; done) | (go_simp; with_reducible rfl))); simp only [Act.put, List.setIfInBounds_toArray])
    -- stops at: load (Go.Op.load 35 (Go.Operand.tmp 22)) slot 23
    iterate 1 (refine wpT_quiet (v := ?_) rfl (fun _ _ _ => hQp _ _ _ _ _) ?_ ?_; rotate_left; (intro w' hS; obtain ⟨q0, q1, q2, q3⟩ := hc1.out _ hS.1; (first | (go_simp; done) | (go_simp; with_reducible rfl))); simp only [Act.put])
    iterate 2 (refine wpT_quiet (v := ?_) rfl (fun _ _ _ => hQp _ _ _ _ _) ?_ ?_; rotate_left; (intro w' hS; (first | (go_simp; done) | (go_simp; with_reducible rfl))); simp only [Act.put])
    -- stops at: load (Go.Op.load 35 (Go.Operand.tmp 25)) slot 26
    iterate 1 (refine wpT_quiet (v := ?_) rfl (fun _ _ _ => hQp _ _ _ _ _) ?_ ?_; rotate_left; (intro w' hS; obtain ⟨q0, q1, q2, q3⟩ := hc2.out _ hS.1; (first | (go_simp; done) | (go_simp; with_reducible rfl))); simp only [Act.put])
    refine wpT_two ?_ ?_
    -- stops at: fork 
    · skip
      -- stops at: eff:call (Go.Op.call {'callee': (Go.Callee.value (Go.Operand.func 11)), 'args': [(Go.Operand.tmp 23), (Go.Operand.tmp 26)], 'argTypes': [35, 35]}) slot 27
      refine wpT_effQ rfl (fun K Q' hK => ?_); go_simp
      refine (refmeld_ok H _ (.node x k .nil) (.node y j .nil) _ _ h2.fits (by have := hsz.out; omega) hr1 hr2).mono ?_
      rintro e wA ⟨rA, H1, rfl, hpA, hA⟩
      rw [hm1.out]
      have hA' := hA
      obtain ⟨a4, n4, c4, s4, x4, rfl, _, _⟩ := hA.form
      have hle1 := hpA.le
      have h3 := h2.call0 hpA
      refine hK _ _ (h3.sat' hpA.le [] (by kernel_rfl)) ?_; clear hK K; try clear Q'
      iterate 3 (refine wpT_quiet (v := ?_) rfl (fun _ _ _ => hQp _ _ _ _ _) ?_ ?_; rotate_left; (intro w' hS; (first | (go_simp; done) | (go_simp; with_reducible rfl))); simp only [Act.put, List.setIfInBounds_toArray])
      refine wpT_effQ rfl (fun K Q' hK => ?_); go_simp
      refine h3.k_alloc (fun w4 h4 => ?_)
      refine hK _ _ (h4.sat' hpA.le [] (by kernel_rfl)) ?_; clear hK K; try clear Q'
      have c_0 := h4.cell 1 rfl 0 rfl
      have f_0 := h4.free 1 rfl 0
      have c_1 := h4.cell 1 rfl 1 rfl
      have f_1 := h4.free 1 rfl 1
      have c_2 := h4.cell 1 rfl 2 rfl
      have f_2 := h4.free 1 rfl 2
      have c_3 := h4.cell 1 rfl 3 rfl
      have f_3 := h4.free 1 rfl 3
      refine wpT_effQ rfl (fun K Q' hK => ?_); go_simp
      clear c_0 f_0 c_1 f_1 c_2 f_2 c_3 f_3
      refine (((h4.set (i := 1) rfl 0 _).set (i := 1) rfl 1 _).set (i := 1) rfl 2 _).k_set 1 rfl (fun w5 h5 => ?_)
      refine hK _ _ (h5.sat' hpA.le [] (by kernel_rfl)) ?_; clear hK K; try clear Q'
      iterate 1 (refine wpT_quiet (v := ?_) rfl (fun _ _ _ => hQp _ _ _ _ _) ?_ ?_; rotate_left; (intro w' hS; (first | (go_simp; done) | (go_simp; with_reducible rfl))); simp only [Act.put, List.setIfInBounds_toArray])
      refine wpT_nil (hQn _ _ ?_); clear hQn hQp QR
      show Code.wp _ _ _ _ _
      refine wp_seq ?_
      repeat (first | simp only [List.nil_append] at h5 | simp only [List.cons_append] at h5 | simp only [List.set_cons_zero] at h5 | simp only [List.set_cons_succ] at h5 | simp only [List.eraseIdx_zero] at h5 | simp only [List.tail_cons] at h5 | simp only [List.eraseIdx_cons_zero] at h5 | simp only [List.eraseIdx_cons_succ] at h5 | simp only [List.setIfInBounds_toArray] at h5)
      refine wp_region_lit ?_
      iterate 2 (refine wpList_plainQ rfl (fun K Q' hK => ?_); go_simp; refine hK _ _ ?_; clear hK K; try clear Q')
      -- stops at: eff:call (Go.Op.call {'callee': (Go.Callee.value (Go.Operand.func 27)), 'args': [(Go.Operand.tmp 32)], 'argTypes': [33]}) slot 33
      refine wpList_plainQ rfl (fun K Q' hK => ?_); go_simp
      refine (ih H1 _ _ h5.fits (by have := hsz.out; omega) (hre.mono hle1)).mono ?_
      rintro e wB ⟨rB, H2, rfl, hpB, hB⟩
      rw [hm2.out]
      have hB' := hB
      obtain ⟨a5, n5, c5, s5, x5, rfl, _, _⟩ := hB.form
      have h6 := h5.call0 hpB
      refine hK _ _ ?_; clear hK K; try clear Q'
      iterate 3 (refine wpList_plainQ rfl (fun K Q' hK => ?_); go_simp; refine hK _ _ ?_; clear hK K; try clear Q')
      refine wpList_plainQ rfl (fun K Q' hK => ?_); go_simp
      refine h6.k_alloc (fun w7 h7 => ?_)
      refine hK _ _ ?_; clear hK K; try clear Q'
      have c_0 := h7.cell 2 rfl 0 rfl
      have f_0 := h7.free 2 rfl 0
      have c_1 := h7.cell 2 rfl 1 rfl
      have f_1 := h7.free 2 rfl 1
      have c_2 := h7.cell 2 rfl 2 rfl
      have f_2 := h7.free 2 rfl 2
      have c_3 := h7.cell 2 rfl 3 rfl
      have f_3 := h7.free 2 rfl 3
      refine wpList_plainQ rfl (fun K Q' hK => ?_); go_simp
      clear c_0 f_0 c_1 f_1 c_2 f_2 c_3 f_3
      refine (((h7.set (i := 2) rfl 0 _).set (i := 2) rfl 1 _).set (i := 2) rfl 2 _).k_set 2 rfl (fun w8 h8 => ?_)
      refine hK _ _ ?_; clear hK K; try clear Q'
      iterate 1 (refine wpList_plainQ rfl (fun K Q' hK => ?_); go_simp; refine hK _ _ ?_; clear hK K; try clear Q')
      refine wpList_nil ?_
      show Code.wp _ _ _ _ _
      refine wp_seq ?_
      repeat (first | simp only [List.nil_append] at h8 | simp only [List.cons_append] at h8 | simp only [List.set_cons_zero] at h8 | simp only [List.set_cons_succ] at h8 | simp only [List.eraseIdx_zero] at h8 | simp only [List.tail_cons] at h8 | simp only [List.eraseIdx_cons_zero] at h8 | simp only [List.eraseIdx_cons_succ] at h8 | simp only [List.setIfInBounds_toArray] at h8)
      refine wp_region_lit ?_
      have c_1_0 := h8.cell 1 rfl 0 rfl
      have c_1_1 := h8.cell 1 rfl 1 rfl
      have c_1_2 := h8.cell 1 rfl 2 rfl
      have c_1_3 := h8.cell 1 rfl 3 rfl
      have c_2_0 := h8.cell 2 rfl 0 rfl
      have c_2_1 := h8.cell 2 rfl 1 rfl
      have c_2_2 := h8.cell 2 rfl 2 rfl
      have c_2_3 := h8.cell 2 rfl 3 rfl
      iterate 2 (refine wpList_plainQ rfl (fun K Q' hK => ?_); go_simp; refine hK _ _ ?_; clear hK K; try clear Q')
      clear c_1_0 c_1_1 c_1_2 c_1_3 c_2_0 c_2_1 c_2_2 c_2_3
      -- stops at: eff:call (Go.Op.call {'callee': (Go.Callee.value (Go.Operand.func 11)), 'args': [(Go.Operand.tmp 37), (Go.Operand.tmp 38)], 'argTypes': [35, 35]}) slot 39
      refine wpList_plainQ rfl (fun K Q' hK => ?_); go_simp
      refine (refmeld_ok H2 _ (PT.meld (.node x k .nil) (.node y j .nil)) (PT.pair n) _ _ h8.fits (by rw [PT.meld_size (show PT.one (.node x k .nil) from rfl) (show PT.one (.node y j .nil) from rfl), PT.pair_size]; have := hsz.out; omega) (hA'.mono hpB.le) hB').mono ?_
      rintro e wC ⟨rC, H3, rfl, hpC, hC⟩
      rw [hm3.out]
      have hC' := hC
      obtain ⟨a6, n6, c6, s6, x6, rfl, _, _⟩ := hC.form
      have h9 := h8.call0 hpC
      refine hK _ _ ?_; clear hK K; try clear Q'
      iterate 3 (refine wpList_plainQ rfl (fun K Q' hK => ?_); go_simp; refine hK _ _ ?_; clear hK K; try clear Q')
      refine wpList_plainQ rfl (fun K Q' hK => ?_); go_simp
      refine h9.k_alloc (fun w10 h10 => ?_)
      refine hK _ _ ?_; clear hK K; try clear Q'
      have c_0 := h10.cell 3 rfl 0 rfl
      have f_0 := h10.free 3 rfl 0
      have c_1 := h10.cell 3 rfl 1 rfl
      have f_1 := h10.free 3 rfl 1
      have c_2 := h10.cell 3 rfl 2 rfl
      have f_2 := h10.free 3 rfl 2
      have c_3 := h10.cell 3 rfl 3 rfl
      have f_3 := h10.free 3 rfl 3
      refine wpList_plainQ rfl (fun K Q' hK => ?_); go_simp
      clear c_0 f_0 c_1 f_1 c_2 f_2 c_3 f_3
      refine (((h10.set (i := 3) rfl 0 _).set (i := 3) rfl 1 _).set (i := 3) rfl 2 _).k_set 3 rfl (fun w11 h11 => ?_)
      refine hK _ _ ?_; clear hK K; try clear Q'
      iterate 1 (refine wpList_plainQ rfl (fun K Q' hK => ?_); go_simp; refine hK _ _ ?_; clear hK K; try clear Q')
      refine wpList_nil ?_
      show Code.wp _ _ _ _ _
      refine wp_seq ?_
      repeat (first | simp only [List.nil_append] at h11 | simp only [List.cons_append] at h11 | simp only [List.set_cons_zero] at h11 | simp only [List.set_cons_succ] at h11 | simp only [List.eraseIdx_zero] at h11 | simp only [List.tail_cons] at h11 | simp only [List.eraseIdx_cons_zero] at h11 | simp only [List.eraseIdx_cons_succ] at h11 | simp only [List.setIfInBounds_toArray] at h11)
      refine wp_region_lit ?_
      have c_3_0 := h11.cell 3 rfl 0 rfl
      have c_3_1 := h11.cell 3 rfl 1 rfl
      have c_3_2 := h11.cell 3 rfl 2 rfl
      have c_3_3 := h11.cell 3 rfl 3 rfl
      iterate 6 (refine wpList_plainQ rfl (fun K Q' hK => ?_); go_simp; refine hK _ _ ?_; clear hK K; try clear Q')
      clear c_3_0 c_3_1 c_3_2 c_3_3
      have c_0 := h11.cell 0 rfl 0 rfl
      have f_0 := h11.free 0 rfl 0
      have c_1 := h11.cell 0 rfl 1 rfl
      have f_1 := h11.free 0 rfl 1
      have c_2 := h11.cell 0 rfl 2 rfl
      have f_2 := h11.free 0 rfl 2
      have c_3 := h11.cell 0 rfl 3 rfl
      have f_3 := h11.free 0 rfl 3
      refine wpList_plainQ rfl (fun K Q' hK => ?_); go_simp
      clear c_0 f_0 c_1 f_1 c_2 f_2 c_3 f_3
      refine (((h11.set (i := 0) rfl 0 _).set (i := 0) rfl 1 _).set (i := 0) rfl 2 _).k_set 0 rfl (fun w12 h12 => ?_)
      refine hK _ _ ?_; clear hK K; try clear Q'
      iterate 1 (refine wpList_plainQ rfl (fun K Q' hK => ?_); go_simp; refine hK _ _ ?_; clear hK K; try clear Q')
      refine wpList_nil ?_
      show Code.wp _ _ _ _ _
      -- stops at: ret
      refine wp_ret ?_
      have r_0_0 := h12.cell 0 rfl 0 rfl
      have r_0_1 := h12.cell 0 rfl 1 rfl
      have r_0_2 := h12.cell 0 rfl 2 rfl
      have r_0_3 := h12.cell 0 rfl 3 rfl
      first | show bodyPost _ _ _ _ _ _ | (simp only [Exit.then]; show bodyPost _ _ _ _ _ _) | (simp only [Exit.inBlock]; show bodyPost _ _ _ _ _ _) | (simp only [Exit.inBlock, Exit.then]; show bodyPost _ _ _ _ _ _) | (simp only [Exit.noGoto, Exit.inBlock, Exit.then]; show bodyPost _ _ _ _ _ _)
      refine bodyPost_ret (v := ?_) ?_ rfl ?_
      rotate_left
      · simp only [results, Tryd.results27]; go_simp; with_reducible rfl
      clear r_0_0 r_0_1 r_0_2 r_0_3
      refine ⟨_, H3, ?_, h12.post, hC'⟩
      rw [show 2 * PT.pairN (.node x k (.node y j n)) = t2 by simp only [PT.pairN]; have := hm1.out; have := hm2.out; have := hm3.out; have := ht1.out; have := ht2.out; simp only [PT.meldN] at *; omega]
    · skip
      refine wpT_effQ rfl (fun K Q' hK => ?_); go_simp
      refine h2.k_alloc (fun w13 h13 => ?_)
      refine hK _ _ (h13.sat' (GH.le_refl _) [] (by kernel_rfl)) ?_; clear hK K; try clear Q'
      -- stops at: eff:call (Go.Op.call {'callee': (Go.Callee.value (Go.Operand.func 11)), 'args': [(Go.Operand.tmp 23), (Go.Operand.tmp 26)], 'argTypes': [35, 35]}) slot 27
      refine wpT_effQ rfl (fun K Q' hK => ?_); go_simp
      refine (refmeld_ok H _ (.node x k .nil) (.node y j .nil) _ _ h13.fits (by have := hsz.out; omega) hr1 hr2).mono ?_
      rintro e wA ⟨rA, H1, rfl, hpA, hA⟩
      rw [hm1.out]
      have hA' := hA
      obtain ⟨a4, n4, c4, s4, x4, rfl, _, _⟩ := hA.form
      have hle1 := hpA.le
      have h14 := h13.call0 hpA
      refine hK _ _ (h14.sat' hpA.le [] (by kernel_rfl)) ?_; clear hK K; try clear Q'
      iterate 3 (refine wpT_quiet (v := ?_) rfl (fun _ _ _ => hQp _ _ _ _ _) ?_ ?_; rotate_left; (intro w' hS; (first | (go_simp; done) | (go_simp; with_reducible rfl))); simp only [Act.put, List.setIfInBounds_toArray])
      have c_0 := h14.cell 1 rfl 0 rfl
      have f_0 := h14.free 1 rfl 0
      have c_1 := h14.cell 1 rfl 1 rfl
      have f_1 := h14.free 1 rfl 1
      have c_2 := h14.cell 1 rfl 2 rfl
      have f_2 := h14.free 1 rfl 2
      have c_3 := h14.cell 1 rfl 3 rfl
      have f_3 := h14.free 1 rfl 3
      refine wpT_effQ rfl (fun K Q' hK => ?_); go_simp
      clear c_0 f_0 c_1 f_1 c_2 f_2 c_3 f_3
      refine (((h14.set (i := 1) rfl 0 _).set (i := 1) rfl 1 _).set (i := 1) rfl 2 _).k_set 1 rfl (fun w15 h15 => ?_)
      refine hK _ _ (h15.sat' hpA.le [] (by kernel_rfl)) ?_; clear hK K; try clear Q'
      iterate 1 (refine wpT_quiet (v := ?_) rfl (fun _ _ _ => hQp _ _ _ _ _) ?_ ?_; rotate_left; (intro w' hS; (first | (go_simp; done) | (go_simp; with_reducible rfl))); simp only [Act.put, List.setIfInBounds_toArray])
      refine wpT_nil (hQn _ _ ?_); clear hQn hQp QR
      show Code.wp _ _ _ _ _
      refine wp_seq ?_
      repeat (first | simp only [List.nil_append] at h15 | simp only [List.cons_append] at h15 | simp only [List.set_cons_zero] at h15 | simp only [List.set_cons_succ] at h15 | simp only [List.eraseIdx_zero] at h15 | simp only [List.tail_cons] at h15 | simp only [List.eraseIdx_cons_zero] at h15 | simp only [List.eraseIdx_cons_succ] at h15 | simp only [List.setIfInBounds_toArray] at h15)
      refine wp_region_lit ?_
      iterate 2 (refine wpList_plainQ rfl (fun K Q' hK => ?_); go_simp; refine hK _ _ ?_; clear hK K; try clear Q')
      -- stops at: eff:call (Go.Op.call {'callee': (Go.Callee.value (Go.Operand.func 27)), 'args': [(Go.Operand.tmp 32)], 'argTypes': [33]}) slot 33
      refine wpList_plainQ rfl (fun K Q' hK => ?_); go_simp
      refine (ih H1 _ _ h15.fits (by have := hsz.out; omega) (hre.mono hle1)).mono ?_
      rintro e wB ⟨rB, H2, rfl, hpB, hB⟩
      rw [hm2.out]
      have hB' := hB
      obtain ⟨a5, n5, c5, s5, x5, rfl, _, _⟩ := hB.form
      have h16 := h15.call0 hpB
      refine hK _ _ ?_; clear hK K; try clear Q'
      iterate 3 (refine wpList_plainQ rfl (fun K Q' hK => ?_); go_simp; refine hK _ _ ?_; clear hK K; try clear Q')
      refine wpList_plainQ rfl (fun K Q' hK => ?_); go_simp
      refine h16.k_alloc (fun w17 h17 => ?_)
      refine hK _ _ ?_; clear hK K; try clear Q'
      have c_0 := h17.cell 2 rfl 0 rfl
      have f_0 := h17.free 2 rfl 0
      have c_1 := h17.cell 2 rfl 1 rfl
      have f_1 := h17.free 2 rfl 1
      have c_2 := h17.cell 2 rfl 2 rfl
      have f_2 := h17.free 2 rfl 2
      have c_3 := h17.cell 2 rfl 3 rfl
      have f_3 := h17.free 2 rfl 3
      refine wpList_plainQ rfl (fun K Q' hK => ?_); go_simp
      clear c_0 f_0 c_1 f_1 c_2 f_2 c_3 f_3
      refine (((h17.set (i := 2) rfl 0 _).set (i := 2) rfl 1 _).set (i := 2) rfl 2 _).k_set 2 rfl (fun w18 h18 => ?_)
      refine hK _ _ ?_; clear hK K; try clear Q'
      iterate 1 (refine wpList_plainQ rfl (fun K Q' hK => ?_); go_simp; refine hK _ _ ?_; clear hK K; try clear Q')
      refine wpList_nil ?_
      show Code.wp _ _ _ _ _
      refine wp_seq ?_
      repeat (first | simp only [List.nil_append] at h18 | simp only [List.cons_append] at h18 | simp only [List.set_cons_zero] at h18 | simp only [List.set_cons_succ] at h18 | simp only [List.eraseIdx_zero] at h18 | simp only [List.tail_cons] at h18 | simp only [List.eraseIdx_cons_zero] at h18 | simp only [List.eraseIdx_cons_succ] at h18 | simp only [List.setIfInBounds_toArray] at h18)
      refine wp_region_lit ?_
      have c_1_0 := h18.cell 1 rfl 0 rfl
      have c_1_1 := h18.cell 1 rfl 1 rfl
      have c_1_2 := h18.cell 1 rfl 2 rfl
      have c_1_3 := h18.cell 1 rfl 3 rfl
      have c_2_0 := h18.cell 2 rfl 0 rfl
      have c_2_1 := h18.cell 2 rfl 1 rfl
      have c_2_2 := h18.cell 2 rfl 2 rfl
      have c_2_3 := h18.cell 2 rfl 3 rfl
      iterate 2 (refine wpList_plainQ rfl (fun K Q' hK => ?_); go_simp; refine hK _ _ ?_; clear hK K; try clear Q')
      clear c_1_0 c_1_1 c_1_2 c_1_3 c_2_0 c_2_1 c_2_2 c_2_3
      -- stops at: eff:call (Go.Op.call {'callee': (Go.Callee.value (Go.Operand.func 11)), 'args': [(Go.Operand.tmp 37), (Go.Operand.tmp 38)], 'argTypes': [35, 35]}) slot 39
      refine wpList_plainQ rfl (fun K Q' hK => ?_); go_simp
      refine (refmeld_ok H2 _ (PT.meld (.node x k .nil) (.node y j .nil)) (PT.pair n) _ _ h18.fits (by rw [PT.meld_size (show PT.one (.node x k .nil) from rfl) (show PT.one (.node y j .nil) from rfl), PT.pair_size]; have := hsz.out; omega) (hA'.mono hpB.le) hB').mono ?_
      rintro e wC ⟨rC, H3, rfl, hpC, hC⟩
      rw [hm3.out]
      have hC' := hC
      obtain ⟨a6, n6, c6, s6, x6, rfl, _, _⟩ := hC.form
      have h19 := h18.call0 hpC
      refine hK _ _ ?_; clear hK K; try clear Q'
      iterate 3 (refine wpList_plainQ rfl (fun K Q' hK => ?_); go_simp; refine hK _ _ ?_; clear hK K; try clear Q')
      refine wpList_plainQ rfl (fun K Q' hK => ?_); go_simp
      refine h19.k_alloc (fun w20 h20 => ?_)
      refine hK _ _ ?_; clear hK K; try clear Q'
      have c_0 := h20.cell 3 rfl 0 rfl
      have f_0 := h20.free 3 rfl 0
      have c_1 := h20.cell 3 rfl 1 rfl
      have f_1 := h20.free 3 rfl 1
      have c_2 := h20.cell 3 rfl 2 rfl
      have f_2 := h20.free 3 rfl 2
      have c_3 := h20.cell 3 rfl 3 rfl
      have f_3 := h20.free 3 rfl 3
      refine wpList_plainQ rfl (fun K Q' hK => ?_); go_simp
      clear c_0 f_0 c_1 f_1 c_2 f_2 c_3 f_3
      refine (((h20.set (i := 3) rfl 0 _).set (i := 3) rfl 1 _).set (i := 3) rfl 2 _).k_set 3 rfl (fun w21 h21 => ?_)
      refine hK _ _ ?_; clear hK K; try clear Q'
      iterate 1 (refine wpList_plainQ rfl (fun K Q' hK => ?_); go_simp; refine hK _ _ ?_; clear hK K; try clear Q')
      refine wpList_nil ?_
      show Code.wp _ _ _ _ _
      refine wp_seq ?_
      repeat (first | simp only [List.nil_append] at h21 | simp only [List.cons_append] at h21 | simp only [List.set_cons_zero] at h21 | simp only [List.set_cons_succ] at h21 | simp only [List.eraseIdx_zero] at h21 | simp only [List.tail_cons] at h21 | simp only [List.eraseIdx_cons_zero] at h21 | simp only [List.eraseIdx_cons_succ] at h21 | simp only [List.setIfInBounds_toArray] at h21)
      refine wp_region_lit ?_
      have c_3_0 := h21.cell 3 rfl 0 rfl
      have c_3_1 := h21.cell 3 rfl 1 rfl
      have c_3_2 := h21.cell 3 rfl 2 rfl
      have c_3_3 := h21.cell 3 rfl 3 rfl
      iterate 6 (refine wpList_plainQ rfl (fun K Q' hK => ?_); go_simp; refine hK _ _ ?_; clear hK K; try clear Q')
      clear c_3_0 c_3_1 c_3_2 c_3_3
      have c_0 := h21.cell 0 rfl 0 rfl
      have f_0 := h21.free 0 rfl 0
      have c_1 := h21.cell 0 rfl 1 rfl
      have f_1 := h21.free 0 rfl 1
      have c_2 := h21.cell 0 rfl 2 rfl
      have f_2 := h21.free 0 rfl 2
      have c_3 := h21.cell 0 rfl 3 rfl
      have f_3 := h21.free 0 rfl 3
      refine wpList_plainQ rfl (fun K Q' hK => ?_); go_simp
      clear c_0 f_0 c_1 f_1 c_2 f_2 c_3 f_3
      refine (((h21.set (i := 0) rfl 0 _).set (i := 0) rfl 1 _).set (i := 0) rfl 2 _).k_set 0 rfl (fun w22 h22 => ?_)
      refine hK _ _ ?_; clear hK K; try clear Q'
      iterate 1 (refine wpList_plainQ rfl (fun K Q' hK => ?_); go_simp; refine hK _ _ ?_; clear hK K; try clear Q')
      refine wpList_nil ?_
      show Code.wp _ _ _ _ _
      -- stops at: ret
      refine wp_ret ?_
      have r_0_0 := h22.cell 0 rfl 0 rfl
      have r_0_1 := h22.cell 0 rfl 1 rfl
      have r_0_2 := h22.cell 0 rfl 2 rfl
      have r_0_3 := h22.cell 0 rfl 3 rfl
      first | show bodyPost _ _ _ _ _ _ | (simp only [Exit.then]; show bodyPost _ _ _ _ _ _) | (simp only [Exit.inBlock]; show bodyPost _ _ _ _ _ _) | (simp only [Exit.inBlock, Exit.then]; show bodyPost _ _ _ _ _ _) | (simp only [Exit.noGoto, Exit.inBlock, Exit.then]; show bodyPost _ _ _ _ _ _)
      refine bodyPost_ret (v := ?_) ?_ rfl ?_
      rotate_left
      · simp only [results, Tryd.results27]; go_simp; with_reducible rfl
      clear r_0_0 r_0_1 r_0_2 r_0_3
      refine ⟨_, H3, ?_, h22.post, hC'⟩
      rw [show 2 * PT.pairN (.node x k (.node y j n)) = t2 by simp only [PT.pairN]; have := hm1.out; have := hm2.out; have := hm3.out; have := ht1.out; have := ht2.out; simp only [PT.meldN] at *; omega]

set_option maxRecDepth 100000 in
set_option maxHeartbeats 2000000 in
theorem refpop_ok (H : GH) (w : World) (t : PT) (v : Value) (hf : Fits w H) (hn : PT.size t < 900000) (ht : RefR H t v) :
    Calls Tryd.prog 13 #[v] w fun e w' => ∃ r H', e = .returned (.tuple #[r, .int .i64 (2 * PT.popN t : Nat)]) ∧ Post w H none w' H' 0 0 ∧ RefR H' (PT.pop t) r := by
  have hpre : Pre w H none 0 0 := Pre.none hf 0 0
  obtain ⟨k, a, n, c, sz, x, rfl, hk, hks, hp, hpn⟩ : ∃ (k : PT) (a : Option Addr) (n c sz : Nat) (x : El), v = refV x (.slice a n c) sz ∧ KsV H (.slice a n c) k ∧ PT.size k < 900000 ∧ PT.pop t = PT.pair k ∧ PT.popN t = PT.pairN k := by
    rcases ht with ⟨rfl, rfl⟩ | ⟨x, k, kv, kcs, sz, rfl, rfl, h1, h2, h3⟩
    · exact ⟨.nil, none, 0, 0, 0, (0, 0), rfl, ⟨[], SliceRep.nil _ _, rfl⟩, by simp [PT.size, PT.els], rfl, rfl⟩
    · obtain ⟨a, c, rfl, _, _⟩ := h2.nil_or
      exact ⟨k, a, _, c, sz, x, rfl, ⟨kcs, h2, h3⟩, by simp [PT.size, PT.els] at *; omega, rfl, rfl⟩
  rw [hp, hpn]
  obtain ⟨m2, hm2⟩ : ∃ m, Hid (2 * PT.pairN k = m) := ⟨_, show _ = _ from rfl⟩
  rw [hm2.out]
  go_enter Tryd.func13, Tryd.ntmps13
  have h0 := St.start hpre
  refine wp_seq ?_
  repeat (first | simp only [List.nil_append] at h0 | simp only [List.cons_append] at h0 | simp only [List.set_cons_zero] at h0 | simp only [List.set_cons_succ] at h0 | simp only [List.eraseIdx_zero] at h0 | simp only [List.tail_cons] at h0 | simp only [List.eraseIdx_cons_zero] at h0 | simp only [List.eraseIdx_cons_succ] at h0 | simp only [List.setIfInBounds_toArray] at h0)
  refine wp_region_lit ?_
  refine wpList_plainQ rfl (fun K Q' hK => ?_); go_simp
  refine h0.k_alloc (fun w1 h1 => ?_)
  refine hK _ _ ?_; clear hK K; try clear Q'
  refine wpList_plainQ rfl (fun K Q' hK => ?_); go_simp
  refine h1.k_alloc (fun w2 h2 => ?_)
  refine hK _ _ ?_; clear hK K; try clear Q'
  iterate 1 (refine wpList_plainQ rfl (fun K Q' hK => ?_); go_simp; refine hK _ _ ?_; clear hK K; try clear Q')
  refine wpList_nil ?_
  show Code.wp _ _ _ _ _
  refine wp_seq ?_
  repeat (first | simp only [List.nil_append] at h2 | simp only [List.cons_append] at h2 | simp only [List.set_cons_zero] at h2 | simp only [List.set_cons_succ] at h2 | simp only [List.eraseIdx_zero] at h2 | simp only [List.tail_cons] at h2 | simp only [List.eraseIdx_cons_zero] at h2 | simp only [List.eraseIdx_cons_succ] at h2 | simp only [List.setIfInBounds_toArray] at h2)
  refine wp_region_lit ?_
  have c_0_2 := h2.cell 0 rfl 2 rfl
  iterate 2 (refine wpList_plainQ rfl (fun K Q' hK => ?_); go_simp; refine hK _ _ ?_; clear hK K; try clear Q')
  clear c_0_2
  -- stops at: eff:call (Go.Op.call {'callee': (Go.Callee.value (Go.Operand.func 27)), 'args': [(Go.Operand.tmp 5)], 'argTypes': [33]}) slot 6
  refine wpList_plainQ rfl (fun K Q' hK => ?_); go_simp
  refine (refpair_ok k H _ _ h2.fits hks hk).mono ?_
  rintro e wB ⟨rB, H2, rfl, hpB, hB⟩
  rw [hm2.out]
  have hB' := hB
  obtain ⟨a5, n5, c5, s5, x5, rfl, _, _⟩ := hB.form
  have h3 := h2.call0 hpB
  refine hK _ _ ?_; clear hK K; try clear Q'
  iterate 2 (refine wpList_plainQ rfl (fun K Q' hK => ?_); go_simp; refine hK _ _ ?_; clear hK K; try clear Q')
  have c_0 := h3.cell 1 rfl 0 rfl
  have f_0 := h3.free 1 rfl 0
  have c_1 := h3.cell 1 rfl 1 rfl
  have f_1 := h3.free 1 rfl 1
  have c_2 := h3.cell 1 rfl 2 rfl
  have f_2 := h3.free 1 rfl 2
  have c_3 := h3.cell 1 rfl 3 rfl
  have f_3 := h3.free 1 rfl 3
  refine wpList_plainQ rfl (fun K Q' hK => ?_); go_simp
  clear c_0 f_0 c_1 f_1 c_2 f_2 c_3 f_3
  refine (((h3.set (i := 1) rfl 0 _).set (i := 1) rfl 1 _).set (i := 1) rfl 2 _).k_set 1 rfl (fun w4 h4 => ?_)
  refine hK _ _ ?_; clear hK K; try clear Q'
  iterate 1 (refine wpList_plainQ rfl (fun K Q' hK => ?_); go_simp; refine hK _ _ ?_; clear hK K; try clear Q')
  refine wpList_nil ?_
  show Code.wp _ _ _ _ _
  -- stops at: ret
  refine wp_ret ?_
  have r_1_0 := h4.cell 1 rfl 0 rfl
  have r_1_1 := h4.cell 1 rfl 1 rfl
  have r_1_2 := h4.cell 1 rfl 2 rfl
  have r_1_3 := h4.cell 1 rfl 3 rfl
  first | show bodyPost _ _ _ _ _ _ | (simp only [Exit.then]; show bodyPost _ _ _ _ _ _) | (simp only [Exit.inBlock]; show bodyPost _ _ _ _ _ _) | (simp only [Exit.inBlock, Exit.then]; show bodyPost _ _ _ _ _ _) | (simp only [Exit.noGoto, Exit.inBlock, Exit.then]; show bodyPost _ _ _ _ _ _)
  refine bodyPost_ret (v := ?_) ?_ rfl ?_
  rotate_left
  · simp only [results, Tryd.results13]; go_simp; with_reducible rfl
  clear r_1_0 r_1_1 r_1_2 r_1_3
  exact ⟨_, H2, rfl, h4.post, hB'⟩

/-! ### Texts -/
theorem sh_toL (t : PT) : PT.sh t = (PT.toL t).map fun p => PT.text (.node p.1 p.2 .nil) := by
  induction t with
  | nil => rfl
  | node x k n _ ih => rw [PT.sh, PT.toL, List.map_cons, ih]; rfl
theorem join_flat (x : List UInt8) (l : List (List UInt8)) : Lib.join (x :: l) [32] = x ++ l.flatMap (fun s => 32 :: s) := by
  rw [Lib.join_cons]
  congr 1
theorem flat_take_le {α β : Type} (f : α → List β) (l : List α) (i : Nat) : ((l.take i).flatMap f).length ≤ (l.flatMap f).length := by
  have h : (l.take i ++ l.drop i).flatMap f = (l.take i).flatMap f ++ (l.drop i).flatMap f := List.flatMap_append
  rw [List.take_append_drop] at h
  rw [h]; simp
theorem shSum_flat (l : List (List UInt8)) : (l.flatMap (fun s => (32 : UInt8) :: s)).length = PT.shSum l := by
  induction l with
  | nil => rfl
  | cons x l ih => rw [PT.shSum_cons, List.flatMap_cons, List.length_append, ih, List.length_cons]
theorem toL_sub {k : PT} {x : El} {j : PT} (h : (x, j) ∈ PT.toL k) : (∀ a ∈ PT.els (.node x j .nil), a ∈ PT.els k) ∧ PT.size (.node x j .nil) ≤ PT.size k := by
  induction k with
  | nil => simp [PT.toL] at h
  | node y l n _ ih =>
    rcases List.mem_cons.1 h with e | h
    · simp only [Prod.mk.injEq] at e
      obtain ⟨rfl, rfl⟩ := e
      refine ⟨fun a ha => ?_, ?_⟩
      · simp [PT.els] at *; rcases ha with h | h <;> simp [h]
      · simp [PT.size, PT.els]
    · obtain ⟨h1, h2⟩ := ih h
      refine ⟨fun a ha => ?_, ?_⟩
      · simp only [PT.els, List.mem_cons, List.mem_append]; exact .inr (.inr (h1 a ha))
      · simp only [PT.size, PT.els, List.length_cons, List.length_append] at *; omega
set_option maxRecDepth 100000 in
set_option maxHeartbeats 8000000 in
theorem refshow_all (t : PT) : ∀ (x : El) (k : PT), (x, k) ∈ PT.toL t → ∀ (H : GH) (w : World) (v : Value), Fits w H → (∀ a ∈ PT.els (.node x k .nil), El.fits a) → PT.size (.node x k .nil) < 900000 → RefR H (.node x k .nil) v →
    Calls Tryd.prog 19 #[v] w fun e w' => e = .returned (.string ⟨(PT.text (.node x k .nil)).toArray⟩) ∧ Keep none w w' := by
  induction t with
  | nil => intro x k h; simp [PT.toL] at h
  | node y l n ih1 ih2 =>
    intro x k hm H w v hf hfit hn hv
    rcases List.mem_cons.1 hm with e | hm
    · simp only [Prod.mk.injEq] at e
      obtain ⟨rfl, rfl⟩ := e
      clear ih2 hm
      rcases hv with ⟨e, _⟩ | ⟨x', k', kv, kcs, sz, e, rfl, hsz, hk1, hk2⟩
      · cases e
      simp only [PT.node.injEq, and_true] at e
      obtain ⟨rfl, rfl⟩ := e
      have hpre : Pre w H none 0 0 := Pre.none hf 0 0
      have hx := hfit x (by simp [PT.els])
      have hfk : ∀ a ∈ PT.els k, El.fits a := fun a ha => hfit a (by simp [PT.els, ha])
      have hszk : PT.size k + 1 < 900000 := by simp [PT.size, PT.els] at *; omega
      have hle := PT.sh_le k hfk
      rw [← shSum_flat] at hle
      have htl := El.text_len hx
      have d0 : ((sz : Int) == 0) = false := beq_eq_false_iff_ne.2 (by have := hsz.out; omega)
      have hks : KsV H kv k := ⟨kcs, hk1, hk2⟩
      obtain ⟨aK, cK, rfl, _, _⟩ := hks.form
      obtain ⟨nk, hnk⟩ : ∃ m, Hid (k.len = m) := ⟨_, show _ = _ from rfl⟩
      have hnkl : nk < 900000 := by have := hnk.out; have := len_le_size k; unfold PT.size at hszk; omega
      have hktl : Hid ((PT.toL k).length = nk) := by rw [PT.toL_length]; exact hnk
      have hshl : Hid ((PT.sh k).length = nk) := by rw [PT.sh_length]; exact hnk
      obtain ⟨tx, htx⟩ : ∃ s, Hid (El.text x = s) := ⟨El.text x, show _ = _ from rfl⟩
      obtain ⟨fk, hfke⟩ : ∃ s, Hid (((PT.sh k).flatMap fun s => 32 :: s) = s) := ⟨_, show _ = _ from rfl⟩
      have etext : Hid (PT.text (.node x k .nil) = 40 :: (tx ++ fk ++ [41])) := by show _ = _; rw [← htx.out, ← hfke.out, PT.text, join_flat]
      have htl2 : tx.length ≤ 43 := by rw [← htx.out]; exact htl
      have hfkl : fk.length ≤ 54000000 := by rw [← hfke.out]; omega
      have l1 : ¬ 9223372036854775807 < 1 + tx.length := by omega
      rw [hnk.out] at hks hk1 ⊢
      rw [etext.out]
      clear htl hle hfit hn
      go_enter Tryd.func19, Tryd.ntmps19
      have h0 := St.start hpre
      refine wp_seq ?_
      repeat (first | simp only [List.nil_append] at h0 | simp only [List.cons_append] at h0 | simp only [List.set_cons_zero] at h0 | simp only [List.set_cons_succ] at h0 | simp only [List.eraseIdx_zero] at h0 | simp only [List.tail_cons] at h0 | simp only [List.eraseIdx_cons_zero] at h0 | simp only [List.eraseIdx_cons_succ] at h0 | simp only [List.setIfInBounds_toArray] at h0)
      refine wp_region_lit ?_
      refine wpList_plainQ rfl (fun K Q' hK => ?_); go_simp
      refine h0.k_alloc (fun w1 h1 => ?_)
      refine hK _ _ ?_; clear hK K; try clear Q'
      iterate 1 (refine wpList_plainQ rfl (fun K Q' hK => ?_); go_simp; refine hK _ _ ?_; clear hK K; try clear Q')
      refine wpList_nil ?_
      show Code.wp _ _ _ _ _
      refine wp_seq ?_
      refine wp_seq ?_
      repeat (first | simp only [List.nil_append] at h1 | simp only [List.cons_append] at h1 | simp only [List.set_cons_zero] at h1 | simp only [List.set_cons_succ] at h1 | simp only [List.eraseIdx_zero] at h1 | simp only [List.tail_cons] at h1 | simp only [List.eraseIdx_cons_zero] at h1 | simp only [List.eraseIdx_cons_succ] at h1 | simp only [List.setIfInBounds_toArray] at h1)
      refine wp_region_lit ?_
      have c_0_3 := h1.cell 0 rfl 3 rfl
      iterate 3 (refine wpList_plainQ rfl (fun K Q' hK => ?_); go_simp; refine hK _ _ ?_; clear hK K; try clear Q')
      clear c_0_3
      refine wpList_nil ?_
      show Code.wp _ _ _ _ _
      -- stops at: cond
      refine wp_cond_false (rfl) ?_
      refine wp_skip ?_
      show Code.wp _ _ _ _ _
      refine wp_seq ?_
      refine wp_region_lit ?_
      have c_0_0 := h1.cell 0 rfl 0 rfl
      have c_0_1 := h1.cell 0 rfl 1 rfl
      iterate 2 (refine wpList_plainQ rfl (fun K Q' hK => ?_); go_simp; refine hK _ _ ?_; clear hK K; try clear Q')
      clear c_0_0 c_0_1
      -- stops at: eff:call (Go.Op.call {'callee': (Go.Callee.value (Go.Operand.func 32)), 'args': [(Go.Operand.tmp 9)], 'argTypes': [32]}) slot 10
      refine wpList_plainQ rfl (fun K Q' hK => ?_); go_simp
      refine (rtext_ok H _ x hx h1.fits).mono ?_
      rintro e wA ⟨rfl, hkA⟩
      rw [htx.out]
      have h2 := h1.callk hkA
      refine hK _ _ ?_; clear hK K; try clear Q'
      iterate 2 (refine wpList_plainQ rfl (fun K Q' hK => ?_); go_simp; refine hK _ _ ?_; clear hK K; try clear Q')
      refine wpList_nil ?_
      show Code.wp _ _ _ _ _
      refine wp_seq ?_
      refine wp_seq ?_
      repeat (first | simp only [List.nil_append] at h2 | simp only [List.cons_append] at h2 | simp only [List.set_cons_zero] at h2 | simp only [List.set_cons_succ] at h2 | simp only [List.eraseIdx_zero] at h2 | simp only [List.tail_cons] at h2 | simp only [List.eraseIdx_cons_zero] at h2 | simp only [List.eraseIdx_cons_succ] at h2 | simp only [List.setIfInBounds_toArray] at h2)
      refine wp_region_lit ?_
      iterate 1 (refine wpList_plainQ rfl (fun K Q' hK => ?_); go_simp; refine hK _ _ ?_; clear hK K; try clear Q')
      refine wpList_nil ?_
      show Code.wp _ _ _ _ _
      refine wp_block ?_
      -- stops at: loop
      go_loopw [3, 4] (fun v3 v4 wr => ∃ (i : Nat) (q : List UInt8), i ≤ nk ∧ v4 = .int .i64 i ∧ v3 = .string ⟨q.toArray⟩ ∧ Hid (q = 40 :: (tx ++ ((PT.sh k).take i).flatMap fun y => 32 :: y)) ∧ St w H none 0 0 wr H [(w.heap.size, .cells #[.int .i64 x.1, .int .i64 x.2, .slice aK nk cK, .int .i64 (sz : Int)] 35)] []) (fun _ v4 _ => nk - (intOf v4).toNat)
      case atStart => exact ⟨0, 40 :: tx, by omega, rfl, rfl, by show _ = _; simp, h2⟩
      case round =>
        obtain ⟨i, q, hi, rfl, rfl, hq1, hs⟩ := hrel
        have hql : q.length ≤ 55000000 := by
          have h5 := flat_take_le (fun y : List UInt8 => (32 : UInt8) :: y) (PT.sh k) i
          rw [hq1.out]
          rw [hfke.out] at h5
          simp only [List.length_cons, List.length_append]
          omega
        by_cases hlt : i < nk
        · obtain ⟨⟨y, j⟩, hy⟩ : ∃ y, (PT.toL k)[i]? = some y := ⟨(PT.toL k)[i]'(by have := hktl.out; omega), by simp⟩
          have hyk := List.mem_of_getElem? hy
          obtain ⟨hy1, hy2⟩ := toL_sub hyk
          have hsh : (PT.sh k)[i]? = some (PT.text (.node y j .nil)) := by rw [sh_toL, List.getElem?_map, hy]; rfl
          obtain ⟨ty, hty⟩ : ∃ s, Hid (PT.text (.node y j .nil) = s) := ⟨_, show _ = _ from rfl⟩
          obtain ⟨b9, o9, cap9, e9⟩ : ∃ b o c, (Value.slice aK nk cK) = .slice (some ⟨b, o, none⟩) nk c := by
            obtain ⟨b, o, c, e, _⟩ := hk1.ne_nil (by omega)
            exact ⟨b, o, c, e⟩
          simp only [Value.slice.injEq, true_and] at e9
          obtain ⟨rfl, rfl⟩ := e9
          obtain ⟨aJ, cJ, sJ, hc, hrJ⟩ := hks.at i hy
          have htyl : ty.length ≤ 54000000 := by
            have h5 := flat_take_le (fun y : List UInt8 => (32 : UInt8) :: y) (PT.sh k) (i + 1)
            rw [hfke.out, List.take_add_one, hsh, hty.out] at h5
            simp only [List.flatMap_append, Option.toList, List.flatMap_cons, List.flatMap_nil, List.length_append, List.length_cons, List.append_nil] at h5
            omega
          have l2 : ¬ 9223372036854775807 < 1 + ty.length := by omega
          have l3 : ¬ 9223372036854775807 < q.length + (1 + ty.length) := by omega
          have e8 : IntKind.i64.wrap ((i : Int) + 1) = (i : Int) + 1 := IntWalk.i64_in _ (by omega)
          have hrec := ih1 y j hyk H
          rw [hty.out] at hrec
          refine wp_seq ?_
          refine wp_seq ?_
          repeat (first | simp only [List.nil_append] at hs | simp only [List.cons_append] at hs | simp only [List.set_cons_zero] at hs | simp only [List.set_cons_succ] at hs | simp only [List.eraseIdx_zero] at hs | simp only [List.tail_cons] at hs | simp only [List.eraseIdx_cons_zero] at hs | simp only [List.eraseIdx_cons_succ] at hs | simp only [List.setIfInBounds_toArray] at hs)
          refine wp_region_lit ?_
          have c_0_2 := hs.cell 0 rfl 2 rfl
          iterate 5 (refine wpList_plainQ rfl (fun K Q' hK => ?_); go_simp; refine hK _ _ ?_; clear hK K; try clear Q')
          clear c_0_2
          refine wpList_nil ?_
          show Code.wp _ _ _ _ _
          -- stops at: cond
          refine wp_cond_true (rfl) ?_
          refine wp_skip ?_
          show Code.wp _ _ _ _ _
          refine wp_seq ?_
          refine wp_block ?_
          refine wp_region_lit ?_
          have c_0_2 := hs.cell 0 rfl 2 rfl
          iterate 5 (refine wpList_plainQ rfl (fun K Q' hK => ?_); go_simp; refine hK _ _ ?_; clear hK K; try clear Q')
          clear c_0_2
          -- stops at: load (Go.Op.load 35 (Go.Operand.tmp 23)) slot 24
          have ce := hc.out _ hs.fits
          obtain ⟨q0, q1, q2, q3⟩ := ce
          iterate 1 (refine wpList_plainQ rfl (fun K Q' hK => ?_); go_simp; refine hK _ _ ?_; clear hK K; try clear Q')
          clear q0 q1 q2 q3
          -- stops at: eff:call (Go.Op.call {'callee': (Go.Callee.value (Go.Operand.func 19)), 'args': [(Go.Operand.tmp 24)], 'argTypes': [35]}) slot 25
          refine wpList_plainQ rfl (fun K Q' hK => ?_); go_simp
          refine (hrec _ _ hs.fits (fun a ha => hfk a (hy1 a ha)) (by omega) hrJ).mono ?_
          rintro e wC ⟨rfl, hkC⟩
          have h3 := hs.callk hkC
          refine hK _ _ ?_; clear hK K; try clear Q'
          iterate 3 (refine wpList_plainQ rfl (fun K Q' hK => ?_); go_simp; refine hK _ _ ?_; clear hK K; try clear Q')
          refine wpList_nil ?_
          show Code.wp _ _ _ _ _
          repeat (first | simp only [List.nil_append] at h3 | simp only [List.cons_append] at h3 | simp only [List.set_cons_zero] at h3 | simp only [List.set_cons_succ] at h3 | simp only [List.eraseIdx_zero] at h3 | simp only [List.tail_cons] at h3 | simp only [List.eraseIdx_cons_zero] at h3 | simp only [List.eraseIdx_cons_succ] at h3 | simp only [List.setIfInBounds_toArray] at h3)
          refine wp_region_lit ?_
          iterate 3 (refine wpList_plainQ rfl (fun K Q' hK => ?_); go_simp; refine hK _ _ ?_; clear hK K; try clear Q')
          refine wpList_nil ?_
          -- stops at: end ('roundend',)
          show _ ∧ _
          go_roundw
          case rel =>
            refine ⟨i + 1, q ++ 32 :: ty, by omega, by simp, congrArg Value.string (ByteArray.ext (by simp)), ?_, h3⟩
            show _ = _
            rw [List.take_add_one, hsh, hq1.out, ← hty.out]
            simp
          case measure => simp [intOf]; omega
        · obtain rfl : i = nk := by omega
          have l2 : ¬ 9223372036854775807 < q.length + 1 := by omega
          have hq2 : Hid (40 :: (tx ++ fk ++ [41]) = q ++ [41]) := by
            show _ = _
            rw [hq1.out, List.take_of_length_le (by have := hshl.out; omega), hfke.out]
            simp
          refine wp_seq ?_
          refine wp_seq ?_
          repeat (first | simp only [List.nil_append] at hs | simp only [List.cons_append] at hs | simp only [List.set_cons_zero] at hs | simp only [List.set_cons_succ] at hs | simp only [List.eraseIdx_zero] at hs | simp only [List.tail_cons] at hs | simp only [List.eraseIdx_cons_zero] at hs | simp only [List.eraseIdx_cons_succ] at hs | simp only [List.setIfInBounds_toArray] at hs)
          refine wp_region_lit ?_
          have c_0_2 := hs.cell 0 rfl 2 rfl
          iterate 5 (refine wpList_plainQ rfl (fun K Q' hK => ?_); go_simp; refine hK _ _ ?_; clear hK K; try clear Q')
          clear c_0_2
          refine wpList_nil ?_
          show Code.wp _ _ _ _ _
          -- stops at: cond
          refine wp_cond_false (rfl) ?_
          refine wp_exit ?_
          show Code.wp _ _ _ _ _
          refine wp_seq ?_
          refine wp_region_lit ?_
          iterate 3 (refine wpList_plainQ rfl (fun K Q' hK => ?_); go_simp; refine hK _ _ ?_; clear hK K; try clear Q')
          refine wpList_nil ?_
          show Code.wp _ _ _ _ _
          -- stops at: ret
          refine wp_ret ?_
          go_ret
          refine ⟨?_, hs.post.keep⟩
          rw [hq2.out]
          show Ending.returned (.string ((⟨q.toArray⟩ : ByteArray) ++ ⟨#[41]⟩)) = _
          rw [show ((⟨q.toArray⟩ : ByteArray) ++ ⟨#[41]⟩) = ⟨(q ++ [41]).toArray⟩ from ByteArray.ext (by simp)]
    · exact ih2 x k hm H w v hf hfit hn hv
end Go.Proofs.YtnimanhoegbicaaDoor
