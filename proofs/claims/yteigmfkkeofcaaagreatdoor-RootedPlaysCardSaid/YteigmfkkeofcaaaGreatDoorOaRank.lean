/-
Trees with ranks in memory: making, linking, looking.
-/
import Derived.Test.YteigmfkkeofcaaaGreatDoorMcRank
import Derived.Test.YteigmfkkeofcaaaGreatDoorNbRef
import Derived.Test.YteigmfkkeofcaaaGreatDoorNaElem
import Derived.Test.YteigmfkkeofcaaaGreatDoorGdOrdS
namespace Go.Proofs.YteigmfkkeofcaaaGreatDoor
open Go Go.RowKit
set_option linter.unusedVariables false

/-- What is in order, as cells. -/
abbrev tC (x : El) : List Value := [.int .i64 x.1, .int .i64 x.2]
theorem tC_length (x : El) : (tC x).length = 2 := rfl
/-- A tree in memory. -/
abbrev treeO (r : Nat) (x : El) (bv kv : Value) (sz : Nat) : Obj := .cells #[.int .i64 (r : Int), .int .i64 x.1, .int .i64 x.2, bv, kv, .int .i64 (sz : Int)] 135
/-- A settled slice that is nil where it has nothing. -/
def SlR (H : GH) (size : Nat) (v : Value) (n : Nat) (xs : List Value) : Prop := SliceRep H size v n xs ∧ (n = 0 → v = .slice none 0 0)
theorem SlR.mono {H H' : GH} {size n : Nat} {v : Value} {xs : List Value} (h : SlR H size v n xs) (hl : H.le H') : SlR H' size v n xs := ⟨h.1.mono hl, h.2⟩
theorem SlR.nil (H : GH) (size : Nat) : SlR H size (.slice none 0 0) 0 [] := ⟨SliceRep.nil _ _, fun _ => rfl⟩
/-- Trees side by side, and where they lie. -/
def TreesR (H : GH) : RT El → List (Option Addr) → Prop
  | .nil, ps => ps = []
  | .node x b k n, ps => ∃ (blk : Nat) (bv kv : Value) (r sz : Nat) (ks rest : List (Option Addr)), ps = some ⟨blk, 0, none⟩ :: rest ∧ Hid (r = k.len) ∧ Hid (sz = 1 + b.length + k.els.length) ∧ H blk = some (treeO r x bv kv sz) ∧
      SlR H 2 bv b.length (b.flatMap tC) ∧ SlR H 1 kv ks.length (ks.map .pointer) ∧ (∀ y ∈ x :: b, True) ∧ TreesR H k ks ∧ TreesR H n rest
theorem TreesR.mono {H H' : GH} {t : RT El} {ps : List (Option Addr)} (h : TreesR H t ps) (hl : H.le H') : TreesR H' t ps := by
  induction t generalizing ps with
  | nil => exact h
  | node x b k n ih1 ih2 =>
    obtain ⟨blk, bv, kv, r, sz, ks, rest, h1, h2, h3, h4, h5, h6, h7, h8, h9⟩ := h
    exact ⟨blk, bv, kv, r, sz, ks, rest, h1, h2, h3, hl _ _ h4, h5.mono hl, h6.mono hl, fun y hy => trivial, ih1 h8, ih2 h9⟩
theorem TreesR.length {H : GH} {t : RT El} {ps : List (Option Addr)} (h : TreesR H t ps) : ps.length = t.len := by
  induction t generalizing ps with
  | nil => obtain rfl : ps = [] := h; rfl
  | node x b k n ih1 ih2 =>
    obtain ⟨blk, bv, kv, r, sz, ks, rest, rfl, h2, h3, h4, h5, h6, h7, h8, h9⟩ := h
    simp [RT.len, ih2 h9]
/-- A tree and where it lies. -/
def TrR (H : GH) (p : Option Addr) (t : Tr El) : Prop := TreesR H (.node t.x t.b t.k .nil) [p]
theorem TrR.mono {H H' : GH} {t : Tr El} {p : Option Addr} (h : TrR H p t) (hl : H.le H') : TrR H' p t := TreesR.mono h hl
theorem TrR.open {H : GH} {t : Tr El} {p : Option Addr} (h : TrR H p t) : ∃ (blk : Nat) (aB : Option Addr) (cB : Nat) (aK : Option Addr) (cK : Nat) (r sz : Nat) (ks : List (Option Addr)), p = some ⟨blk, 0, none⟩ ∧ Hid (r = t.rank) ∧ Hid (sz = t.size) ∧
    H blk = some (treeO r t.x (.slice aB t.b.length cB) (.slice aK ks.length cK) sz) ∧ SlR H 2 (.slice aB t.b.length cB) t.b.length (t.b.flatMap tC) ∧ SlR H 1 (.slice aK ks.length cK) ks.length (ks.map .pointer) ∧ (∀ y ∈ t.x :: t.b, True) ∧ TreesR H t.k ks := by
  obtain ⟨blk, bv, kv, r, sz, ks, rest, h1, h2, h3, h4, h5, h6, h7, h8, h9⟩ := h
  obtain ⟨aB, cB, rfl, _, _⟩ := h5.1.nil_or
  obtain ⟨aK, cK, rfl, _, _⟩ := h6.1.nil_or
  simp only [List.cons.injEq] at h1
  refine ⟨blk, aB, cB, aK, cK, r, sz, ks, h1.1, h2, ?_, h4, h5, h6, h7, h8⟩
  have := h3.out
  show sz = t.els.length
  simp [Tr.els]; omega
theorem TreesR.push {H : GH} {t : Tr El} {p : Option Addr} {n : RT El} {ps : List (Option Addr)} (h : TrR H p t) (hn : TreesR H n ps) : TreesR H (.push t n) (p :: ps) := by
  obtain ⟨blk, bv, kv, r, sz, ks, rest, h1, h2, h3, h4, h5, h6, h7, h8, h9⟩ := h
  simp only [List.cons.injEq] at h1
  exact ⟨blk, bv, kv, r, sz, ks, ps, by rw [h1.1], h2, h3, h4, h5, h6, h7, h8, hn⟩
/-- Trees and where they lie, one by one. -/
def RowR (H : GH) (ps : List (Option Addr)) (ts : List (Tr El)) : Prop := ps.length = ts.length ∧ ∀ (i : Nat) (p : Option Addr) (t : Tr El), ps[i]? = some p → ts[i]? = some t → TrR H p t
theorem RowR.mono {H H' : GH} {ps : List (Option Addr)} {ts : List (Tr El)} (h : RowR H ps ts) (hl : H.le H') : RowR H' ps ts := ⟨h.1, fun i p t e1 e2 => (h.2 i p t e1 e2).mono hl⟩
theorem RowR.nil (H : GH) : RowR H [] [] := ⟨rfl, by simp⟩
theorem RowR.cons {H : GH} {p : Option Addr} {t : Tr El} {ps : List (Option Addr)} {ts : List (Tr El)} (h : TrR H p t) (k : RowR H ps ts) : RowR H (p :: ps) (t :: ts) := by
  refine ⟨by simp [k.1], fun i p' t' e1 e2 => ?_⟩
  cases i with
  | zero => simp at e1 e2; subst e1 e2; exact h
  | succ i => simp at e1 e2; exact k.2 i p' t' e1 e2
theorem RowR.uncons {H : GH} {t : Tr El} {ps : List (Option Addr)} {ts : List (Tr El)} (h : RowR H ps (t :: ts)) : ∃ p rest, ps = p :: rest ∧ TrR H p t ∧ RowR H rest ts := by
  cases ps with
  | nil => have := h.1; simp at this
  | cons p rest => exact ⟨p, rest, rfl, h.2 0 p t rfl rfl, by have := h.1; simpa using this, fun i p' t' e1 e2 => h.2 (i + 1) p' t' (by simpa using e1) (by simpa using e2)⟩
theorem RowR.nil_of {H : GH} {ps : List (Option Addr)} (h : RowR H ps []) : ps = [] := List.eq_nil_of_length_eq_zero h.1
theorem TreesR.row {H : GH} {t : RT El} {ps : List (Option Addr)} (h : TreesR H t ps) : RowR H ps t.toL := by
  induction t generalizing ps with
  | nil => obtain rfl : ps = [] := h; exact RowR.nil H
  | node x b k n ih1 ih2 =>
    obtain ⟨blk, bv, kv, r, sz, ks, rest, rfl, h2, h3, h4, h5, h6, h7, h8, h9⟩ := h
    exact RowR.cons ⟨blk, bv, kv, r, sz, ks, [], rfl, h2, h3, h4, h5, h6, h7, h8, rfl⟩ (ih2 h9)
theorem RowR.reverse {H : GH} {ps : List (Option Addr)} {ts : List (Tr El)} (h : RowR H ps ts) : RowR H ps.reverse ts.reverse := by
  refine ⟨by simp [h.1], fun i p t e1 e2 => ?_⟩
  have hi : i < ps.length := by simpa using (List.getElem?_eq_some_iff.1 e1).1
  rw [List.getElem?_reverse hi] at e1
  rw [List.getElem?_reverse (by rw [← h.1]; exact hi), ← h.1] at e2
  exact h.2 _ p t e1 e2
theorem RowR.erase {H : GH} {ps : List (Option Addr)} {ts : List (Tr El)} (h : RowR H ps ts) (k : Nat) : RowR H (ps.eraseIdx k) (ts.eraseIdx k) := by
  refine ⟨by simp [List.length_eraseIdx, h.1], fun i p t e1 e2 => ?_⟩
  rw [List.getElem?_eraseIdx] at e1 e2
  split at e1
  · rename_i hlt
    rw [if_pos hlt] at e2
    exact h.2 _ p t e1 e2
  · rename_i hlt
    rw [if_neg hlt] at e2
    exact h.2 _ p t e1 e2
/-- How many things the first ones have. -/
def sumSz (ts : List (Tr El)) : Nat := Rw.size ts
theorem sumSz_take (ts : List (Tr El)) (i : Nat) (t : Tr El) (h : ts[i]? = some t) : Rw.size (ts.take (i + 1)) = Rw.size (ts.take i) + t.size := by
  rw [List.take_add_one, h, Rw.size_append]
  simp [Rw.size, Rw.els, Tr.size]
theorem size_take_le (ts : List (Tr El)) (i : Nat) : Rw.size (ts.take i) ≤ Rw.size ts := by
  have := Rw.size_append (ts.take i) (ts.drop i)
  rw [List.take_append_drop] at this
  omega
theorem size_mem {ts : List (Tr El)} {i : Nat} {t : Tr El} (h : ts[i]? = some t) : t.size ≤ Rw.size ts := by
  have := sumSz_take ts i t h
  have := size_take_le ts (i + 1)
  omega

theorem St.settled {w0 w : World} {H0 H : GH} {m : Option Nat} {c d : Int} {L : List (Nat × Obj)} {R : List Row} (h : St w0 H0 m c d w H L R) (i : Nat) {b : Nat} {o : Obj} (hi : L[i]? = some (b, o)) : ∃ H', St w0 H0 m c d w H' (L.eraseIdx i) R ∧ H.le H' ∧ H' b = some o :=
  ⟨_, h.settle i hi, GH.le_add _ _ (h.own _ (List.mem_of_getElem? hi)).2.2.1, GH.add_self _ _ _⟩
/-- A row of trees is a row of pointers. -/
theorem infoTr : ElemInfo Tryz.prog 107 94 (.pointer none) 1 8 :=
  ⟨Tryz.underlying107, info_parts (by kernel_rfl), rfl, by decide⟩

set_option maxRecDepth 100000 in
set_option maxHeartbeats 2000000 in
theorem tmade_ok (H : GH) (w : World) (m : Option Nat) (c d : Int) (x : El) (b : List El) (k : RT El) (ks : List (Option Addr)) (bv kv : Value) (r : Nat) (hr : Hid (r = k.len)) (hpre : Pre w H m c d) (hn : 1 + b.length + k.els.length < 1000000)
    (hb : SlR H 2 bv b.length (b.flatMap tC)) (hk : SlR H 1 kv ks.length (ks.map .pointer)) (hx : ∀ y ∈ x :: b, True) (ht : TreesR H k ks) :
    Calls Tryz.prog 78 #[mV m, .agg #[.int .i64 (r : Int), .int .i64 x.1, .int .i64 x.2, bv, kv, .int .i64 0]] w fun e w' => ∃ p H', e = .returned (.pointer p) ∧ Post w H m w' H' c (d + 1) ∧ TrR H' p ⟨x, b, k⟩ := by
  obtain ⟨aB, cB, rfl, _, _⟩ := hb.1.nil_or
  obtain ⟨aK, cK, rfl, _, _⟩ := hk.1.nil_or
  have hrow := ht.row
  have hkl : Hid (ks.length = k.toL.length) := hrow.1
  have hsz : Hid (Rw.size k.toL = k.els.length) := by show Rw.size k.toL = _; unfold Rw.size; rw [Rw.toL_els]
  have hsl := Rw.length_le k.toL
  have hkb : ks.length < 1000000 := by have := hkl.out; have := hsz.out; omega
  have e1 : IntKind.i64.wrap (1 + (b.length : Int)) = ((1 + b.length : Nat) : Int) := by rw [IntWalk.i64_in _ (by omega)]; omega
  go_enter Tryz.func78, Tryz.ntmps78
  have h0 := St.start hpre
  refine wp_seq ?_
  refine wp_region_lit ?_
  refine wpList_plainQ rfl (fun K Q' hK => ?_); go_simp
  refine h0.k_alloc (fun w1 h1 => ?_)
  refine hK _ _ ?_; clear hK K; try clear Q'
  iterate 1 (refine wpList_plainQ rfl (fun K Q' hK => ?_); go_simp; refine hK _ _ ?_; clear hK K; try clear Q')
  refine wpList_nil ?_
  show Code.wp _ _ _ _ _
  refine wp_seq ?_
  refine wp_region_lit ?_
  iterate 1 (refine wpList_plainQ rfl (fun K Q' hK => ?_); go_simp; refine hK _ _ ?_; clear hK K; try clear Q')
  -- stops at: eff:call (Go.Op.call {'callee': (Go.Callee.value (Go.Operand.func 41)), 'args': [(Go.Operand.tmp 7), (Go.Operand.const (Go.Value.int Go.IntKind.i64 1))], 'argTypes': [25 slot 8
  refine wpList_plainQ rfl (fun K Q' hK => ?_); go_simp
  refine (made_ok H _ m _ _ h1.pre).mono ?_
  rintro e wA ⟨⟨v, rfl⟩, hpA⟩
  have h2 := h1.call hpA
  refine hK _ _ ?_; clear hK K; try clear Q'
  refine wpList_nil ?_
  show Code.wp _ _ _ _ _
  refine wp_seq ?_
  refine wp_region_lit ?_
  have c_0_3 := h2.cell 0 rfl 3 rfl
  iterate 5 (refine wpList_plainQ rfl (fun K Q' hK => ?_); go_simp; refine hK _ _ ?_; clear hK K; try clear Q')
  clear c_0_3
  have c_5 := h2.cell 0 rfl 5 rfl
  have f_5 := h2.free 0 rfl 5
  refine wpList_plainQ rfl (fun K Q' hK => ?_); go_simp
  clear c_5 f_5
  refine h2.k_set 0 rfl (fun w3 h3 => ?_)
  refine hK _ _ ?_; clear hK K; try clear Q'
  refine wpList_nil ?_
  show Code.wp _ _ _ _ _
  refine wp_seq ?_
  refine wp_seq ?_
  refine wp_region_lit ?_
  have c_0_4 := h3.cell 0 rfl 4 rfl
  iterate 4 (refine wpList_plainQ rfl (fun K Q' hK => ?_); go_simp; refine hK _ _ ?_; clear hK K; try clear Q')
  clear c_0_4
  refine wpList_nil ?_
  show Code.wp _ _ _ _ _
  refine wp_block ?_
  -- stops at: loop
  clear e1
  go_loopw [17] (fun v17 wr => ∃ i : Nat, i ≤ ks.length ∧ v17 = .int .i64 i ∧ St w H m c (d + 1) wr H [(w.heap.size, treeO r x (.slice aB b.length cB) (.slice aK ks.length cK) (1 + b.length + Rw.size (k.toL.take i)))] []) (fun v17 _ => ks.length - (intOf v17).toNat)
  case atStart => exact ⟨0, by omega, rfl, by simpa [Rw.size, Rw.els, treeO] using h3⟩
  case round =>
    obtain ⟨i, hi, rfl, hs⟩ := hrel
    by_cases hlt : i < ks.length
    · obtain ⟨b9, o9, _, e9, _⟩ := hk.1.ne_nil (by omega)
      simp only [Value.slice.injEq, true_and] at e9
      obtain ⟨rfl, rfl⟩ := e9
      obtain ⟨pj, hpj⟩ : ∃ pj, ks[i]? = some pj := ⟨ks[i], by simp⟩
      obtain ⟨tj, htj⟩ : ∃ tj, k.toL[i]? = some tj := ⟨k.toL[i]'(by have := hkl.out; omega), by simp⟩
      have gj : (ks.map Value.pointer)[i]? = some (.pointer pj) := by simp [hpj]
      obtain ⟨bj, aB', cB', aK', cK', rj, szj, ksj, rfl, _, hszj, hbj, _, _, _, _⟩ := (hrow.2 i pj tj hpj htj).open
      have cR : Hid (∀ W', Fits W' H → W'.cell? ⟨b9, o9 + i, none⟩ = some (.pointer (some ⟨bj, 0, none⟩))) := fun W' hF => hk.1.cell hF i gj
      have hst := sumSz_take k.toL i tj htj
      have hsm := size_take_le k.toL (i + 1)
      obtain ⟨s0, hs0⟩ : ∃ s0, Hid (1 + b.length + Rw.size (k.toL.take i) = s0) := ⟨_, show _ = _ from rfl⟩
      have hsum : Hid (1 + b.length + Rw.size (k.toL.take (i + 1)) = s0 + szj) := by have := hs0.out; have := hszj.out; show _ = _; omega
      rw [hs0.out] at hs
      have e1 : IntKind.i64.wrap ((s0 : Int) + (szj : Int)) = ((s0 + szj : Nat) : Int) := by rw [IntWalk.i64_in _ (by have := hsum.out; have := hsz.out; omega)]; omega
      have e8 : IntKind.i64.wrap ((i : Int) + 1) = (i : Int) + 1 := IntWalk.i64_in _ (by omega)
      clear hst hsm
      refine wp_seq ?_
      refine wp_region_lit ?_
      iterate 1 (refine wpList_plainQ rfl (fun K Q' hK => ?_); go_simp; refine hK _ _ ?_; clear hK K; try clear Q')
      refine wpList_nil ?_
      show Code.wp _ _ _ _ _
      refine wp_seq ?_
      -- stops at: cond
      refine wp_cond_true (rfl) ?_
      refine wp_skip ?_
      show Code.wp _ _ _ _ _
      refine wp_seq ?_
      refine wp_block ?_
      refine wp_seq ?_
      refine wp_region_lit ?_
      iterate 1 (refine wpList_plainQ rfl (fun K Q' hK => ?_); go_simp; refine hK _ _ ?_; clear hK K; try clear Q')
      -- stops at: load (Go.Op.load 94 (Go.Operand.tmp 19)) slot 20
      have ce := cR.out _ hs.fits
      iterate 1 (refine wpList_plainQ rfl (fun K Q' hK => ?_); go_simp; refine hK _ _ ?_; clear hK K; try clear Q')
      clear ce
      iterate 1 (refine wpList_plainQ rfl (fun K Q' hK => ?_); go_simp; refine hK _ _ ?_; clear hK K; try clear Q')
      refine wpList_nil ?_
      show Code.wp _ _ _ _ _
      refine hs.region [] [(0, true), (2, true), (3, true), (4, true), (5, true), (1, false), (6, true), (7, true), (8, false)] (by kernel_rfl) (by kernel_rfl) (fun w4 h4 => ?_)
      refine wpOrd_hide (fun _ _ d _ _ h => by cases d <;> exact h) (fun QR hQn hQp => ?_)
      simp only [ordOps, List.map_cons, List.map_nil, List.getD_cons_zero, List.getD_cons_succ]
      iterate 5 (refine wpOrd_quiet (v := ?_) rfl (fun _ _ _ => hQp _ _ _ _ _) ?_ ?_; rotate_left; (intro w' hS; have c_hbj_5 := hS.gh hbj 5 rfl; (first | (go_simp; done) | (go_simp; with_reducible rfl))); simp only [Act.put, List.setIfInBounds_toArray, List.set_cons_zero, List.set_cons_succ])
      have c_0_5 := h4.cell 0 rfl 5 rfl
      refine wpOrd_effQ rfl (fun K Q' hK => ?_); go_simp
      refine hK _ _ (h4.sat' (GH.le_refl _) [] (by kernel_rfl)) ?_; clear hK K; try clear Q'
      clear c_0_5
      iterate 2 (refine wpOrd_quiet (v := ?_) rfl (fun _ _ _ => hQp _ _ _ _ _) ?_ ?_; rotate_left; (intro w' hS; (first | (go_simp; done) | (go_simp; with_reducible rfl))); simp only [Act.put, List.setIfInBounds_toArray, List.set_cons_zero, List.set_cons_succ])
      have c_5 := h4.cell 0 rfl 5 rfl
      have f_5 := h4.free 0 rfl 5
      refine wpOrd_effQ rfl (fun K Q' hK => ?_); go_simp
      clear c_5 f_5
      refine h4.k_set 0 rfl (fun w5 h5 => ?_)
      refine hK _ _ (h5.sat' (GH.le_refl _) [] (by kernel_rfl)) ?_; clear hK K; try clear Q'
      refine wpOrd_nil (hQn _ _ ?_); clear hQn hQp QR
      show Code.wp _ _ _ _ _
      refine wp_region_lit ?_
      iterate 2 (refine wpList_plainQ rfl (fun K Q' hK => ?_); go_simp; refine hK _ _ ?_; clear hK K; try clear Q')
      refine wpList_nil ?_
      -- stops at: end ('roundend',)
      show _ ∧ _
      go_roundw
      case rel => exact ⟨i + 1, by omega, by simp, by rw [hsum.out]; exact h5⟩
      case measure => simp [intOf]; omega
    · obtain rfl : i = ks.length := by omega
      refine wp_seq ?_
      refine wp_region_lit ?_
      iterate 1 (refine wpList_plainQ rfl (fun K Q' hK => ?_); go_simp; refine hK _ _ ?_; clear hK K; try clear Q')
      refine wpList_nil ?_
      show Code.wp _ _ _ _ _
      refine wp_seq ?_
      -- stops at: cond
      refine wp_cond_false (rfl) ?_
      refine wp_exit ?_
      show Code.wp _ _ _ _ _
      refine wp_seq ?_
      refine wp_region_lit ?_
      iterate 1 (refine wpList_plainQ rfl (fun K Q' hK => ?_); go_simp; refine hK _ _ ?_; clear hK K; try clear Q')
      refine wpList_nil ?_
      show Code.wp _ _ _ _ _
      -- stops at: ret
      refine wp_ret ?_
      go_ret
      obtain ⟨H3, h99, l99, e99⟩ := hs.settled 0 rfl
      refine ⟨_, H3, rfl, h99.post, ?_⟩
      refine ⟨_, _, _, r, 1 + b.length + Rw.size k.toL, ks, [], rfl, hr, by rw [hsz.out]; exact rfl, ?_, hb.mono l99, hk.mono l99, fun y hy => (fun hl : GH.le H H3 => fun hx : ∀ y ∈ x :: b, True => trivial) l99 hx, ht.mono l99, rfl⟩
      rw [e99, hkl.out, List.take_length]
end Go.Proofs.YteigmfkkeofcaaaGreatDoor
