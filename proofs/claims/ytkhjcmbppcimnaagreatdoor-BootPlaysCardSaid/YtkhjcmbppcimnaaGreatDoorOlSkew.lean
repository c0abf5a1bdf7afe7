/-
Skew heaps: how many things there are; all of them.
-/
import Derived.Test.YtkhjcmbppcimnaaGreatDoorOkSkew
import Derived.Test.YtkhjcmbppcimnaaGreatDoorNdJoin
namespace Go.Proofs.YtkhjcmbppcimnaaGreatDoor
open Go Go.RowKit
set_option linter.unusedVariables false

theorem flatMap_take_le' (l : List (Tr Bp)) (i : Nat) : (Rw.els (l.take i)).length ≤ (Rw.els l).length := size_take_le l i
theorem Rw.mem_size' {l : List (Tr Bp)} {t : Tr Bp} (h : t ∈ l) : t.els.length ≤ (Rw.els l).length := by
  obtain ⟨i, hi⟩ := List.getElem?_of_mem h
  exact size_mem hi
theorem Rw.toL_els' {t : RT Bp} : Rw.els t.toL = t.els := Rw.toL_els t
/-- What was settled since is forgotten. -/
theorem St.lower {w0 w : World} {H0 H H' : GH} {c d : Int} {L : List (Nat × Obj)} {R : List Row} (h : St w0 H0 none c d w H' L R) (hl : H.le H') (h0 : H0.le H) : St w0 H0 none c d w H L R := by
  have hno : ∀ {b : Nat}, H' b = none → H b = none := fun {b} hn => by
    cases e : H b with
    | none => rfl
    | some o => rw [hl _ _ e] at hn; cases hn
  refine ⟨Pre.none (h.fits.le hl) c d, h.keep, h0, fun b o e => h.new b o (hl b o e), fun p hp => ?_, h.nodup, fun r hr => ?_, h.rowsL, h.rowsR, h.cells, fun b o e => h.gc b o (hl b o e)⟩
  · obtain ⟨h1, h2, h3, h4⟩ := h.own p hp
    exact ⟨h1, h2, hno h3, h4⟩
  · obtain ⟨h1, h2⟩ := h.rows r hr
    exact ⟨h1, fun g hg => ⟨hno (h2 g hg).1, (h2 g hg).2⟩⟩

/-- All things of a tree. -/
theorem RT.toL_at (t : RT Bp) (i : Nat) (tr : Tr Bp) (h : t.toL[i]? = some tr) : tr.els.length ≤ t.els.length := by
  have h1 := Rw.mem_size' (List.mem_of_getElem? h)
  rw [Rw.toL_els'] at h1
  exact h1
set_option maxRecDepth 100000 in
set_option maxHeartbeats 4000000 in
theorem tall_all (t : RT Bp) : ∀ (H : GH) (w : World) (ps : List (Option Addr)), Fits w H → TreesR H t ps → t.els.length < 900000 → ∀ (i : Nat) (p : Option Addr), ps[i]? = some p →
    ∃ tr, Hid (t.toL[i]? = some tr) ∧ Calls Tryz.prog 67 #[.pointer p] w fun e w' => ∃ v, e = .returned v ∧ St w H none 0 0 w' H [] [⟨v, 29, 1, tr.els.length, tr.els.flatMap tC⟩] := by
  induction t with
  | nil =>
    intro H w ps _ hk _ i p hi
    obtain rfl : ps = [] := hk
    simp at hi
  | node x b k n ih1 ih2 =>
    intro H w ps hf hk hsz i p hi
    obtain ⟨bt, bv, kv, rs, ss, kt, rest, rfl, hrs, hss, hbt, sb, sk, sx, st, hrest⟩ := hk
    have hszn : k.els.length < 900000 ∧ n.els.length < 900000 ∧ b.length < 900000 ∧ 1 + b.length + k.els.length < 900000 := by
      simp [RT.els] at hsz
      omega
    cases i with
    | succ i =>
      obtain ⟨s, h1, h2⟩ := ih2 H w rest hf hrest hszn.2.1 i p (by simpa using hi)
      exact ⟨s, h1, h2⟩
    | zero =>
      obtain rfl : some ⟨bt, 0, none⟩ = p := by simpa using hi
      refine ⟨⟨x, b, k⟩, rfl, ?_⟩
      show Calls _ _ _ _ fun e w' => ∃ v, e = .returned v ∧ St w H none 0 0 w' H [] [⟨v, 29, 1, (x :: (b ++ k.els)).length, (x :: (b ++ k.els)).flatMap tC⟩]
      obtain ⟨Y, hY⟩ : ∃ Y, Hid (x :: (b ++ k.els) = Y) := ⟨_, show _ = _ from rfl⟩
      rw [hY.out]
      have hpre : Pre w H none 0 0 := Pre.none hf 0 0
      have hktl : Hid (kt.length = k.toL.length) := by show _ = _; rw [RT.toL_length]; exact st.length
      have hkt : kt.length < 900000 := by have := st.length; have := k.len_le; have := hszn.1; omega
      have hke : Rw.els k.toL = k.els := Rw.toL_els k
      obtain ⟨aB, cB, rfl, _, _⟩ := sb.1.nil_or
      obtain ⟨aK, cK, rfl, _, _⟩ := sk.1.nil_or
      go_enter Tryz.func67, Tryz.ntmps67
      have h0 := St.start hpre
      refine wp_seq ?_
      refine wp_region_lit ?_
      iterate 1 (refine wpList_plainQ rfl (fun K Q' hK => ?_); go_simp; refine hK _ _ ?_; clear hK K; try clear Q')
      refine wpList_nil ?_
      show Code.wp _ _ _ _ _
      refine wp_seq ?_
      refine wp_seq ?_
      refine wp_region_lit ?_
      iterate 2 (refine wpList_plainQ rfl (fun K Q' hK => ?_); go_simp; refine hK _ _ ?_; clear hK K; try clear Q')
      refine wpList_nil ?_
      show Code.wp _ _ _ _ _
      -- stops at: cond
      refine wp_cond_false (rfl) ?_
      refine wp_skip ?_
      show Code.wp _ _ _ _ _
      refine wp_seq ?_
      refine h0.region [] [(0, true), (1, true), (2, true), (3, true), (4, true), (5, true), (6, true), (7, true), (8, false), (9, true)] (by kernel_rfl) (by kernel_rfl) (fun w1 h1 => ?_)
      refine wpOrd_hide (fun _ _ d _ _ h => by cases d <;> exact h) (fun QR hQn hQp => ?_)
      simp only [ordOps, List.map_cons, List.map_nil, List.getD_cons_zero, List.getD_cons_succ]
      iterate 8 (refine wpOrd_quiet (v := ?_) rfl (fun _ _ _ => hQp _ _ _ _ _) ?_ ?_; rotate_left; (intro w' hS; have c_hbt_1 := hS.gh hbt 1 rfl; have c_hbt_2 := hS.gh hbt 2 rfl; (first | (go_simp; done) | (go_simp; with_reducible rfl))); simp only [Act.put, List.setIfInBounds_toArray, List.set_cons_zero, List.set_cons_succ])
      -- stops at: eff:call (Go.Op.call {'callee': (Go.Callee.value (Go.Operand.func 78)), 'args': [(Go.Operand.tmp 11), (Go.Operand.tmp 15)], 'argTypes': [29, 30]}) slot 16
      refine wpOrd_effQ rfl (fun K Q' hK => ?_); go_simp
      refine (aheadE_ok H _ x b _ (by omega) h1.fits sb.1).mono ?_
      rintro e wA ⟨vA, rfl, hpA⟩
      have hA := h1.callrow hpA
      refine hK _ _ (hA.sat' (GH.le_refl _) [] (by kernel_rfl)) ?_; clear hK K; try clear Q'
      iterate 1 (refine wpOrd_quiet (v := ?_) rfl (fun _ _ _ => hQp _ _ _ _ _) ?_ ?_; rotate_left; (intro w' hS; (first | (go_simp; done) | (go_simp; with_reducible rfl))); simp only [Act.put, List.setIfInBounds_toArray, List.set_cons_zero, List.set_cons_succ])
      refine wpOrd_nil (hQn _ _ ?_); clear hQn hQp QR
      show Code.wp _ _ _ _ _
      refine wp_seq ?_
      refine wp_seq ?_
      refine wp_region_lit ?_
      have c_hbt_3 := hA.gh hbt 3 rfl
      iterate 6 (refine wpList_plainQ rfl (fun K Q' hK => ?_); go_simp; refine hK _ _ ?_; clear hK K; try clear Q')
      clear c_hbt_3
      refine wpList_nil ?_
      show Code.wp _ _ _ _ _
      refine wp_block ?_
      -- stops at: loop
      go_loopw [3, 22] (fun v3 v22 wr => ∃ (j : Nat) (X : List Bp), j ≤ kt.length ∧ Hid (x :: (b ++ Rw.els (k.toL.take j)) = X) ∧ v22 = .int .i64 j ∧ St w H none 0 0 wr H [] [⟨v3, 29, 1, X.length, X.flatMap tC⟩]) (fun _ v22 _ => kt.length - (intOf v22).toNat)
      case atStart => exact ⟨0, x :: b, by omega, by show _ = _; simp [Rw.els], rfl, hA⟩
      case round =>
        obtain ⟨j, X, hj, hX, rfl, hs⟩ := hrel
        obtain ⟨a3, c3, rfl⟩ := hs.row_form 0 rfl
        by_cases hlt : j < kt.length
        · obtain ⟨b9, o9, _, e9, _⟩ := sk.1.ne_nil (by omega)
          simp only [Value.slice.injEq, true_and] at e9
          obtain ⟨rfl, rfl⟩ := e9
          obtain ⟨pj, hpj⟩ : ∃ pj, kt[j]? = some pj := ⟨kt[j], by simp⟩
          have gj : (kt.map Value.pointer)[j]? = some (.pointer pj) := by simp [hpj]
          have cR : Hid (∀ W', Fits W' H → W'.cell? ⟨b9, o9 + j, none⟩ = some (.pointer pj)) := fun W' hF => sk.1.cell hF j gj
          have e8 : IntKind.i64.wrap ((j : Int) + 1) = (j : Int) + 1 := IntWalk.i64_in _ (by omega)
          have hXl : X.length < 900000 := by
            rw [← hX.out]
            have h1 := flatMap_take_le' k.toL j
            rw [hke] at h1
            have := hszn.2.2.2
            simp only [List.length_cons, List.length_append]; omega
          refine wp_seq ?_
          refine wp_region_lit ?_
          iterate 1 (refine wpList_plainQ rfl (fun K Q' hK => ?_); go_simp; refine hK _ _ ?_; clear hK K; try clear Q')
          refine wpList_nil ?_
          show Code.wp _ _ _ _ _
          refine wp_seq ?_
          -- stops at: cond
          refine wp_cond_true (rfl) ?_
          refine wp_skip ?_
          show Code.wp _ _ _ _ _
          refine wp_seq ?_
          refine wp_block ?_
          refine wp_seq ?_
          refine wp_region_lit ?_
          iterate 1 (refine wpList_plainQ rfl (fun K Q' hK => ?_); go_simp; refine hK _ _ ?_; clear hK K; try clear Q')
          -- stops at: load (Go.Op.load 98 (Go.Operand.tmp 24)) slot 25
          have ce := cR.out _ hs.fits
          iterate 1 (refine wpList_plainQ rfl (fun K Q' hK => ?_); go_simp; refine hK _ _ ?_; clear hK K; try clear Q')
          clear ce
          iterate 1 (refine wpList_plainQ rfl (fun K Q' hK => ?_); go_simp; refine hK _ _ ?_; clear hK K; try clear Q')
          refine wpList_nil ?_
          show Code.wp _ _ _ _ _
          refine wp_region_lit ?_
          iterate 2 (refine wpList_plainQ rfl (fun K Q' hK => ?_); go_simp; refine hK _ _ ?_; clear hK K; try clear Q')
          -- stops at: eff:call (Go.Op.call {'callee': (Go.Callee.value (Go.Operand.func 67)), 'args': [(Go.Operand.tmp 27)], 'argTypes': [98]}) slot 28
          obtain ⟨tr, ht1, ht2⟩ := ih1 H wr kt hs.fits st hszn.1 j pj hpj
          have htl : tr.els.length < 900000 := by have := RT.toL_at k j tr ht1.out; have := hszn.1; omega
          have hstep : Hid (x :: (b ++ Rw.els (k.toL.take (j + 1))) = X ++ tr.els) := by
            show _ = _
            rw [List.take_add_one, ht1.out, Rw.els_append, ← hX.out]
            simp [Rw.els]
          refine wpList_plainQ rfl (fun K Q' hK => ?_); go_simp
          refine ht2.mono ?_
          rintro e wE ⟨vE, rfl, hpE⟩
          obtain ⟨H5, h55, rA, leA⟩ := (hs.callrow hpE).settleRow 1 rfl
          obtain ⟨aA, cA, rfl, _, _⟩ := rA.nil_or
          refine hK _ _ ?_; clear hK K; try clear Q'
          refine wpList_plainQ rfl (fun K Q' hK => ?_)
          refine h55.op_append_rep 0 rfl rfl infoT rfl (tr.els.flatMap tC) rfl rA (tC_one _) (by omega) (by unfold maxLen; omega) (fun v1 wF hF => ?_)
          refine hK _ _ ?_; clear hK K; try clear Q'
          have hF' := hF.base
          obtain ⟨a1, c1, rfl⟩ := hF'.row_form 0 rfl
          iterate 1 (refine wpList_plainQ rfl (fun K Q' hK => ?_); go_simp; refine hK _ _ ?_; clear hK K; try clear Q')
          refine wpList_nil ?_
          show Code.wp _ _ _ _ _
          refine wp_region_lit ?_
          iterate 2 (refine wpList_plainQ rfl (fun K Q' hK => ?_); go_simp; refine hK _ _ ?_; clear hK K; try clear Q')
          refine wpList_nil ?_
          -- stops at: end ('roundend',)
          show _ ∧ _
          go_roundw
          case rel =>
            refine ⟨j + 1, X ++ tr.els, by omega, hstep, by simp, ?_⟩
            rw [List.length_append, List.flatMap_append]
            exact hF'
          case measure => simp [intOf]; omega
        · obtain rfl : j = kt.length := by omega
          have hXe : X = Y := by rw [← hX.out, hktl.out, List.take_length, hke, hY.out]
          subst hXe
          refine wp_seq ?_
          refine wp_region_lit ?_
          iterate 1 (refine wpList_plainQ rfl (fun K Q' hK => ?_); go_simp; refine hK _ _ ?_; clear hK K; try clear Q')
          refine wpList_nil ?_
          show Code.wp _ _ _ _ _
          refine wp_seq ?_
          -- stops at: cond
          refine wp_cond_false (rfl) ?_
          refine wp_exit ?_
          show Code.wp _ _ _ _ _
          refine wp_seq ?_
          refine wp_region_lit ?_
          iterate 2 (refine wpList_plainQ rfl (fun K Q' hK => ?_); go_simp; refine hK _ _ ?_; clear hK K; try clear Q')
          refine wpList_nil ?_
          show Code.wp _ _ _ _ _
          -- stops at: ret
          refine wp_ret ?_
          go_ret
          exact ⟨_, rfl, hs⟩

theorem tall_ok (H : GH) (w : World) (p : Option Addr) (t : Tr Bp) (hf : Fits w H) (ht : TrR H p t) (hn : t.size < 900000) :
    Calls Tryz.prog 67 #[.pointer p] w fun e w' => ∃ v, e = .returned v ∧ St w H none 0 0 w' H [] [⟨v, 29, 1, t.els.length, t.els.flatMap tC⟩] := by
  have e : (RT.node t.x t.b t.k .nil).els = t.els := by simp [RT.els, Tr.els]
  obtain ⟨s, h1, h2⟩ := tall_all (.node t.x t.b t.k .nil) H w [p] hf ht (by rw [e]; exact hn) 0 p rfl
  obtain rfl : t = s := by
    have := h1.out
    simpa [RT.toL] using this
  exact h2

set_option maxRecDepth 100000 in
set_option maxHeartbeats 4000000 in
theorem skall_ok (H : GH) (w : World) (p : Option Addr) (l : List (Tr Bp)) (hf : Fits w H) (hn : Rw.size l < 900000) (hl : LsR H p l) :
    Calls Tryz.prog 36 #[hV p] w fun e w' => ∃ v, e = .returned v ∧ St w H none 0 0 w' H [] [⟨v, 29, 1, (Rw.els l).length, (Rw.els l).flatMap tC⟩] := by
  have hpre : Pre w H none 0 0 := Pre.none hf 0 0
  obtain ⟨ps, hcons, hrow⟩ := hl
  have hlb : ps.length < 1000000 := by have := hrow.1; have := Rw.length_le l; omega
  obtain ⟨nn, hnn⟩ : ∃ nn, Hid (ps.length = nn) := ⟨_, show _ = _ from rfl⟩
  have hnb : nn < 1000000 := by have := hnn.out; omega
  go_enter Tryz.func36, Tryz.ntmps36
  have h0 := St.start hpre
  refine wp_seq ?_
  refine wp_region_lit ?_
  refine wpList_plainQ rfl (fun K Q' hK => ?_); go_simp
  refine h0.k_alloc (fun w1 h1 => ?_)
  refine hK _ _ ?_; clear hK K; try clear Q'
  iterate 1 (refine wpList_plainQ rfl (fun K Q' hK => ?_); go_simp; refine hK _ _ ?_; clear hK K; try clear Q')
  refine wpList_nil ?_
  show Code.wp _ _ _ _ _
  refine wp_seq ?_
  refine wp_region_lit ?_
  iterate 1 (refine wpList_plainQ rfl (fun K Q' hK => ?_); go_simp; refine hK _ _ ?_; clear hK K; try clear Q')
  refine wpList_nil ?_
  show Code.wp _ _ _ _ _
  refine wp_seq ?_
  refine wp_seq ?_
  refine wp_region_lit ?_
  have c_0_0 := h1.cell 0 rfl 0 rfl
  iterate 2 (refine wpList_plainQ rfl (fun K Q' hK => ?_); go_simp; refine hK _ _ ?_; clear hK K; try clear Q')
  clear c_0_0
  -- stops at: eff:call (Go.Op.call {'callee': (Go.Callee.value (Go.Operand.func 53)), 'args': [(Go.Operand.tmp 7)], 'argTypes': [69]}) slot 8
  refine wpList_plainQ rfl (fun K Q' hK => ?_); go_simp
  refine (CTr.all_ok H _ p ps hlb h1.fits hcons).mono ?_
  rintro e wB ⟨v, rfl, hpB⟩
  obtain ⟨H5, h55, rA, leA⟩ := (h1.callrow hpB).settleRow 0 rfl
  rw [hnn.out] at rA
  obtain ⟨aA, cA, rfl, _, _⟩ := rA.nil_or
  refine hK _ _ ?_; clear hK K; try clear Q'
  iterate 2 (refine wpList_plainQ rfl (fun K Q' hK => ?_); go_simp; refine hK _ _ ?_; clear hK K; try clear Q')
  refine wpList_nil ?_
  show Code.wp _ _ _ _ _
  refine wp_block ?_
  -- stops at: loop
  have h90 := h55.row0 29 1
  go_loopw [3, 10] (fun v3 v10 wr => ∃ (j : Nat) (X : List Bp), j ≤ nn ∧ Hid (Rw.els (l.take j) = X) ∧ v10 = .int .i64 j ∧ St w H none 0 0 wr H5 [(w.heap.size, .cells #[.pointer p] 71)] [⟨v3, 29, 1, X.length, X.flatMap tC⟩]) (fun _ v10 _ => nn - (intOf v10).toNat)
  case atStart => exact ⟨0, [], by omega, rfl, rfl, by simpa using h90⟩
  case round =>
    obtain ⟨j, X, hj, hX, rfl, hs⟩ := hrel
    obtain ⟨a3, c3, rfl⟩ := hs.row_form 0 rfl
    by_cases hlt : j < nn
    · obtain ⟨b9, o9, cap9, e9, _⟩ := rA.ne_nil (by omega)
      simp only [Value.slice.injEq, true_and] at e9
      obtain ⟨rfl, rfl⟩ := e9
      obtain ⟨pj, hpj⟩ : ∃ pj, ps[j]? = some pj := ⟨ps[j]'(by have := hnn.out; omega), by simp⟩
      obtain ⟨tj, htj⟩ : ∃ tj, l[j]? = some tj := ⟨l[j]'(by have := hnn.out; have := hrow.1; omega), by simp⟩
      have trj := hrow.2 _ _ _ hpj htj
      have gj : (ps.map Value.pointer)[j]? = some (.pointer pj) := by simp [hpj]
      have e8 : IntKind.i64.wrap ((j : Int) + 1) = (j : Int) + 1 := IntWalk.i64_in _ (by omega)
      have htjs : tj.size < 900000 := by have := size_mem htj; omega
      have hXl : X.length < 900000 := by rw [← hX.out]; have h1 := flatMap_take_le' l j; have : (Rw.els l).length < 900000 := hn; omega
      have hstep : Hid (Rw.els (l.take (j + 1)) = X ++ tj.els) := by
        show _ = _
        rw [List.take_add_one, htj, Rw.els_append, ← hX.out]
        simp [Rw.els]
      refine wp_seq ?_
      refine wp_region_lit ?_
      iterate 1 (refine wpList_plainQ rfl (fun K Q' hK => ?_); go_simp; refine hK _ _ ?_; clear hK K; try clear Q')
      refine wpList_nil ?_
      show Code.wp _ _ _ _ _
      refine wp_seq ?_
      -- stops at: cond
      refine wp_cond_true (rfl) ?_
      refine wp_skip ?_
      show Code.wp _ _ _ _ _
      refine wp_seq ?_
      refine wp_block ?_
      refine wp_seq ?_
      refine wp_region_lit ?_
      iterate 1 (refine wpList_plainQ rfl (fun K Q' hK => ?_); go_simp; refine hK _ _ ?_; clear hK K; try clear Q')
      -- stops at: load (Go.Op.load 98 (Go.Operand.tmp 12)) slot 13
      have ce := rA.cell hs.fits _ gj
      iterate 1 (refine wpList_plainQ rfl (fun K Q' hK => ?_); go_simp; refine hK _ _ ?_; clear hK K; try clear Q')
      clear ce
      iterate 1 (refine wpList_plainQ rfl (fun K Q' hK => ?_); go_simp; refine hK _ _ ?_; clear hK K; try clear Q')
      refine wpList_nil ?_
      show Code.wp _ _ _ _ _
      refine wp_region_lit ?_
      iterate 2 (refine wpList_plainQ rfl (fun K Q' hK => ?_); go_simp; refine hK _ _ ?_; clear hK K; try clear Q')
      -- stops at: eff:call (Go.Op.call {'callee': (Go.Callee.value (Go.Operand.func 67)), 'args': [(Go.Operand.tmp 15)], 'argTypes': [98]}) slot 16
      refine wpList_plainQ rfl (fun K Q' hK => ?_); go_simp
      refine (tall_ok H5 _ pj tj hs.fits (trj.mono leA) htjs).mono ?_
      rintro e wC ⟨vC, rfl, hpC⟩
      obtain ⟨H6, h66, rC, leC⟩ := (hs.callrow hpC).settleRow 1 rfl
      obtain ⟨aC, cC, rfl, _, _⟩ := rC.nil_or
      refine hK _ _ ?_; clear hK K; try clear Q'
      refine wpList_plainQ rfl (fun K Q' hK => ?_)
      refine h66.op_append_rep 0 rfl rfl infoT rfl (tj.els.flatMap tC) rfl rC (tC_one _) (by have : tj.els.length < 900000 := htjs; omega) (by have : tj.els.length < 900000 := htjs; unfold maxLen; omega) (fun v1 wF hF => ?_)
      refine hK _ _ ?_; clear hK K; try clear Q'
      have hF' := hF.lower leC hs.le
      obtain ⟨a1, c1, rfl⟩ := hF'.row_form 0 rfl
      iterate 1 (refine wpList_plainQ rfl (fun K Q' hK => ?_); go_simp; refine hK _ _ ?_; clear hK K; try clear Q')
      refine wpList_nil ?_
      show Code.wp _ _ _ _ _
      refine wp_region_lit ?_
      iterate 2 (refine wpList_plainQ rfl (fun K Q' hK => ?_); go_simp; refine hK _ _ ?_; clear hK K; try clear Q')
      refine wpList_nil ?_
      -- stops at: end ('roundend',)
      show _ ∧ _
      go_roundw
      case rel =>
        refine ⟨j + 1, X ++ tj.els, by omega, hstep, by simp, ?_⟩
        rw [List.length_append, List.flatMap_append]
        exact hF'.take 1
      case measure => simp [intOf]; omega
    · obtain rfl : j = nn := by omega
      have hXe : X = Rw.els l := by rw [← hX.out, ← hnn.out, hrow.1, List.take_length]
      subst hXe
      refine wp_seq ?_
      refine wp_region_lit ?_
      iterate 1 (refine wpList_plainQ rfl (fun K Q' hK => ?_); go_simp; refine hK _ _ ?_; clear hK K; try clear Q')
      refine wpList_nil ?_
      show Code.wp _ _ _ _ _
      refine wp_seq ?_
      -- stops at: cond
      refine wp_cond_false (rfl) ?_
      refine wp_exit ?_
      show Code.wp _ _ _ _ _
      refine wp_seq ?_
      refine wp_region_lit ?_
      iterate 2 (refine wpList_plainQ rfl (fun K Q' hK => ?_); go_simp; refine hK _ _ ?_; clear hK K; try clear Q')
      refine wpList_nil ?_
      show Code.wp _ _ _ _ _
      -- stops at: ret
      refine wp_ret ?_
      go_ret
      exact ⟨_, rfl, (hs.take 0).base⟩
end Go.Proofs.YtkhjcmbppcimnaaGreatDoor
