/-
Pairing heaps: melding, putting in, the least one, how many there are.
-/
import Derived.Test.YtnimanhoegbicaaDoorHcHp
import Derived.Test.YtnimanhoegbicaaDoorNaElem
import Derived.Test.YtnimanhoegbicaaDoorKbRow
import Derived.Test.YtnimanhoegbicaaDoorMbPair
namespace Go.Proofs.YtnimanhoegbicaaDoor
open Go Go.RowKit
set_option linter.unusedVariables false

/-- A heap as a value. -/
abbrev hV (p : Option Addr) : Value := .agg #[.pointer p]
/-- A node in memory. -/
abbrev nodeO (x : El) (q : Option Addr) (n : Nat) : Obj := .cells #[.int .i64 x.1, .int .i64 x.2, .pointer q, .int .i64 (n : Int)] 69
/-- Trees side by side, and where they lie. -/
def KidsR (H : GH) : PT → List (Option Addr) → Prop
  | .nil, ps => ps = []
  | .node x k n, ps => ∃ (b : Nat) (q : Option Addr) (sz : Nat) (ks rest : List (Option Addr)), ps = some ⟨b, 0, none⟩ :: rest ∧ Hid (sz = (PT.els k).length + 1) ∧ H b = some (nodeO x q sz) ∧ ConsRep 82 H q (ks.map .pointer) ∧ KidsR H k ks ∧ KidsR H n rest
theorem KidsR.mono {H H' : GH} {t : PT} {ps : List (Option Addr)} (h : KidsR H t ps) (hl : H.le H') : KidsR H' t ps := by
  induction t generalizing ps with
  | nil => exact h
  | node x k n ih1 ih2 =>
    obtain ⟨b, q, sz, ks, rest, h1, h2, h3, h4, h5, h6⟩ := h
    exact ⟨b, q, sz, ks, rest, h1, h2, hl _ _ h3, h4.mono hl, ih1 h5, ih2 h6⟩
theorem KidsR.length {H : GH} {t : PT} {ps : List (Option Addr)} (h : KidsR H t ps) : ps.length = PT.len t := by
  induction t generalizing ps with
  | nil => obtain rfl : ps = [] := h; rfl
  | node x k n ih1 ih2 =>
    obtain ⟨b, q, sz, ks, rest, rfl, h2, h3, h4, h5, h6⟩ := h
    simp [PT.len, ih2 h6]
theorem len_le_size (t : PT) : PT.len t ≤ (PT.els t).length := by
  induction t with
  | nil => simp [PT.len]
  | node x k n ih1 ih2 => simp [PT.len, PT.els]; omega
/-- A heap and where it lies. -/
def HeapR (H : GH) (p : Option Addr) (t : PT) : Prop := (t = .nil ∧ p = none) ∨ (∃ x k, t = .node x k .nil ∧ KidsR H t [p])
theorem HeapR.mono {H H' : GH} {t : PT} {p : Option Addr} (h : HeapR H p t) (hl : H.le H') : HeapR H' p t :=
  h.imp id fun ⟨x, k, e, h⟩ => ⟨x, k, e, h.mono hl⟩
theorem HeapR.nil (H : GH) : HeapR H none .nil := .inl ⟨rfl, rfl⟩
theorem HeapR.one {H : GH} {t : PT} {p : Option Addr} (h : HeapR H p t) : PT.one t := by
  rcases h with ⟨rfl, _⟩ | ⟨x, k, rfl, _⟩
  · trivial
  · rfl

theorem St.settled {w0 w : World} {H0 H : GH} {m : Option Nat} {c d : Int} {L : List (Nat × Obj)} {R : List Row} (h : St w0 H0 m c d w H L R) (i : Nat) {b : Nat} {o : Obj} (hi : L[i]? = some (b, o)) : ∃ H', St w0 H0 m c d w H' (L.eraseIdx i) R ∧ H.le H' ∧ H' b = some o :=
  ⟨_, h.settle i hi, GH.le_add _ _ (h.own _ (List.mem_of_getElem? hi)).2.2.1, GH.add_self _ _ _⟩

set_option maxRecDepth 100000 in
set_option maxHeartbeats 2000000 in
theorem meld_ok (H : GH) (w : World) (m : Option Nat) (c d : Int) (p q : Option Addr) (s t : PT) (hpre : Pre w H m c d) (hn : PT.size s + PT.size t < 1000000) (hs : HeapR H p s) (ht : HeapR H q t) :
    Calls Tryd.prog 10 #[hV p, mV m, hV q] w fun e w' => ∃ r H', e = .returned (hV r) ∧ Post w H m w' H' (c + PT.meldN s t) (d + PT.meldN s t) ∧ HeapR H' r (PT.meld s t) := by
  rcases hs with ⟨rfl, rfl⟩ | ⟨x, k, rfl, hs⟩
  · skip
    go_enter Tryd.func10, Tryd.ntmps10
    have h0 := St.start hpre
    refine wp_seq ?_
    refine wp_region_lit ?_
    refine wpList_plainQ rfl (fun K Q' hK => ?_); go_simp
    refine h0.k_alloc (fun w1 h1 => ?_)
    refine hK _ _ ?_; clear hK K; try clear Q'
    refine wpList_plainQ rfl (fun K Q' hK => ?_); go_simp
    refine h1.k_alloc (fun w2 h2 => ?_)
    refine hK _ _ ?_; clear hK K; try clear Q'
    refine wpList_plainQ rfl (fun K Q' hK => ?_); go_simp
    refine h2.k_alloc (fun w3 h3 => ?_)
    refine hK _ _ ?_; clear hK K; try clear Q'
    refine wpList_nil ?_
    show Code.wp _ _ _ _ _
    refine wp_seq ?_
    refine wp_block ?_
    refine wp_seq ?_
    refine wp_region_lit ?_
    have c_0_0 := h3.cell 0 rfl 0 rfl
    iterate 4 (refine wpList_plainQ rfl (fun K Q' hK => ?_); go_simp; refine hK _ _ ?_; clear hK K; try clear Q')
    clear c_0_0
    refine wpList_nil ?_
    show Code.wp _ _ _ _ _
    -- stops at: cond
    refine wp_cond_true (rfl) ?_
    refine wp_seq ?_
    refine wp_region_lit ?_
    have c_1_0 := h3.cell 1 rfl 0 rfl
    iterate 1 (refine wpList_plainQ rfl (fun K Q' hK => ?_); go_simp; refine hK _ _ ?_; clear hK K; try clear Q')
    clear c_1_0
    have c_0 := h3.cell 2 rfl 0 rfl
    have f_0 := h3.free 2 rfl 0
    refine wpList_plainQ rfl (fun K Q' hK => ?_); go_simp
    clear c_0 f_0
    refine h3.k_set 2 rfl (fun w4 h4 => ?_)
    refine hK _ _ ?_; clear hK K; try clear Q'
    refine wpList_nil ?_
    show Code.wp _ _ _ _ _
    -- stops at: ret
    refine wp_ret ?_
    have r_2_0 := h4.cell 2 rfl 0 rfl
    first | show bodyPost _ _ _ _ _ _ | (simp only [Exit.then]; show bodyPost _ _ _ _ _ _) | (simp only [Exit.inBlock]; show bodyPost _ _ _ _ _ _) | (simp only [Exit.inBlock, Exit.then]; show bodyPost _ _ _ _ _ _) | (simp only [Exit.noGoto, Exit.inBlock, Exit.then]; show bodyPost _ _ _ _ _ _)
    refine bodyPost_ret (v := ?_) ?_ rfl ?_
    rotate_left
    · simp only [results, Tryd.results10]; go_simp; with_reducible rfl
    clear r_2_0
    refine ⟨q, H, rfl, ?_, ht⟩
    simpa [PT.meldN] using h4.post
  · rcases ht with ⟨rfl, rfl⟩ | ⟨y, j, rfl, ht⟩
    · have hs' := hs
      obtain ⟨b, qs, sz, ks, _, e, h2, hbs, h4, h5, _⟩ := hs
      simp only [List.cons.injEq] at e
      obtain ⟨rfl, _⟩ := e
      go_enter Tryd.func10, Tryd.ntmps10
      have h0 := St.start hpre
      refine wp_seq ?_
      refine wp_region_lit ?_
      refine wpList_plainQ rfl (fun K Q' hK => ?_); go_simp
      refine h0.k_alloc (fun w1 h1 => ?_)
      refine hK _ _ ?_; clear hK K; try clear Q'
      refine wpList_plainQ rfl (fun K Q' hK => ?_); go_simp
      refine h1.k_alloc (fun w2 h2 => ?_)
      refine hK _ _ ?_; clear hK K; try clear Q'
      refine wpList_plainQ rfl (fun K Q' hK => ?_); go_simp
      refine h2.k_alloc (fun w3 h3 => ?_)
      refine hK _ _ ?_; clear hK K; try clear Q'
      refine wpList_nil ?_
      show Code.wp _ _ _ _ _
      refine wp_seq ?_
      refine wp_block ?_
      refine wp_seq ?_
      refine wp_region_lit ?_
      have c_0_0 := h3.cell 0 rfl 0 rfl
      iterate 4 (refine wpList_plainQ rfl (fun K Q' hK => ?_); go_simp; refine hK _ _ ?_; clear hK K; try clear Q')
      clear c_0_0
      refine wpList_nil ?_
      show Code.wp _ _ _ _ _
      -- stops at: cond
      refine wp_cond_false (rfl) ?_
      refine wp_seq ?_
      refine wp_region_lit ?_
      have c_1_0 := h3.cell 1 rfl 0 rfl
      iterate 4 (refine wpList_plainQ rfl (fun K Q' hK => ?_); go_simp; refine hK _ _ ?_; clear hK K; try clear Q')
      clear c_1_0
      refine wpList_nil ?_
      show Code.wp _ _ _ _ _
      -- stops at: cond
      refine wp_cond_true (rfl) ?_
      refine wp_seq ?_
      refine wp_region_lit ?_
      have c_0_0 := h3.cell 0 rfl 0 rfl
      iterate 1 (refine wpList_plainQ rfl (fun K Q' hK => ?_); go_simp; refine hK _ _ ?_; clear hK K; try clear Q')
      clear c_0_0
      have c_0 := h3.cell 2 rfl 0 rfl
      have f_0 := h3.free 2 rfl 0
      refine wpList_plainQ rfl (fun K Q' hK => ?_); go_simp
      clear c_0 f_0
      refine h3.k_set 2 rfl (fun w4 h4 => ?_)
      refine hK _ _ ?_; clear hK K; try clear Q'
      refine wpList_nil ?_
      show Code.wp _ _ _ _ _
      -- stops at: ret
      refine wp_ret ?_
      have r_2_0 := h4.cell 2 rfl 0 rfl
      first | show bodyPost _ _ _ _ _ _ | (simp only [Exit.then]; show bodyPost _ _ _ _ _ _) | (simp only [Exit.inBlock]; show bodyPost _ _ _ _ _ _) | (simp only [Exit.inBlock, Exit.then]; show bodyPost _ _ _ _ _ _) | (simp only [Exit.noGoto, Exit.inBlock, Exit.then]; show bodyPost _ _ _ _ _ _)
      refine bodyPost_ret (v := ?_) ?_ rfl ?_
      rotate_left
      · simp only [results, Tryd.results10]; go_simp; with_reducible rfl
      clear r_2_0
      refine ⟨_, H, rfl, ?_, .inr ⟨x, k, rfl, hs'⟩⟩
      simpa [PT.meldN] using h4.post
    · have hs' := hs
      have ht' := ht
      obtain ⟨bs, qs, ns, ks, _, e, zs, hbs, zc, zk, _⟩ := hs
      simp only [List.cons.injEq] at e
      obtain ⟨rfl, _⟩ := e
      obtain ⟨bt, qt, nt, kt, _, e, ys, hbt, yc, yk, _⟩ := ht
      simp only [List.cons.injEq] at e
      obtain ⟨rfl, _⟩ := e
      have sns : ns + nt < 1000000 := by
        have := zs.out; have := ys.out
        simp [PT.size, PT.els] at hn
        omega
      have lks : ks.length < 1000000 := by
        have := zs.out; have := zk.length; have := len_le_size k; omega
      have lkt : kt.length < 1000000 := by
        have := ys.out; have := yk.length; have := len_le_size j; omega
      have sz1 : Hid (ns + nt = (PT.els (.node y j k)).length + 1) := by
        have := zs.out; have := ys.out
        show _ = _
        simp [PT.els]; omega
      have sz2 : Hid (nt + ns = (PT.els (.node x k j)).length + 1) := by
        have := zs.out; have := ys.out
        show _ = _
        simp [PT.els]; omega
      have hn2 : PT.meldN (.node x k .nil) (.node y j .nil) = 1 := rfl
      cases hlt : El.lt y x with
      | false =>
        have hme : PT.meld (.node x k .nil) (.node y j .nil) = PT.node x (.node y j k) .nil := by rw [PT.meld_node, if_neg (by simp [hlt])]
        have e1 : IntKind.i64.wrap ((ns : Int) + (nt : Int)) = ((ns : Int) + (nt : Int)) := IntWalk.i64_in _ (by omega)
        go_enter Tryd.func10, Tryd.ntmps10
        have h0 := St.start hpre
        refine wp_seq ?_
        refine wp_region_lit ?_
        refine wpList_plainQ rfl (fun K Q' hK => ?_); go_simp
        refine h0.k_alloc (fun w1 h1 => ?_)
        refine hK _ _ ?_; clear hK K; try clear Q'
        refine wpList_plainQ rfl (fun K Q' hK => ?_); go_simp
        refine h1.k_alloc (fun w2 h2 => ?_)
        refine hK _ _ ?_; clear hK K; try clear Q'
        refine wpList_plainQ rfl (fun K Q' hK => ?_); go_simp
        refine h2.k_alloc (fun w3 h3 => ?_)
        refine hK _ _ ?_; clear hK K; try clear Q'
        refine wpList_nil ?_
        show Code.wp _ _ _ _ _
        refine wp_seq ?_
        refine wp_block ?_
        refine wp_seq ?_
        refine wp_region_lit ?_
        have c_0_0 := h3.cell 0 rfl 0 rfl
        iterate 4 (refine wpList_plainQ rfl (fun K Q' hK => ?_); go_simp; refine hK _ _ ?_; clear hK K; try clear Q')
        clear c_0_0
        refine wpList_nil ?_
        show Code.wp _ _ _ _ _
        -- stops at: cond
        refine wp_cond_false (rfl) ?_
        refine wp_seq ?_
        refine wp_region_lit ?_
        have c_1_0 := h3.cell 1 rfl 0 rfl
        iterate 4 (refine wpList_plainQ rfl (fun K Q' hK => ?_); go_simp; refine hK _ _ ?_; clear hK K; try clear Q')
        clear c_1_0
        refine wpList_nil ?_
        show Code.wp _ _ _ _ _
        -- stops at: cond
        refine wp_cond_false (rfl) ?_
        refine wp_skip ?_
        show Code.wp _ _ _ _ _
        refine wp_seq ?_
        refine wp_seq ?_
        refine h3.region [0, 1] [(0, true), (1, true), (2, true), (3, true), (4, true), (5, true), (6, true), (7, true), (8, true), (9, true), (10, true), (11, false)] (by kernel_rfl) (by kernel_rfl) (fun w4 h4 => ?_)
        refine wpOrd_hide (fun _ _ d _ _ h => by cases d <;> exact h) (fun QR hQn hQp => ?_)
        simp only [ordOps, List.map_cons, List.map_nil, List.getD_cons_zero, List.getD_cons_succ]
        iterate 11 (refine wpOrd_quiet (v := ?_) rfl (fun _ _ _ => hQp _ _ _ _ _) ?_ ?_; rotate_left; (intro w' hS; have c_1_0 := hS.cell 1 rfl 0 rfl; have c_hbt_0 := hS.gh hbt 0 rfl; have c_hbt_1 := hS.gh hbt 1 rfl; have c_0_0 := hS.cell 0 rfl 0 rfl; have c_hbs_0 := hS.gh hbs 0 rfl; have c_hbs_1 := hS.gh hbs 1 rfl; (first | (go_simp; done) | (go_simp; with_reducible rfl))); simp only [Act.put, List.setIfInBounds_toArray, List.set_cons_zero, List.set_cons_succ])
        -- stops at: eff:call (Go.Op.call {'callee': (Go.Callee.value (Go.Operand.func 23)), 'args': [(Go.Operand.tmp 17), (Go.Operand.tmp 22), (Go.Operand.tmp 27)], 'argTypes': [25, 32, 32] slot 28
        refine wpOrd_effQ rfl (fun K Q' hK => ?_); go_simp
        refine (less_ok H _ m c d y x h4.pre).mono ?_
        rintro e wA ⟨H1, rfl, hpA⟩
        rw [hlt]
        have h5 := h4.call hpA
        have hbs_5 := hpA.le _ _ hbs
        have hbt_5 := hpA.le _ _ hbt
        have zc_5 := zc.mono hpA.le
        have yc_5 := yc.mono hpA.le
        refine hK _ _ (h5.sat' hpA.le [0, 1] (by kernel_rfl)) ?_; clear hK K; try clear Q'
        refine wpOrd_nil (hQn _ _ ?_); clear hQn hQp QR
        show Code.wp _ _ _ _ _
        -- stops at: cond
        refine wp_cond_false (rfl) ?_
        refine wp_skip ?_
        show Code.wp _ _ _ _ _
        refine wp_seq ?_
        refine wp_region_lit ?_
        iterate 1 (refine wpList_plainQ rfl (fun K Q' hK => ?_); go_simp; refine hK _ _ ?_; clear hK K; try clear Q')
        -- stops at: eff:call (Go.Op.call {'callee': (Go.Callee.value (Go.Operand.func 22)), 'args': [(Go.Operand.tmp 31), (Go.Operand.const (Go.Value.int Go.IntKind.i64 1))], 'argTypes': [2 slot 32
        refine wpList_plainQ rfl (fun K Q' hK => ?_); go_simp
        refine (made_ok H1 _ m _ _ h5.pre).mono ?_
        rintro e wB ⟨⟨v, rfl⟩, hpB⟩
        have h6 := h5.call hpB
        have hbs_6 := hpB.le _ _ hbs_5
        have hbt_6 := hpB.le _ _ hbt_5
        have zc_6 := zc_5.mono hpB.le
        have yc_6 := yc_5.mono hpB.le
        refine hK _ _ ?_; clear hK K; try clear Q'
        refine wpList_nil ?_
        show Code.wp _ _ _ _ _
        refine wp_seq ?_
        refine h6.region [0, 1] [(0, true), (1, true), (2, true), (3, true), (4, true), (5, true), (6, true), (7, true), (8, true), (9, true), (10, true), (12, true), (13, true), (14, true), (15, true), (16, true), (17, true), (18, true), (19, true), (20, true), (21, true), (22, true), (11, false), (23, true), (24, false), (25, true), (26, false)] (by kernel_rfl) (by kernel_rfl) (fun w7 h7 => ?_)
        refine wpOrd_hide (fun _ _ d _ _ h => by cases d <;> exact h) (fun QR hQn hQp => ?_)
        simp only [ordOps, List.map_cons, List.map_nil, List.getD_cons_zero, List.getD_cons_succ]
        iterate 22 (refine wpOrd_quiet (v := ?_) rfl (fun _ _ _ => hQp _ _ _ _ _) ?_ ?_; rotate_left; (intro w' hS; have c_0_0 := hS.cell 0 rfl 0 rfl; have c_hbs_0 := hS.gh hbs_6 0 rfl; have c_hbs_1 := hS.gh hbs_6 1 rfl; have c_hbs_2 := hS.gh hbs_6 2 rfl; have c_1_0 := hS.cell 1 rfl 0 rfl; have c_hbs_3 := hS.gh hbs_6 3 rfl; have c_hbt_3 := hS.gh hbt_6 3 rfl; (first | (go_simp; done) | (go_simp; with_reducible rfl))); simp only [Act.put, List.setIfInBounds_toArray, List.set_cons_zero, List.set_cons_succ])
        -- stops at: eff:call (Go.Op.call {'callee': (Go.Callee.value (Go.Operand.func 24)), 'args': [(Go.Operand.tmp 42), (Go.Operand.tmp 43)], 'argTypes': [67, 29]}) slot 44
        refine wpOrd_effQ rfl (fun K Q' hK => ?_); go_simp
        refine (CHp.push_ok H1 _ qs (ks.map .pointer) (some ⟨bt, 0, none⟩) (by simpa using lks) h7.fits zc_6).mono ?_
        rintro e wC ⟨q2, H2, rfl, hpC, hq2⟩
        have h8 := h7.call0 hpC
        have hbs_8 := hpC.le _ _ hbs_6
        have hbt_8 := hpC.le _ _ hbt_6
        have zc_8 := zc_6.mono hpC.le
        have yc_8 := yc_6.mono hpC.le
        refine hK _ _ (h8.sat' hpC.le [0, 1] (by kernel_rfl)) ?_; clear hK K; try clear Q'
        iterate 1 (refine wpOrd_quiet (v := ?_) rfl (fun _ _ _ => hQp _ _ _ _ _) ?_ ?_; rotate_left; (intro w' hS; (first | (go_simp; done) | (go_simp; with_reducible rfl))); simp only [Act.put, List.setIfInBounds_toArray, List.set_cons_zero, List.set_cons_succ])
        refine wpOrd_effQ rfl (fun K Q' hK => ?_); go_simp
        refine h8.k_alloc (fun w9 h9 => ?_)
        refine hK _ _ (h9.sat' hpC.le [0, 1] (by kernel_rfl)) ?_; clear hK K; try clear Q'
        iterate 1 (refine wpOrd_quiet (v := ?_) rfl (fun _ _ _ => hQp _ _ _ _ _) ?_ ?_; rotate_left; (intro w' hS; (first | (go_simp; done) | (go_simp; with_reducible rfl))); simp only [Act.put, List.setIfInBounds_toArray, List.set_cons_zero, List.set_cons_succ])
        have c_0 := h9.cell 2 rfl 0 rfl
        have f_0 := h9.free 2 rfl 0
        refine wpOrd_effQ rfl (fun K Q' hK => ?_); go_simp
        clear c_0 f_0
        refine h9.k_set 2 rfl (fun w10 h10 => ?_)
        refine hK _ _ (h10.sat' hpC.le [0, 1] (by kernel_rfl)) ?_; clear hK K; try clear Q'
        refine wpOrd_nil (hQn _ _ ?_); clear hQn hQp QR
        show Code.wp _ _ _ _ _
        -- stops at: ret
        refine wp_ret ?_
        have r_2_0 := h10.cell 2 rfl 0 rfl
        first | show bodyPost _ _ _ _ _ _ | (simp only [Exit.then]; show bodyPost _ _ _ _ _ _) | (simp only [Exit.inBlock]; show bodyPost _ _ _ _ _ _) | (simp only [Exit.inBlock, Exit.then]; show bodyPost _ _ _ _ _ _) | (simp only [Exit.noGoto, Exit.inBlock, Exit.then]; show bodyPost _ _ _ _ _ _)
        refine bodyPost_ret (v := ?_) ?_ rfl ?_
        rotate_left
        · simp only [results, Tryd.results10]; go_simp; with_reducible rfl
        clear r_2_0
        obtain ⟨H3, h99, l99, e99⟩ := h10.settled 3 rfl
        have hbs_11 := l99 _ _ hbs_8
        have hbt_11 := l99 _ _ hbt_8
        have zc_11 := zc_8.mono l99
        have yc_11 := yc_8.mono l99
        have hq2_11 := hq2.mono l99
        refine ⟨_, H3, rfl, by rw [hn2]; exact h99.post, ?_⟩
        rw [hme]
        refine .inr ⟨x, _, rfl, _, q2, ns + nt, some ⟨bt, 0, none⟩ :: ks, [], rfl, sz1, ?_, hq2_11, ?_, rfl⟩
        · rw [e99]; simp [nodeO]
        · exact ⟨bt, qt, nt, kt, ks, rfl, ys, hbt_11, yc_11, yk.mono h99.le, zk.mono h99.le⟩
      | true =>
        have hme : PT.meld (.node x k .nil) (.node y j .nil) = PT.node y (.node x k j) .nil := by rw [PT.meld_node, if_pos hlt]
        have e1 : IntKind.i64.wrap ((nt : Int) + (ns : Int)) = ((nt : Int) + (ns : Int)) := IntWalk.i64_in _ (by omega)
        go_enter Tryd.func10, Tryd.ntmps10
        have h0 := St.start hpre
        refine wp_seq ?_
        refine wp_region_lit ?_
        refine wpList_plainQ rfl (fun K Q' hK => ?_); go_simp
        refine h0.k_alloc (fun w1 h1 => ?_)
        refine hK _ _ ?_; clear hK K; try clear Q'
        refine wpList_plainQ rfl (fun K Q' hK => ?_); go_simp
        refine h1.k_alloc (fun w2 h2 => ?_)
        refine hK _ _ ?_; clear hK K; try clear Q'
        refine wpList_plainQ rfl (fun K Q' hK => ?_); go_simp
        refine h2.k_alloc (fun w3 h3 => ?_)
        refine hK _ _ ?_; clear hK K; try clear Q'
        refine wpList_nil ?_
        show Code.wp _ _ _ _ _
        refine wp_seq ?_
        refine wp_block ?_
        refine wp_seq ?_
        refine wp_region_lit ?_
        have c_0_0 := h3.cell 0 rfl 0 rfl
        iterate 4 (refine wpList_plainQ rfl (fun K Q' hK => ?_); go_simp; refine hK _ _ ?_; clear hK K; try clear Q')
        clear c_0_0
        refine wpList_nil ?_
        show Code.wp _ _ _ _ _
        -- stops at: cond
        refine wp_cond_false (rfl) ?_
        refine wp_seq ?_
        refine wp_region_lit ?_
        have c_1_0 := h3.cell 1 rfl 0 rfl
        iterate 4 (refine wpList_plainQ rfl (fun K Q' hK => ?_); go_simp; refine hK _ _ ?_; clear hK K; try clear Q')
        clear c_1_0
        refine wpList_nil ?_
        show Code.wp _ _ _ _ _
        -- stops at: cond
        refine wp_cond_false (rfl) ?_
        refine wp_skip ?_
        show Code.wp _ _ _ _ _
        refine wp_seq ?_
        refine wp_seq ?_
        refine h3.region [0, 1] [(0, true), (1, true), (2, true), (3, true), (4, true), (5, true), (6, true), (7, true), (8, true), (9, true), (10, true), (11, false)] (by kernel_rfl) (by kernel_rfl) (fun w4 h4 => ?_)
        refine wpOrd_hide (fun _ _ d _ _ h => by cases d <;> exact h) (fun QR hQn hQp => ?_)
        simp only [ordOps, List.map_cons, List.map_nil, List.getD_cons_zero, List.getD_cons_succ]
        iterate 11 (refine wpOrd_quiet (v := ?_) rfl (fun _ _ _ => hQp _ _ _ _ _) ?_ ?_; rotate_left; (intro w' hS; have c_1_0 := hS.cell 1 rfl 0 rfl; have c_hbt_0 := hS.gh hbt 0 rfl; have c_hbt_1 := hS.gh hbt 1 rfl; have c_0_0 := hS.cell 0 rfl 0 rfl; have c_hbs_0 := hS.gh hbs 0 rfl; have c_hbs_1 := hS.gh hbs 1 rfl; (first | (go_simp; done) | (go_simp; with_reducible rfl))); simp only [Act.put, List.setIfInBounds_toArray, List.set_cons_zero, List.set_cons_succ])
        -- stops at: eff:call (Go.Op.call {'callee': (Go.Callee.value (Go.Operand.func 23)), 'args': [(Go.Operand.tmp 17), (Go.Operand.tmp 22), (Go.Operand.tmp 27)], 'argTypes': [25, 32, 32] slot 28
        refine wpOrd_effQ rfl (fun K Q' hK => ?_); go_simp
        refine (less_ok H _ m c d y x h4.pre).mono ?_
        rintro e wA ⟨H1, rfl, hpA⟩
        rw [hlt]
        have h5 := h4.call hpA
        have hbs_5 := hpA.le _ _ hbs
        have hbt_5 := hpA.le _ _ hbt
        have zc_5 := zc.mono hpA.le
        have yc_5 := yc.mono hpA.le
        refine hK _ _ (h5.sat' hpA.le [0, 1] (by kernel_rfl)) ?_; clear hK K; try clear Q'
        refine wpOrd_nil (hQn _ _ ?_); clear hQn hQp QR
        show Code.wp _ _ _ _ _
        -- stops at: cond
        refine wp_cond_true (rfl) ?_
        refine wp_region_lit ?_
        have c_1_0 := h5.cell 1 rfl 0 rfl
        have c_0_0 := h5.cell 0 rfl 0 rfl
        iterate 2 (refine wpList_plainQ rfl (fun K Q' hK => ?_); go_simp; refine hK _ _ ?_; clear hK K; try clear Q')
        clear c_1_0 c_0_0
        have c_0 := h5.cell 0 rfl 0 rfl
        have f_0 := h5.free 0 rfl 0
        refine wpList_plainQ rfl (fun K Q' hK => ?_); go_simp
        clear c_0 f_0
        refine h5.k_set 0 rfl (fun w6 h6 => ?_)
        refine hK _ _ ?_; clear hK K; try clear Q'
        have c_0 := h6.cell 1 rfl 0 rfl
        have f_0 := h6.free 1 rfl 0
        refine wpList_plainQ rfl (fun K Q' hK => ?_); go_simp
        clear c_0 f_0
        refine h6.k_set 1 rfl (fun w7 h7 => ?_)
        refine hK _ _ ?_; clear hK K; try clear Q'
        refine wpList_nil ?_
        show Code.wp _ _ _ _ _
        refine wp_seq ?_
        refine wp_region_lit ?_
        iterate 1 (refine wpList_plainQ rfl (fun K Q' hK => ?_); go_simp; refine hK _ _ ?_; clear hK K; try clear Q')
        -- stops at: eff:call (Go.Op.call {'callee': (Go.Callee.value (Go.Operand.func 22)), 'args': [(Go.Operand.tmp 31), (Go.Operand.const (Go.Value.int Go.IntKind.i64 1))], 'argTypes': [2 slot 32
        refine wpList_plainQ rfl (fun K Q' hK => ?_); go_simp
        refine (made_ok H1 _ m _ _ h7.pre).mono ?_
        rintro e wB ⟨⟨v, rfl⟩, hpB⟩
        have h8 := h7.call hpB
        have hbs_8 := hpB.le _ _ hbs_5
        have hbt_8 := hpB.le _ _ hbt_5
        have zc_8 := zc_5.mono hpB.le
        have yc_8 := yc_5.mono hpB.le
        refine hK _ _ ?_; clear hK K; try clear Q'
        refine wpList_nil ?_
        show Code.wp _ _ _ _ _
        refine wp_seq ?_
        refine h8.region [0, 1] [(0, true), (1, true), (2, true), (3, true), (4, true), (5, true), (6, true), (7, true), (8, true), (9, true), (10, true), (12, true), (13, true), (14, true), (15, true), (16, true), (17, true), (18, true), (19, true), (20, true), (21, true), (22, true), (11, false), (23, true), (24, false), (25, true), (26, false)] (by kernel_rfl) (by kernel_rfl) (fun w9 h9 => ?_)
        refine wpOrd_hide (fun _ _ d _ _ h => by cases d <;> exact h) (fun QR hQn hQp => ?_)
        simp only [ordOps, List.map_cons, List.map_nil, List.getD_cons_zero, List.getD_cons_succ]
        iterate 22 (refine wpOrd_quiet (v := ?_) rfl (fun _ _ _ => hQp _ _ _ _ _) ?_ ?_; rotate_left; (intro w' hS; have c_0_0 := hS.cell 0 rfl 0 rfl; have c_hbt_0 := hS.gh hbt_8 0 rfl; have c_hbt_1 := hS.gh hbt_8 1 rfl; have c_hbt_2 := hS.gh hbt_8 2 rfl; have c_1_0 := hS.cell 1 rfl 0 rfl; have c_hbt_3 := hS.gh hbt_8 3 rfl; have c_hbs_3 := hS.gh hbs_8 3 rfl; (first | (go_simp; done) | (go_simp; with_reducible rfl))); simp only [Act.put, List.setIfInBounds_toArray, List.set_cons_zero, List.set_cons_succ])
        -- stops at: eff:call (Go.Op.call {'callee': (Go.Callee.value (Go.Operand.func 24)), 'args': [(Go.Operand.tmp 42), (Go.Operand.tmp 43)], 'argTypes': [67, 29]}) slot 44
        refine wpOrd_effQ rfl (fun K Q' hK => ?_); go_simp
        refine (CHp.push_ok H1 _ qt (kt.map .pointer) (some ⟨bs, 0, none⟩) (by simpa using lkt) h9.fits yc_8).mono ?_
        rintro e wC ⟨q2, H2, rfl, hpC, hq2⟩
        have h10 := h9.call0 hpC
        have hbs_10 := hpC.le _ _ hbs_8
        have hbt_10 := hpC.le _ _ hbt_8
        have zc_10 := zc_8.mono hpC.le
        have yc_10 := yc_8.mono hpC.le
        refine hK _ _ (h10.sat' hpC.le [0, 1] (by kernel_rfl)) ?_; clear hK K; try clear Q'
        iterate 1 (refine wpOrd_quiet (v := ?_) rfl (fun _ _ _ => hQp _ _ _ _ _) ?_ ?_; rotate_left; (intro w' hS; (first | (go_simp; done) | (go_simp; with_reducible rfl))); simp only [Act.put, List.setIfInBounds_toArray, List.set_cons_zero, List.set_cons_succ])
        refine wpOrd_effQ rfl (fun K Q' hK => ?_); go_simp
        refine h10.k_alloc (fun w11 h11 => ?_)
        refine hK _ _ (h11.sat' hpC.le [0, 1] (by kernel_rfl)) ?_; clear hK K; try clear Q'
        iterate 1 (refine wpOrd_quiet (v := ?_) rfl (fun _ _ _ => hQp _ _ _ _ _) ?_ ?_; rotate_left; (intro w' hS; (first | (go_simp; done) | (go_simp; with_reducible rfl))); simp only [Act.put, List.setIfInBounds_toArray, List.set_cons_zero, List.set_cons_succ])
        have c_0 := h11.cell 2 rfl 0 rfl
        have f_0 := h11.free 2 rfl 0
        refine wpOrd_effQ rfl (fun K Q' hK => ?_); go_simp
        clear c_0 f_0
        refine h11.k_set 2 rfl (fun w12 h12 => ?_)
        refine hK _ _ (h12.sat' hpC.le [0, 1] (by kernel_rfl)) ?_; clear hK K; try clear Q'
        refine wpOrd_nil (hQn _ _ ?_); clear hQn hQp QR
        show Code.wp _ _ _ _ _
        -- stops at: ret
        refine wp_ret ?_
        have r_2_0 := h12.cell 2 rfl 0 rfl
        first | show bodyPost _ _ _ _ _ _ | (simp only [Exit.then]; show bodyPost _ _ _ _ _ _) | (simp only [Exit.inBlock]; show bodyPost _ _ _ _ _ _) | (simp only [Exit.inBlock, Exit.then]; show bodyPost _ _ _ _ _ _) | (simp only [Exit.noGoto, Exit.inBlock, Exit.then]; show bodyPost _ _ _ _ _ _)
        refine bodyPost_ret (v := ?_) ?_ rfl ?_
        rotate_left
        · simp only [results, Tryd.results10]; go_simp; with_reducible rfl
        clear r_2_0
        obtain ⟨H3, h99, l99, e99⟩ := h12.settled 3 rfl
        have hbs_13 := l99 _ _ hbs_10
        have hbt_13 := l99 _ _ hbt_10
        have zc_13 := zc_10.mono l99
        have yc_13 := yc_10.mono l99
        have hq2_13 := hq2.mono l99
        refine ⟨_, H3, rfl, by rw [hn2]; exact h99.post, ?_⟩
        rw [hme]
        refine .inr ⟨y, _, rfl, _, q2, nt + ns, some ⟨bs, 0, none⟩ :: kt, [], rfl, sz2, ?_, hq2_13, ?_, rfl⟩
        · rw [e99]; simp [nodeO]
        · exact ⟨bs, qs, ns, ks, kt, rfl, zs, hbs_13, zc_13, zk.mono h99.le, yk.mono h99.le⟩
end Go.Proofs.YtnimanhoegbicaaDoor
