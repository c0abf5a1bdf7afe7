/-
Pairing heaps: taking out the least one.
-/
import Derived.Test.YtnimanhoegbicaaDoorObPair
namespace Go.Proofs.YtnimanhoegbicaaDoor
open Go Go.RowKit
set_option linter.unusedVariables false

theorem infoH : ElemInfo Tryd.prog 30 29 (.agg #[.pointer none]) 1 8 :=
  ⟨Tryd.underlying30, info_parts (by kernel_rfl), rfl, by decide⟩

/-- One of the trees side by side is a heap. -/
theorem KidsR.head {H : GH} {x : El} {k n : PT} {ps : List (Option Addr)} (h : KidsR H (.node x k n) ps) : ∃ p rest, ps = p :: rest ∧ HeapR H p (.node x k .nil) ∧ KidsR H n rest := by
  obtain ⟨b, q, sz, ks, rest, h1, h2, h3, h4, h5, h6⟩ := h
  exact ⟨_, rest, h1, .inr ⟨x, k, rfl, b, q, sz, ks, [], rfl, h2, h3, h4, h5, rfl⟩, h6⟩
theorem size_node (x : El) (k n : PT) : PT.size (.node x k n) = PT.size (.node x k .nil) + PT.size n := by
  simp [PT.size, PT.els]; omega

/-- Heaps and where they lie, one by one. -/
def HeapsR (H : GH) (ds : List (Option Addr)) (ts : List PT) : Prop := ds.length = ts.length ∧ ∀ (i : Nat) (p : Option Addr) (t : PT), ds[i]? = some p → ts[i]? = some t → HeapR H p t
theorem HeapsR.mono {H H' : GH} {ds : List (Option Addr)} {ts : List PT} (h : HeapsR H ds ts) (hl : H.le H') : HeapsR H' ds ts := ⟨h.1, fun i p t e1 e2 => (h.2 i p t e1 e2).mono hl⟩
theorem HeapsR.snoc {H : GH} {ds : List (Option Addr)} {ts : List PT} (h : HeapsR H ds ts) {p : Option Addr} {t : PT} (ht : HeapR H p t) : HeapsR H (ds ++ [p]) (ts ++ [t]) := by
  refine ⟨by simp [h.1], fun i p' t' e1 e2 => ?_⟩
  rcases Nat.lt_or_ge i ds.length with hi | hi
  · rw [List.getElem?_append_left hi] at e1
    rw [List.getElem?_append_left (by rw [← h.1]; exact hi)] at e2
    exact h.2 i p' t' e1 e2
  · rw [List.getElem?_append_right hi] at e1
    rw [List.getElem?_append_right (by rw [← h.1]; exact hi)] at e2
    rw [h.1] at e1
    cases hk : i - ts.length with
    | zero =>
      rw [hk] at e1 e2
      simp at e1 e2
      subst e1 e2
      exact ht
    | succ j => rw [hk] at e1; simp at e1

def lenOf : Value → Nat
  | .slice _ n _ => n
  | _ => 0
theorem St.row_form {w0 w : World} {H0 H : GH} {m : Option Nat} {c d : Int} {L : List (Nat × Obj)} {R : List Row} (h : St w0 H0 m c d w H L R) (i : Nat) {v : Value} {e : TypeId} {size n : Nat} {xs : List Value} (hi : R[i]? = some ⟨v, e, size, n, xs⟩) : ∃ a cap, v = .slice a n cap := by
  rcases (h.rows _ (List.mem_of_getElem? hi)).1.2 with ⟨h1, h2⟩ | ⟨g, cap, cur, h1, _⟩
  · have h1' : v = .slice none 0 0 := h1
    have h2' : n = 0 := h2
    exact ⟨none, 0, by rw [h1', h2']⟩
  · exact ⟨_, _, h1⟩
theorem PT.shape (u : PT) : (PT.one u ∧ PT.twos u = [] ∧ PT.last u = u) ∨ ∃ x k y j n, u = .node x k (.node y j n) := by
  cases u with
  | nil => exact .inl ⟨trivial, rfl, rfl⟩
  | node x k n =>
    cases n with
    | nil => exact .inl ⟨rfl, rfl, rfl⟩
    | node y j n => exact .inr ⟨x, k, y, j, n, rfl⟩
theorem PT.one_len {u : PT} (h : PT.one u) : PT.len u ≤ 1 := by
  rcases PT.one_cases h with rfl | ⟨x, k, rfl⟩ <;> simp [PT.len]
theorem sum_drop_le (l : List Nat) (j : Nat) : (l.drop j).sum ≤ l.sum := by
  have := congrArg List.sum (List.take_append_drop j l)
  rw [List.sum_append] at this
  omega
theorem PT.fold_le (t : PT) (j : Nat) : PT.size (((PT.twos t).drop j).foldr PT.meld (PT.last t)) ≤ PT.size t := by
  rw [PT.foldr_size _ _ (fun s hs => PT.one_twos t s (List.mem_of_mem_drop hs)) (PT.one_last t)]
  have h1 := PT.twos_size t
  have h2 := sum_drop_le ((PT.twos t).map PT.size) j
  rw [← List.map_drop] at h2
  omega
theorem first_short (H : GH) (w : World) (q : Option Addr) (u : PT) (us : List (Option Addr)) (hf : Fits w H) (hq : ConsRep 82 H q (us.map .pointer)) (hu : KidsR H u us) (h1 : PT.one u) :
    Calls Tryd.prog 36 #[.agg #[.pointer q]] w fun e w' => ∃ z b, e = .returned (.tuple #[hV z, .bool b]) ∧ Keep none w w' ∧ HeapR H z u := by
  rcases PT.one_cases h1 with rfl | ⟨x, k, rfl⟩
  · obtain rfl : us = [] := hu
    obtain rfl : q = none := by cases hq; rfl
    exact (CHp.first_nil H _ hf).mono fun e w' ⟨h, k⟩ => ⟨none, false, h, k, HeapR.nil H⟩
  · obtain ⟨p1, us1, rfl, hp1, hu1⟩ := hu.head
    exact (CHp.first_cons H _ q p1 (us1.map .pointer) hf hq).mono fun e w' ⟨h, k⟩ => ⟨p1, true, h, k, hp1⟩
theorem PT.twos_len (t : PT) : (PT.twos t).length ≤ PT.size t := by
  induction t using PT.pair.induct with
  | case1 => simp [PT.twos]
  | case2 => simp [PT.twos]
  | case3 x k y j n ih => simp [PT.twos, PT.size, PT.els] at *; omega

set_option maxRecDepth 100000 in
set_option maxHeartbeats 4000000 in
theorem pair_ok (H : GH) (w : World) (m : Option Nat) (c d : Int) (p : Option Addr) (t : PT) (ps : List (Option Addr)) (hpre : Pre w H m c d) (hn : PT.size t < 900000) (hl : ConsRep 82 H p (ps.map .pointer)) (ht : KidsR H t ps) :
    Calls Tryd.prog 26 #[mV m, .agg #[.pointer p]] w fun e w' => ∃ r H', e = .returned (hV r) ∧ Post w H m w' H' (c + PT.pairN t) (d + PT.pairN t) ∧ HeapR H' r (PT.pair t) := by
  go_enter Tryd.func26, Tryd.ntmps26
  have h0 := St.start hpre
  refine wp_seq ?_
  refine wp_region_lit ?_
  refine wpList_plainQ rfl (fun K Q' hK => ?_); go_simp
  refine h0.k_alloc (fun w1 h1 => ?_)
  refine hK _ _ ?_; clear hK K; try clear Q'
  refine wpList_plainQ rfl (fun K Q' hK => ?_); go_simp
  refine h1.k_alloc (fun w2 h2 => ?_)
  refine hK _ _ ?_; clear hK K; try clear Q'
  refine wpList_nil ?_
  show Code.wp _ _ _ _ _
  refine wp_seq ?_
  refine wp_region_lit ?_
  iterate 1 (refine wpList_plainQ rfl (fun K Q' hK => ?_); go_simp; refine hK _ _ ?_; clear hK K; try clear Q')
  refine wpList_nil ?_
  show Code.wp _ _ _ _ _
  refine wp_seq ?_
  refine wp_region_lit ?_
  iterate 1 (refine wpList_plainQ rfl (fun K Q' hK => ?_); go_simp; refine hK _ _ ?_; clear hK K; try clear Q')
  refine wpList_nil ?_
  show Code.wp _ _ _ _ _
  refine wp_seq ?_
  refine wp_block ?_
  -- stops at: loop
  have h90 := h2.row0 29 1
  go_loopw [6] (fun v6 wr => ∃ (u : PT) (us ds : List (Option Addr)) (ts : List PT) (q : Option Addr) (H' : GH), Hid (ts ++ PT.twos u = PT.twos t) ∧ Hid (PT.last u = PT.last t) ∧ Hid (PT.size u ≤ PT.size t) ∧ St w H m (c + ts.length) (d + ts.length) wr H' [(w.heap.size, .cells #[.pointer q] 67), (w1.heap.size, .cells #[.pointer none] 29)] [⟨v6, 29, 1, ds.length, ds.map .pointer⟩] ∧ ConsRep 82 H' q (us.map .pointer) ∧ KidsR H' u us ∧ HeapsR H' ds ts) (fun v6 _ => (PT.twos t).length - lenOf v6)
  case atStart => exact ⟨t, ps, [], [], p, H, rfl, rfl, Nat.le_refl _, by simpa using h90, hl, ht, rfl, by simp⟩
  case round =>
    obtain ⟨u, us, ds, ts, q, H1, hts, hlast, hsz, hs, hq, hu, hds⟩ := hrel
    have hdl : Hid (ds.length = ts.length) := hds.1
    obtain ⟨a6, c6, rfl⟩ := hs.row_form 0 rfl
    have hdb : ds.length < 900000 := by
      have h5 := congrArg List.length hts.out
      have h6 := PT.twos_len t
      have h7 := hdl.out
      simp at h5
      omega
    rcases PT.shape u with ⟨hone, htw, hla⟩ | ⟨x, k, y, j, n, rfl⟩
    · obtain ⟨nn, hnn⟩ : ∃ nn : Nat, Hid ((us.map Value.pointer).length = nn) := ⟨_, show _ = _ from rfl⟩
      have d1 : decide ((1 : Int) < (nn : Int)) = false := decide_eq_false (by have h1 := hnn.out; have h2 := hu.length; have h3 := PT.one_len hone; simp at h1; omega)
      have htt : Hid (ts = PT.twos t) := by have := hts.out; rw [htw, List.append_nil] at this; exact this
      have hll : Hid (u = PT.last t) := by rw [← hla]; exact hlast
      have e7 : IntKind.i64.wrap ((ds.length : Int) - 1) = (ds.length : Int) - 1 := IntWalk.i64_in _ (by omega)
      clear htw hla
      refine wp_seq ?_
      refine wp_seq ?_
      refine wp_region_lit ?_
      have c_0_0 := hs.cell 0 rfl 0 rfl
      iterate 1 (refine wpList_plainQ rfl (fun K Q' hK => ?_); go_simp; refine hK _ _ ?_; clear hK K; try clear Q')
      clear c_0_0
      -- stops at: eff:call (Go.Op.call {'callee': (Go.Callee.value (Go.Operand.func 35)), 'args': [(Go.Operand.tmp 14)], 'argTypes': [67]}) slot 15
      refine wpList_plainQ rfl (fun K Q' hK => ?_); go_simp
      refine (CHp.len_ok H1 _ _ _ hs.fits hq).mono ?_
      rintro e wA ⟨rfl, hkA⟩
      rw [hnn.out]
      have h3 := hs.callk hkA
      refine hK _ _ ?_; clear hK K; try clear Q'
      iterate 1 (refine wpList_plainQ rfl (fun K Q' hK => ?_); go_simp; refine hK _ _ ?_; clear hK K; try clear Q')
      refine wpList_nil ?_
      show Code.wp _ _ _ _ _
      -- stops at: cond
      refine wp_cond_false (rfl) ?_
      refine wp_exit ?_
      show Code.wp _ _ _ _ _
      refine wp_seq ?_
      refine wp_region_lit ?_
      have c_0_0 := h3.cell 0 rfl 0 rfl
      iterate 1 (refine wpList_plainQ rfl (fun K Q' hK => ?_); go_simp; refine hK _ _ ?_; clear hK K; try clear Q')
      clear c_0_0
      -- stops at: eff:call (Go.Op.call {'callee': (Go.Callee.value (Go.Operand.func 36)), 'args': [(Go.Operand.tmp 39)], 'argTypes': [67]}) slot 40
      refine wpList_plainQ rfl (fun K Q' hK => ?_); go_simp
      refine (first_short H1 _ q u us h3.fits hq hu hone).mono ?_
      rintro e wB ⟨z, bz, rfl, hkB, hz⟩
      have h4 := h3.callk hkB
      refine hK _ _ ?_; clear hK K; try clear Q'
      iterate 3 (refine wpList_plainQ rfl (fun K Q' hK => ?_); go_simp; refine hK _ _ ?_; clear hK K; try clear Q')
      refine wpList_plainQ rfl (fun K Q' hK => ?_); go_simp
      refine h4.k_alloc (fun w5 h5 => ?_)
      refine hK _ _ ?_; clear hK K; try clear Q'
      have c_0 := h5.cell 2 rfl 0 rfl
      have f_0 := h5.free 2 rfl 0
      refine wpList_plainQ rfl (fun K Q' hK => ?_); go_simp
      clear c_0 f_0
      refine h5.k_set 2 rfl (fun w6 h6 => ?_)
      refine hK _ _ ?_; clear hK K; try clear Q'
      iterate 1 (refine wpList_plainQ rfl (fun K Q' hK => ?_); go_simp; refine hK _ _ ?_; clear hK K; try clear Q')
      refine wpList_nil ?_
      show Code.wp _ _ _ _ _
      refine wp_seq ?_
      refine wp_seq ?_
      refine wp_region_lit ?_
      iterate 4 (refine wpList_plainQ rfl (fun K Q' hK => ?_); go_simp; refine hK _ _ ?_; clear hK K; try clear Q')
      refine wpList_nil ?_
      show Code.wp _ _ _ _ _
      refine wp_block ?_
      -- stops at: loop
      obtain ⟨H6, h66, rA, leA⟩ := h6.settleRow 0 rfl
      rw [hll.out] at hz
      go_loopw [13] (fun v13 wr => ∃ (i : Nat) (z' : Option Addr) (H' : GH), i ≤ ts.length ∧ v13 = .int .i64 ((i : Int) - 1) ∧ H6.le H' ∧ St w H m (c + ts.length + PT.foldN (PT.last t) (ts.drop i)) (d + ts.length + PT.foldN (PT.last t) (ts.drop i)) wr H' [(w.heap.size, .cells #[.pointer q] 67), (w1.heap.size, .cells #[.pointer none] 29), (wB.heap.size, .cells #[.pointer z'] 29)] [] ∧ HeapR H' z' ((ts.drop i).foldr PT.meld (PT.last t))) (fun v13 _ => (intOf v13 + 1).toNat)
      case atStart =>
        refine ⟨ts.length, z, H6, by omega, by rw [← hdl.out], GH.le_refl _, ?_, ?_⟩
        · rw [List.drop_length]; simpa [PT.foldN] using h66
        · rw [List.drop_length]; exact hz.mono leA
      case round =>
        obtain ⟨i, z', H7, hi, rfl, hle7, hs7, hz7⟩ := hrel
        by_cases hi0 : 0 < i
        · obtain ⟨j, rfl⟩ : ∃ j, i = j + 1 := ⟨i - 1, by omega⟩
          rw [show ((j + 1 : Nat) : Int) - 1 = (j : Int) by omega] at *
          have hj : j < ts.length := by omega
          have hj7 : j < 900000 := by have := hdl.out; omega
          have hjd : j < ds.length := by have := hdl.out; omega
          obtain ⟨b9, o9, _, e9, _⟩ := rA.ne_nil (by have := hdl.out; omega)
          simp only [Value.slice.injEq, true_and] at e9
          obtain ⟨rfl, rfl⟩ := e9
          obtain ⟨pj, hpj⟩ : ∃ pj, ds[j]? = some pj := ⟨ds[j]'(by have := hdl.out; omega), by have := hdl.out; simp⟩
          obtain ⟨tj, htj⟩ : ∃ tj, Hid (ts[j] = tj) := ⟨ts[j], show _ = _ from rfl⟩
          have hhj : HeapR H1 pj tj := hds.2 j pj tj hpj (by rw [← htj.out]; simp)
          have gj : (ds.map Value.pointer)[j]? = some (.pointer pj) := by simp [hpj]
          have cR : Hid (∀ W', Fits W' H6 → W'.cell? ⟨b9, o9 + j, none⟩ = some (.pointer pj)) := fun W' hF => rA.cell hF j gj
          have hdr : Hid (ts.drop j = tj :: ts.drop (j + 1)) := by rw [← htj.out]; exact List.drop_eq_getElem_cons hj
          have hszj : PT.size tj + PT.size ((ts.drop (j + 1)).foldr PT.meld (PT.last t)) < 1000000 := by
            have h1 := PT.fold_le t j
            rw [← htt.out, hdr.out, List.foldr_cons, PT.meld_size hhj.one hz7.one] at h1
            omega
          have e8 : IntKind.i64.wrap ((j : Int) - 1) = (j : Int) - 1 := IntWalk.i64_in _ (by omega)
          refine wp_seq ?_
          refine wp_seq ?_
          refine wp_region_lit ?_
          iterate 2 (refine wpList_plainQ rfl (fun K Q' hK => ?_); go_simp; refine hK _ _ ?_; clear hK K; try clear Q')
          refine wpList_nil ?_
          show Code.wp _ _ _ _ _
          -- stops at: cond
          refine wp_cond_true (rfl) ?_
          refine wp_skip ?_
          show Code.wp _ _ _ _ _
          refine wp_seq ?_
          refine wp_block ?_
          refine hs7.region [] [(0, true), (1, true), (2, true), (3, true), (4, true), (5, true), (6, false), (7, false), (8, false)] (by kernel_rfl) (by kernel_rfl) (fun w8 h8 => ?_)
          refine wpOrd_hide (fun _ _ d _ _ h => by cases d <;> exact h) (fun QR hQn hQp => ?_)
          simp only [ordOps, List.map_cons, List.map_nil, List.getD_cons_zero, List.getD_cons_succ]
          iterate 4 (refine wpOrd_quiet (v := ?_) rfl (fun _ _ _ => hQp _ _ _ _ _) ?_ ?_; rotate_left; (intro w' hS; (first | (go_simp; done) | (go_simp; with_reducible rfl))); simp only [Act.put, List.setIfInBounds_toArray, List.set_cons_zero, List.set_cons_succ])
          -- stops at: load (Go.Op.load 29 (Go.Operand.tmp 53)) slot 54
          iterate 1 (refine wpOrd_quiet (v := ?_) rfl (fun _ _ _ => hQp _ _ _ _ _) ?_ ?_; rotate_left; (intro w' hS; have ce := cR.out _ (hS.1.le hle7); (first | (go_simp; done) | (go_simp; with_reducible rfl))); simp only [Act.put, List.setIfInBounds_toArray, List.set_cons_zero, List.set_cons_succ])
          iterate 1 (refine wpOrd_quiet (v := ?_) rfl (fun _ _ _ => hQp _ _ _ _ _) ?_ ?_; rotate_left; (intro w' hS; (first | (go_simp; done) | (go_simp; with_reducible rfl))); simp only [Act.put, List.setIfInBounds_toArray, List.set_cons_zero, List.set_cons_succ])
          have c_2_0 := h8.cell 2 rfl 0 rfl
          refine wpOrd_effQ rfl (fun K Q' hK => ?_); go_simp
          refine hK _ _ (h8.sat' (GH.le_refl _) [] (by kernel_rfl)) ?_; clear hK K; try clear Q'
          clear c_2_0
          -- stops at: eff:call (Go.Op.call {'callee': (Go.Callee.value (Go.Operand.tmp 50)), 'args': [(Go.Operand.tmp 54), (Go.Operand.tmp 55), (Go.Operand.tmp 56)], 'argTypes': [29, 25, 29]} slot 57
          refine wpOrd_effQ rfl (fun K Q' hK => ?_); go_simp
          refine (meld_ok H7 _ m _ _ pj z' tj _ h8.pre hszj (hhj.mono (leA.trans hle7)) hz7).mono ?_
          rintro e wE ⟨r, H8, rfl, hpE, hrE⟩
          have h9 := h8.call hpE
          refine hK _ _ (h9.sat' hpE.le [] (by kernel_rfl)) ?_; clear hK K; try clear Q'
          have c_0 := h9.cell 2 rfl 0 rfl
          have f_0 := h9.free 2 rfl 0
          refine wpOrd_effQ rfl (fun K Q' hK => ?_); go_simp
          clear c_0 f_0
          refine h9.k_set 2 rfl (fun w10 h10 => ?_)
          refine hK _ _ (h10.sat' hpE.le [] (by kernel_rfl)) ?_; clear hK K; try clear Q'
          refine wpOrd_nil (hQn _ _ ?_); clear hQn hQp QR
          show Code.wp _ _ _ _ _
          refine wp_region_lit ?_
          iterate 3 (refine wpList_plainQ rfl (fun K Q' hK => ?_); go_simp; refine hK _ _ ?_; clear hK K; try clear Q')
          refine wpList_nil ?_
          -- stops at: end ('roundend',)
          show _ ∧ _
          go_roundw
          case rel =>
            refine ⟨j, r, H8, by omega, rfl, hle7.trans hpE.le, ?_, by rw [hdr.out]; exact hrE⟩
            rw [hdr.out]
            unfold PT.foldN
            rw [Int.natCast_add, ← Int.add_assoc, ← Int.add_assoc]
            exact h10
          case measure => simp [intOf]
        · obtain rfl : i = 0 := by omega
          refine wp_seq ?_
          refine wp_seq ?_
          refine wp_region_lit ?_
          iterate 2 (refine wpList_plainQ rfl (fun K Q' hK => ?_); go_simp; refine hK _ _ ?_; clear hK K; try clear Q')
          refine wpList_nil ?_
          show Code.wp _ _ _ _ _
          -- stops at: cond
          refine wp_cond_false (rfl) ?_
          refine wp_exit ?_
          show Code.wp _ _ _ _ _
          refine wp_seq ?_
          refine wp_region_lit ?_
          have c_2_0 := hs7.cell 2 rfl 0 rfl
          iterate 1 (refine wpList_plainQ rfl (fun K Q' hK => ?_); go_simp; refine hK _ _ ?_; clear hK K; try clear Q')
          clear c_2_0
          have c_0 := hs7.cell 1 rfl 0 rfl
          have f_0 := hs7.free 1 rfl 0
          refine wpList_plainQ rfl (fun K Q' hK => ?_); go_simp
          clear c_0 f_0
          refine hs7.k_set 1 rfl (fun w11 h11 => ?_)
          refine hK _ _ ?_; clear hK K; try clear Q'
          refine wpList_nil ?_
          show Code.wp _ _ _ _ _
          -- stops at: ret
          refine wp_ret ?_
          have r_1_0 := h11.cell 1 rfl 0 rfl
          first | show bodyPost _ _ _ _ _ _ | (simp only [Exit.then]; show bodyPost _ _ _ _ _ _) | (simp only [Exit.inBlock]; show bodyPost _ _ _ _ _ _) | (simp only [Exit.inBlock, Exit.then]; show bodyPost _ _ _ _ _ _) | (simp only [Exit.noGoto, Exit.inBlock, Exit.then]; show bodyPost _ _ _ _ _ _)
          refine bodyPost_ret (v := ?_) ?_ rfl ?_
          rotate_left
          · simp only [results, Tryd.results26]; go_simp; with_reducible rfl
          clear r_1_0
          rw [List.drop_zero] at *
          refine ⟨z', H7, rfl, ?_, by rw [PT.pair_eq, ← htt.out]; exact hz7⟩
          rw [PT.pairN_eq, ← htt.out, Int.natCast_add, ← Int.add_assoc, ← Int.add_assoc]
          exact h11.post
    · obtain ⟨p1, us1, rfl, hp1, hu1⟩ := hu.head
      obtain ⟨p2, us2, rfl, hp2, hu2⟩ := hu1.head
      obtain ⟨nn, hnn⟩ : ∃ nn : Nat, Hid (((p1 :: p2 :: us2).map Value.pointer).length = nn) := ⟨_, show _ = _ from rfl⟩
      have d1 : decide ((1 : Int) < (nn : Int)) = true := decide_eq_true (by have := hnn.out; simp at this; omega)
      have hsz2 : Hid (PT.size (.node x k .nil) + PT.size (.node y j .nil) + PT.size n ≤ PT.size t) := by
        have := hsz.out
        rw [size_node, size_node y j n] at this
        show _ ≤ _
        omega
      have hqa : ConsRep 82 H1 q (Value.pointer p1 :: Value.pointer p2 :: us2.map Value.pointer) := hq
      refine wp_seq ?_
      refine wp_seq ?_
      refine wp_region_lit ?_
      have c_0_0 := hs.cell 0 rfl 0 rfl
      iterate 1 (refine wpList_plainQ rfl (fun K Q' hK => ?_); go_simp; refine hK _ _ ?_; clear hK K; try clear Q')
      clear c_0_0
      -- stops at: eff:call (Go.Op.call {'callee': (Go.Callee.value (Go.Operand.func 35)), 'args': [(Go.Operand.tmp 14)], 'argTypes': [67]}) slot 15
      refine wpList_plainQ rfl (fun K Q' hK => ?_); go_simp
      refine (CHp.len_ok H1 _ _ _ hs.fits hq).mono ?_
      rintro e wA ⟨rfl, hkA⟩
      rw [hnn.out]
      have h12 := hs.callk hkA
      refine hK _ _ ?_; clear hK K; try clear Q'
      iterate 1 (refine wpList_plainQ rfl (fun K Q' hK => ?_); go_simp; refine hK _ _ ?_; clear hK K; try clear Q')
      refine wpList_nil ?_
      show Code.wp _ _ _ _ _
      -- stops at: cond
      refine wp_cond_true (rfl) ?_
      refine wp_skip ?_
      show Code.wp _ _ _ _ _
      refine wp_block ?_
      refine wp_seq ?_
      refine wp_region_lit ?_
      have c_0_0 := h12.cell 0 rfl 0 rfl
      iterate 1 (refine wpList_plainQ rfl (fun K Q' hK => ?_); go_simp; refine hK _ _ ?_; clear hK K; try clear Q')
      clear c_0_0
      -- stops at: eff:call (Go.Op.call {'callee': (Go.Callee.value (Go.Operand.func 36)), 'args': [(Go.Operand.tmp 18)], 'argTypes': [67]}) slot 19
      refine wpList_plainQ rfl (fun K Q' hK => ?_); go_simp
      refine (CHp.first_cons H1 _ q p1 _ h12.fits hqa).mono ?_
      rintro e wB ⟨rfl, hkB⟩
      have h13 := h12.callk hkB
      refine hK _ _ ?_; clear hK K; try clear Q'
      iterate 3 (refine wpList_plainQ rfl (fun K Q' hK => ?_); go_simp; refine hK _ _ ?_; clear hK K; try clear Q')
      refine wpList_plainQ rfl (fun K Q' hK => ?_); go_simp
      refine h13.k_alloc (fun w14 h14 => ?_)
      refine hK _ _ ?_; clear hK K; try clear Q'
      have c_0 := h14.cell 2 rfl 0 rfl
      have f_0 := h14.free 2 rfl 0
      refine wpList_plainQ rfl (fun K Q' hK => ?_); go_simp
      clear c_0 f_0
      refine h14.k_set 2 rfl (fun w15 h15 => ?_)
      refine hK _ _ ?_; clear hK K; try clear Q'
      iterate 1 (refine wpList_plainQ rfl (fun K Q' hK => ?_); go_simp; refine hK _ _ ?_; clear hK K; try clear Q')
      refine wpList_nil ?_
      show Code.wp _ _ _ _ _
      refine wp_seq ?_
      refine wp_region_lit ?_
      have c_0_0 := h15.cell 0 rfl 0 rfl
      iterate 1 (refine wpList_plainQ rfl (fun K Q' hK => ?_); go_simp; refine hK _ _ ?_; clear hK K; try clear Q')
      clear c_0_0
      -- stops at: eff:call (Go.Op.call {'callee': (Go.Callee.value (Go.Operand.func 37)), 'args': [(Go.Operand.tmp 23)], 'argTypes': [67]}) slot 24
      refine wpList_plainQ rfl (fun K Q' hK => ?_); go_simp
      refine (CHp.rest_ok H1 _ q _ h15.fits hqa).mono ?_
      rintro e wC ⟨q2, rfl, hkC, hq2⟩
      have h16 := h15.callk hkC
      refine hK _ _ ?_; clear hK K; try clear Q'
      -- stops at: eff:call (Go.Op.call {'callee': (Go.Callee.value (Go.Operand.func 36)), 'args': [(Go.Operand.tmp 24)], 'argTypes': [67]}) slot 25
      refine wpList_plainQ rfl (fun K Q' hK => ?_); go_simp
      refine (CHp.first_cons H1 _ q2 p2 _ h16.fits hq2).mono ?_
      rintro e wD ⟨rfl, hkD⟩
      have h17 := h16.callk hkD
      refine hK _ _ ?_; clear hK K; try clear Q'
      iterate 3 (refine wpList_plainQ rfl (fun K Q' hK => ?_); go_simp; refine hK _ _ ?_; clear hK K; try clear Q')
      refine wpList_plainQ rfl (fun K Q' hK => ?_); go_simp
      refine h17.k_alloc (fun w18 h18 => ?_)
      refine hK _ _ ?_; clear hK K; try clear Q'
      have c_0 := h18.cell 3 rfl 0 rfl
      have f_0 := h18.free 3 rfl 0
      refine wpList_plainQ rfl (fun K Q' hK => ?_); go_simp
      clear c_0 f_0
      refine h18.k_set 3 rfl (fun w19 h19 => ?_)
      refine hK _ _ ?_; clear hK K; try clear Q'
      iterate 1 (refine wpList_plainQ rfl (fun K Q' hK => ?_); go_simp; refine hK _ _ ?_; clear hK K; try clear Q')
      refine wpList_nil ?_
      show Code.wp _ _ _ _ _
      refine wp_seq ?_
      refine wp_region_lit ?_
      have c_2_0 := h19.cell 2 rfl 0 rfl
      have c_3_0 := h19.cell 3 rfl 0 rfl
      iterate 5 (refine wpList_plainQ rfl (fun K Q' hK => ?_); go_simp; refine hK _ _ ?_; clear hK K; try clear Q')
      clear c_2_0 c_3_0
      -- stops at: eff:call (Go.Op.call {'callee': (Go.Callee.value (Go.Operand.tmp 29)), 'args': [(Go.Operand.tmp 30), (Go.Operand.tmp 31), (Go.Operand.tmp 32)], 'argTypes': [29, 25, 29]} slot 33
      refine wpList_plainQ rfl (fun K Q' hK => ?_); go_simp
      refine (meld_ok H1 _ m _ _ p1 p2 _ _ h19.pre (by have := hsz2.out; omega) hp1 hp2).mono ?_
      rintro e wE ⟨r, H2, rfl, hpE, hrE⟩
      rw [show PT.meldN (.node x k .nil) (.node y j .nil) = 1 from rfl] at hpE
      have h20 := h19.call hpE
      refine hK _ _ ?_; clear hK K; try clear Q'
      refine wpList_plainQ rfl (fun K Q' hK => ?_); go_simp
      refine h20.k_alloc (fun w21 h21 => ?_)
      refine hK _ _ ?_; clear hK K; try clear Q'
      -- stops at: eff:Builtin.append (Go.Op.call {'callee': (Go.Callee.builtin Go.Builtin.append), 'args': [(Go.Operand.tmp 28), (Go.Operand.tmp 34)], 'argTypes': [30, 30]}) slot 35
      refine wpList_plainQ rfl (fun K Q' hK => ?_)
      refine h21.op_append 0 rfl rfl infoH rfl [Value.pointer r] rfl rfl (fun j u hj => ?_) (by simp [Value.oneCell']) (by omega) (by unfold maxLen; omega) (fun v' wF hF oF hnF => ?_)
      · match j, hj with
        | 0, hj => exact h21.cell 4 rfl 0 hj
      obtain ⟨g', cap', rfl⟩ := hF.row_some 0 rfl (by omega)
      refine hK _ _ ?_; clear hK K; try clear Q'
      iterate 1 (refine wpList_plainQ rfl (fun K Q' hK => ?_); go_simp; refine hK _ _ ?_; clear hK K; try clear Q')
      refine wpList_nil ?_
      show Code.wp _ _ _ _ _
      refine wp_region_lit ?_
      have c_0_0 := hF.cell 0 rfl 0 rfl
      iterate 1 (refine wpList_plainQ rfl (fun K Q' hK => ?_); go_simp; refine hK _ _ ?_; clear hK K; try clear Q')
      clear c_0_0
      -- stops at: eff:call (Go.Op.call {'callee': (Go.Callee.value (Go.Operand.func 38)), 'args': [(Go.Operand.tmp 36), (Go.Operand.const (Go.Value.int Go.IntKind.i64 2))], 'argTypes': [6 slot 37
      refine wpList_plainQ rfl (fun K Q' hK => ?_); go_simp
      refine (CHp.drop_ok H2 _ q _ 2 (show _ ≤ _ by omega) hF.fits (hqa.mono hpE.le)).mono ?_
      rintro e wG ⟨q3, rfl, hkG, hq3⟩
      have h22 := hF.callk hkG
      refine hK _ _ ?_; clear hK K; try clear Q'
      have c_0 := h22.cell 0 rfl 0 rfl
      have f_0 := h22.free 0 rfl 0
      refine wpList_plainQ rfl (fun K Q' hK => ?_); go_simp
      clear c_0 f_0
      refine h22.k_set 0 rfl (fun w23 h23 => ?_)
      refine hK _ _ ?_; clear hK K; try clear Q'
      refine wpList_nil ?_
      -- stops at: end ('roundend',)
      show _ ∧ _
      go_roundw
      case rel =>
        refine ⟨n, us2, ds ++ [r], ts ++ [_], q3, H2, ?_, ?_, ?_, ?_, hq3, hu2.mono hpE.le, (hds.mono hpE.le).snoc hrE⟩
        · have := hts.out
          show _ = _
          rw [List.append_assoc]; exact this
        · exact hlast
        · have := hsz2.out
          show _ ≤ _
          omega
        · rw [show (ds ++ [r]).length = ds.length + 1 by simp, List.map_append]
          rw [show c + (((ts ++ [PT.meld (.node x k .nil) (.node y j .nil)]).length : Nat) : Int) = c + (ts.length : Int) + ((1 : Nat) : Int) by simp; omega, show d + (((ts ++ [PT.meld (.node x k .nil) (.node y j .nil)]).length : Nat) : Int) = d + (ts.length : Int) + ((1 : Nat) : Int) by simp; omega]
          exact h23.take 2
      case measure =>
        have := hdl.out
        have h5 := congrArg List.length hts.out
        simp [PT.twos] at h5
        simp [lenOf]
        omega

set_option maxRecDepth 100000 in
set_option maxHeartbeats 2000000 in
theorem pop_ok (H : GH) (w : World) (m : Option Nat) (c d : Int) (p : Option Addr) (t : PT) (hpre : Pre w H m c d) (hn : PT.size t < 900000) (ht : HeapR H p t) :
    Calls Tryd.prog 12 #[hV p, mV m] w fun e w' => ∃ r H', e = .returned (.tuple #[hV r, .bool (PT.min? t).isSome]) ∧ Post w H m w' H' (c + PT.popN t) (d + PT.popN t) ∧ HeapR H' r (PT.pop t) := by
  rcases ht with ⟨rfl, rfl⟩ | ⟨y, j, rfl, ht⟩
  · skip
    go_enter Tryd.func12, Tryd.ntmps12
    have h0 := St.start hpre
    refine wp_seq ?_
    refine wp_region_lit ?_
    refine wpList_plainQ rfl (fun K Q' hK => ?_); go_simp
    refine h0.k_alloc (fun w1 h1 => ?_)
    refine hK _ _ ?_; clear hK K; try clear Q'
    refine wpList_plainQ rfl (fun K Q' hK => ?_); go_simp
    refine h1.k_alloc (fun w2 h2 => ?_)
    refine hK _ _ ?_; clear hK K; try clear Q'
    iterate 1 (refine wpList_plainQ rfl (fun K Q' hK => ?_); go_simp; refine hK _ _ ?_; clear hK K; try clear Q')
    refine wpList_nil ?_
    show Code.wp _ _ _ _ _
    refine wp_seq ?_
    refine wp_seq ?_
    refine wp_region_lit ?_
    have c_0_0 := h2.cell 0 rfl 0 rfl
    iterate 3 (refine wpList_plainQ rfl (fun K Q' hK => ?_); go_simp; refine hK _ _ ?_; clear hK K; try clear Q')
    clear c_0_0
    refine wpList_nil ?_
    show Code.wp _ _ _ _ _
    -- stops at: cond
    refine wp_cond_true (rfl) ?_
    refine wp_seq ?_
    refine wp_region_lit ?_
    have c_0_0 := h2.cell 0 rfl 0 rfl
    iterate 1 (refine wpList_plainQ rfl (fun K Q' hK => ?_); go_simp; refine hK _ _ ?_; clear hK K; try clear Q')
    clear c_0_0
    have c_0 := h2.cell 1 rfl 0 rfl
    have f_0 := h2.free 1 rfl 0
    refine wpList_plainQ rfl (fun K Q' hK => ?_); go_simp
    clear c_0 f_0
    refine h2.k_set 1 rfl (fun w3 h3 => ?_)
    refine hK _ _ ?_; clear hK K; try clear Q'
    iterate 1 (refine wpList_plainQ rfl (fun K Q' hK => ?_); go_simp; refine hK _ _ ?_; clear hK K; try clear Q')
    refine wpList_nil ?_
    show Code.wp _ _ _ _ _
    -- stops at: ret
    refine wp_ret ?_
    have r_1_0 := h3.cell 1 rfl 0 rfl
    first | show bodyPost _ _ _ _ _ _ | (simp only [Exit.then]; show bodyPost _ _ _ _ _ _) | (simp only [Exit.inBlock]; show bodyPost _ _ _ _ _ _) | (simp only [Exit.inBlock, Exit.then]; show bodyPost _ _ _ _ _ _) | (simp only [Exit.noGoto, Exit.inBlock, Exit.then]; show bodyPost _ _ _ _ _ _)
    refine bodyPost_ret (v := ?_) ?_ rfl ?_
    rotate_left
    · simp only [results, Tryd.results12]; go_simp; with_reducible rfl
    clear r_1_0
    refine ⟨none, H, rfl, ?_, HeapR.nil H⟩
    simpa [PT.popN] using h3.post
  · obtain ⟨bt, qt, nt, kt, _, e, ys, hbt, yc, yk, _⟩ := ht
    simp only [List.cons.injEq] at e
    obtain ⟨rfl, _⟩ := e
    rw [size_node] at hn
    have hnj : PT.size j < 900000 := by simp [PT.size, PT.els] at *; omega
    go_enter Tryd.func12, Tryd.ntmps12
    have h0 := St.start hpre
    refine wp_seq ?_
    refine wp_region_lit ?_
    refine wpList_plainQ rfl (fun K Q' hK => ?_); go_simp
    refine h0.k_alloc (fun w1 h1 => ?_)
    refine hK _ _ ?_; clear hK K; try clear Q'
    refine wpList_plainQ rfl (fun K Q' hK => ?_); go_simp
    refine h1.k_alloc (fun w2 h2 => ?_)
    refine hK _ _ ?_; clear hK K; try clear Q'
    iterate 1 (refine wpList_plainQ rfl (fun K Q' hK => ?_); go_simp; refine hK _ _ ?_; clear hK K; try clear Q')
    refine wpList_nil ?_
    show Code.wp _ _ _ _ _
    refine wp_seq ?_
    refine wp_seq ?_
    refine wp_region_lit ?_
    have c_0_0 := h2.cell 0 rfl 0 rfl
    iterate 3 (refine wpList_plainQ rfl (fun K Q' hK => ?_); go_simp; refine hK _ _ ?_; clear hK K; try clear Q')
    clear c_0_0
    refine wpList_nil ?_
    show Code.wp _ _ _ _ _
    -- stops at: cond
    refine wp_cond_false (rfl) ?_
    refine wp_skip ?_
    show Code.wp _ _ _ _ _
    refine wp_seq ?_
    refine wp_region_lit ?_
    have c_0_0 := h2.cell 0 rfl 0 rfl
    have c_hbt_2 := h2.gh hbt 2 rfl
    iterate 6 (refine wpList_plainQ rfl (fun K Q' hK => ?_); go_simp; refine hK _ _ ?_; clear hK K; try clear Q')
    clear c_0_0 c_hbt_2
    -- stops at: eff:call (Go.Op.call {'callee': (Go.Callee.value (Go.Operand.func 26)), 'args': [(Go.Operand.tmp 10), (Go.Operand.tmp 15)], 'argTypes': [25, 67]}) slot 16
    refine wpList_plainQ rfl (fun K Q' hK => ?_); go_simp
    refine (pair_ok H _ m _ _ qt j kt h2.pre hnj yc yk).mono ?_
    rintro e wE ⟨r, H8, rfl, hpE, hrE⟩
    have h3 := h2.call hpE
    have hbt_3 := hpE.le _ _ hbt
    refine hK _ _ ?_; clear hK K; try clear Q'
    have c_0 := h3.cell 1 rfl 0 rfl
    have f_0 := h3.free 1 rfl 0
    refine wpList_plainQ rfl (fun K Q' hK => ?_); go_simp
    clear c_0 f_0
    refine h3.k_set 1 rfl (fun w4 h4 => ?_)
    refine hK _ _ ?_; clear hK K; try clear Q'
    iterate 1 (refine wpList_plainQ rfl (fun K Q' hK => ?_); go_simp; refine hK _ _ ?_; clear hK K; try clear Q')
    refine wpList_nil ?_
    show Code.wp _ _ _ _ _
    -- stops at: ret
    refine wp_ret ?_
    have r_1_0 := h4.cell 1 rfl 0 rfl
    first | show bodyPost _ _ _ _ _ _ | (simp only [Exit.then]; show bodyPost _ _ _ _ _ _) | (simp only [Exit.inBlock]; show bodyPost _ _ _ _ _ _) | (simp only [Exit.inBlock, Exit.then]; show bodyPost _ _ _ _ _ _) | (simp only [Exit.noGoto, Exit.inBlock, Exit.then]; show bodyPost _ _ _ _ _ _)
    refine bodyPost_ret (v := ?_) ?_ rfl ?_
    rotate_left
    · simp only [results, Tryd.results12]; go_simp; with_reducible rfl
    clear r_1_0
    exact ⟨r, H8, rfl, h4.post, hrE⟩
end Go.Proofs.YtnimanhoegbicaaDoor
