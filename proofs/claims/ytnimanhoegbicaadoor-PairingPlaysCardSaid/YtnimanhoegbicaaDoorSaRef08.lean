/-
The document's pairing heaps: values, melding, putting in, how many, the least one.
-/
import Derived.Test.YtnimanhoegbicaaDoorPaHeap
import Derived.Test.YtnimanhoegbicaaDoorNbRef
namespace Go.Proofs.YtnimanhoegbicaaDoor
open Go Go.RowKit
set_option linter.unusedVariables false

/-- Trees side by side as cells. -/
def KidsV (H : GH) : PT → List Value → Prop
  | .nil, cs => cs = []
  | .node x k n, cs => ∃ (kv : Value) (kcs rest : List Value) (sz : Nat), cs = .int .i64 x.1 :: .int .i64 x.2 :: kv :: .int .i64 (sz : Int) :: rest ∧ Hid (sz = k.els.length + 1) ∧ SliceRep H 4 kv k.len kcs ∧ KidsV H k kcs ∧ KidsV H n rest
theorem KidsV.mono {H H' : GH} {t : PT} {cs : List Value} (h : KidsV H t cs) (hl : H.le H') : KidsV H' t cs := by
  induction t generalizing cs with
  | nil => exact h
  | node x k n ih1 ih2 =>
    obtain ⟨kv, kcs, rest, sz, h1, h2, h3, h4, h5⟩ := h
    exact ⟨kv, kcs, rest, sz, h1, h2, h3.mono hl, ih1 h4, ih2 h5⟩
theorem KidsV.length {H : GH} {t : PT} {cs : List Value} (h : KidsV H t cs) : cs.length = t.len * 4 := by
  induction t generalizing cs with
  | nil => obtain rfl : cs = [] := h; rfl
  | node x k n ih1 ih2 =>
    obtain ⟨kv, kcs, rest, sz, rfl, h2, h3, h4, h5⟩ := h
    simp [PT.len, ih2 h5]; omega
theorem KidsV.one {H : GH} {t : PT} {cs : List Value} (h : KidsV H t cs) : ∀ u ∈ cs, u.oneCell' = true := by
  induction t generalizing cs with
  | nil => obtain rfl : cs = [] := h; simp
  | node x k n ih1 ih2 =>
    obtain ⟨kv, kcs, rest, sz, rfl, h2, h3, h4, h5⟩ := h
    obtain ⟨a, c, rfl, _, _⟩ := h3.nil_or
    intro u hu
    simp only [List.mem_cons] at hu
    rcases hu with rfl | rfl | rfl | rfl | hu
    · rfl
    · rfl
    · rfl
    · rfl
    · exact ih2 h5 u hu
/-- A heap as the document's value. -/
abbrev refV (x : El) (kv : Value) (sz : Nat) : Value := .agg #[.int .i64 x.1, .int .i64 x.2, kv, .int .i64 (sz : Int)]
def RefR (H : GH) (t : PT) (v : Value) : Prop := (t = .nil ∧ v = refV (0, 0) (.slice none 0 0) 0) ∨
  ∃ (x : El) (k : PT) (kv : Value) (kcs : List Value) (sz : Nat), t = .node x k .nil ∧ v = refV x kv sz ∧ Hid (sz = k.els.length + 1) ∧ SliceRep H 4 kv k.len kcs ∧ KidsV H k kcs
theorem RefR.mono {H H' : GH} {t : PT} {v : Value} (h : RefR H t v) (hl : H.le H') : RefR H' t v :=
  h.imp id fun ⟨x, k, kv, kcs, sz, h1, h2, h3, h4, h5⟩ => ⟨x, k, kv, kcs, sz, h1, h2, h3, h4.mono hl, h5.mono hl⟩
theorem RefR.nil (H : GH) : RefR H .nil (refV (0, 0) (.slice none 0 0) 0) := .inl ⟨rfl, rfl⟩
theorem infoRH : ElemInfo Tryd.prog 33 35 (refV (0, 0) (.slice none 0 0) 0) 4 48 :=
  ⟨Tryd.underlying33, info_parts (by kernel_rfl), rfl, by decide⟩

set_option maxRecDepth 100000 in
set_option maxHeartbeats 4000000 in
theorem refmeld_ok (H : GH) (w : World) (s t : PT) (u v : Value) (hf : Fits w H) (hn : PT.size s + PT.size t < 1000000) (hs : RefR H s u) (ht : RefR H t v) :
    Calls Tryd.prog 11 #[u, v] w fun e w' => ∃ r H', e = .returned (.tuple #[r, .int .i64 (2 * PT.meldN s t : Nat)]) ∧ Post w H none w' H' 0 0 ∧ RefR H' (PT.meld s t) r := by
  have hpre : Pre w H none 0 0 := Pre.none hf 0 0
  rcases hs with ⟨rfl, rfl⟩ | ⟨x, k, kv, kcs, sz, rfl, rfl, hsz, hk, hkk⟩
  · rcases ht with ⟨rfl, rfl⟩ | ⟨y, j, jv, jcs, tz, rfl, rfl, htz, hj, hjj⟩
    · skip
      go_enter Tryd.func11, Tryd.ntmps11
      have h0 := St.start hpre
      refine wp_seq ?_
      repeat (first | simp only [List.nil_append] at h0 | simp only [List.cons_append] at h0 | simp only [List.set_cons_zero] at h0 | simp only [List.set_cons_succ] at h0 | simp only [List.eraseIdx_zero] at h0 | simp only [List.tail_cons] at h0 | simp only [List.eraseIdx_cons_zero] at h0 | simp only [List.eraseIdx_cons_succ] at h0 | simp only [List.setIfInBounds_toArray] at h0)
      refine wp_region_lit ?_
      refine wpList_plainQ rfl (fun K Q' hK => ?_); go_simp
      refine h0.k_alloc (fun w1 h1 => ?_)
      refine hK _ _ ?_; clear hK K; try clear Q'
      refine wpList_plainQ rfl (fun K Q' hK => ?_); go_simp
      refine h1.k_alloc (fun w2 h2 => ?_)
      refine hK _ _ ?_; clear hK K; try clear Q'
      refine wpList_plainQ rfl (fun K Q' hK => ?_); go_simp
      refine h2.k_alloc (fun w3 h3 => ?_)
      refine hK _ _ ?_; clear hK K; try clear Q'
      iterate 1 (refine wpList_plainQ rfl (fun K Q' hK => ?_); go_simp; refine hK _ _ ?_; clear hK K; try clear Q')
      refine wpList_nil ?_
      show Code.wp _ _ _ _ _
      refine wp_seq ?_
      refine wp_seq ?_
      repeat (first | simp only [List.nil_append] at h3 | simp only [List.cons_append] at h3 | simp only [List.set_cons_zero] at h3 | simp only [List.set_cons_succ] at h3 | simp only [List.eraseIdx_zero] at h3 | simp only [List.tail_cons] at h3 | simp only [List.eraseIdx_cons_zero] at h3 | simp only [List.eraseIdx_cons_succ] at h3 | simp only [List.setIfInBounds_toArray] at h3)
      refine wp_region_lit ?_
      have c_0_3 := h3.cell 0 rfl 3 rfl
      iterate 3 (refine wpList_plainQ rfl (fun K Q' hK => ?_); go_simp; refine hK _ _ ?_; clear hK K; try clear Q')
      clear c_0_3
      refine wpList_nil ?_
      show Code.wp _ _ _ _ _
      -- stops at: cond
      refine wp_cond_true (rfl) ?_
      refine wp_seq ?_
      refine wp_region_lit ?_
      have c_1_0 := h3.cell 1 rfl 0 rfl
      have c_1_1 := h3.cell 1 rfl 1 rfl
      have c_1_2 := h3.cell 1 rfl 2 rfl
      have c_1_3 := h3.cell 1 rfl 3 rfl
      iterate 1 (refine wpList_plainQ rfl (fun K Q' hK => ?_); go_simp; refine hK _ _ ?_; clear hK K; try clear Q')
      clear c_1_0 c_1_1 c_1_2 c_1_3
      have c_0 := h3.cell 2 rfl 0 rfl
      have f_0 := h3.free 2 rfl 0
      have c_1 := h3.cell 2 rfl 1 rfl
      have f_1 := h3.free 2 rfl 1
      have c_2 := h3.cell 2 rfl 2 rfl
      have f_2 := h3.free 2 rfl 2
      have c_3 := h3.cell 2 rfl 3 rfl
      have f_3 := h3.free 2 rfl 3
      refine wpList_plainQ rfl (fun K Q' hK => ?_); go_simp
      clear c_0 f_0 c_1 f_1 c_2 f_2 c_3 f_3
      refine (((h3.set (i := 2) rfl 0 _).set (i := 2) rfl 1 _).set (i := 2) rfl 2 _).k_set 2 rfl (fun w4 h4 => ?_)
      refine hK _ _ ?_; clear hK K; try clear Q'
      iterate 1 (refine wpList_plainQ rfl (fun K Q' hK => ?_); go_simp; refine hK _ _ ?_; clear hK K; try clear Q')
      refine wpList_nil ?_
      show Code.wp _ _ _ _ _
      -- stops at: ret
      refine wp_ret ?_
      have r_2_0 := h4.cell 2 rfl 0 rfl
      have r_2_1 := h4.cell 2 rfl 1 rfl
      have r_2_2 := h4.cell 2 rfl 2 rfl
      have r_2_3 := h4.cell 2 rfl 3 rfl
      first | show bodyPost _ _ _ _ _ _ | (simp only [Exit.then]; show bodyPost _ _ _ _ _ _) | (simp only [Exit.inBlock]; show bodyPost _ _ _ _ _ _) | (simp only [Exit.inBlock, Exit.then]; show bodyPost _ _ _ _ _ _) | (simp only [Exit.noGoto, Exit.inBlock, Exit.then]; show bodyPost _ _ _ _ _ _)
      refine bodyPost_ret (v := ?_) ?_ rfl ?_
      rotate_left
      · simp only [results, Tryd.results11]; go_simp; with_reducible rfl
      clear r_2_0 r_2_1 r_2_2 r_2_3
      exact ⟨_, H, rfl, h4.post, RefR.nil H⟩
    · obtain ⟨aj, cj, rfl, _, _⟩ := hj.nil_or
      go_enter Tryd.func11, Tryd.ntmps11
      have h0 := St.start hpre
      refine wp_seq ?_
      repeat (first | simp only [List.nil_append] at h0 | simp only [List.cons_append] at h0 | simp only [List.set_cons_zero] at h0 | simp only [List.set_cons_succ] at h0 | simp only [List.eraseIdx_zero] at h0 | simp only [List.tail_cons] at h0 | simp only [List.eraseIdx_cons_zero] at h0 | simp only [List.eraseIdx_cons_succ] at h0 | simp only [List.setIfInBounds_toArray] at h0)
      refine wp_region_lit ?_
      refine wpList_plainQ rfl (fun K Q' hK => ?_); go_simp
      refine h0.k_alloc (fun w1 h1 => ?_)
      refine hK _ _ ?_; clear hK K; try clear Q'
      refine wpList_plainQ rfl (fun K Q' hK => ?_); go_simp
      refine h1.k_alloc (fun w2 h2 => ?_)
      refine hK _ _ ?_; clear hK K; try clear Q'
      refine wpList_plainQ rfl (fun K Q' hK => ?_); go_simp
      refine h2.k_alloc (fun w3 h3 => ?_)
      refine hK _ _ ?_; clear hK K; try clear Q'
      iterate 1 (refine wpList_plainQ rfl (fun K Q' hK => ?_); go_simp; refine hK _ _ ?_; clear hK K; try clear Q')
      refine wpList_nil ?_
      show Code.wp _ _ _ _ _
      refine wp_seq ?_
      refine wp_seq ?_
      repeat (first | simp only [List.nil_append] at h3 | simp only [List.cons_append] at h3 | simp only [List.set_cons_zero] at h3 | simp only [List.set_cons_succ] at h3 | simp only [List.eraseIdx_zero] at h3 | simp only [List.tail_cons] at h3 | simp only [List.eraseIdx_cons_zero] at h3 | simp only [List.eraseIdx_cons_succ] at h3 | simp only [List.setIfInBounds_toArray] at h3)
      refine wp_region_lit ?_
      have c_0_3 := h3.cell 0 rfl 3 rfl
      iterate 3 (refine wpList_plainQ rfl (fun K Q' hK => ?_); go_simp; refine hK _ _ ?_; clear hK K; try clear Q')
      clear c_0_3
      refine wpList_nil ?_
      show Code.wp _ _ _ _ _
      -- stops at: cond
      refine wp_cond_true (rfl) ?_
      refine wp_seq ?_
      refine wp_region_lit ?_
      have c_1_0 := h3.cell 1 rfl 0 rfl
      have c_1_1 := h3.cell 1 rfl 1 rfl
      have c_1_2 := h3.cell 1 rfl 2 rfl
      have c_1_3 := h3.cell 1 rfl 3 rfl
      iterate 1 (refine wpList_plainQ rfl (fun K Q' hK => ?_); go_simp; refine hK _ _ ?_; clear hK K; try clear Q')
      clear c_1_0 c_1_1 c_1_2 c_1_3
      have c_0 := h3.cell 2 rfl 0 rfl
      have f_0 := h3.free 2 rfl 0
      have c_1 := h3.cell 2 rfl 1 rfl
      have f_1 := h3.free 2 rfl 1
      have c_2 := h3.cell 2 rfl 2 rfl
      have f_2 := h3.free 2 rfl 2
      have c_3 := h3.cell 2 rfl 3 rfl
      have f_3 := h3.free 2 rfl 3
      refine wpList_plainQ rfl (fun K Q' hK => ?_); go_simp
      clear c_0 f_0 c_1 f_1 c_2 f_2 c_3 f_3
      refine (((h3.set (i := 2) rfl 0 _).set (i := 2) rfl 1 _).set (i := 2) rfl 2 _).k_set 2 rfl (fun w4 h4 => ?_)
      refine hK _ _ ?_; clear hK K; try clear Q'
      iterate 1 (refine wpList_plainQ rfl (fun K Q' hK => ?_); go_simp; refine hK _ _ ?_; clear hK K; try clear Q')
      refine wpList_nil ?_
      show Code.wp _ _ _ _ _
      -- stops at: ret
      refine wp_ret ?_
      have r_2_0 := h4.cell 2 rfl 0 rfl
      have r_2_1 := h4.cell 2 rfl 1 rfl
      have r_2_2 := h4.cell 2 rfl 2 rfl
      have r_2_3 := h4.cell 2 rfl 3 rfl
      first | show bodyPost _ _ _ _ _ _ | (simp only [Exit.then]; show bodyPost _ _ _ _ _ _) | (simp only [Exit.inBlock]; show bodyPost _ _ _ _ _ _) | (simp only [Exit.inBlock, Exit.then]; show bodyPost _ _ _ _ _ _) | (simp only [Exit.noGoto, Exit.inBlock, Exit.then]; show bodyPost _ _ _ _ _ _)
      refine bodyPost_ret (v := ?_) ?_ rfl ?_
      rotate_left
      · simp only [results, Tryd.results11]; go_simp; with_reducible rfl
      clear r_2_0 r_2_1 r_2_2 r_2_3
      exact ⟨_, H, rfl, h4.post, .inr ⟨y, j, _, jcs, tz, rfl, rfl, htz, hj, hjj⟩⟩
  · obtain ⟨ak, ck, rfl, _, _⟩ := hk.nil_or
    have d1 : ((sz : Int) == 0) = false := beq_eq_false_iff_ne.2 (by have := hsz.out; omega)
    rcases ht with ⟨rfl, rfl⟩ | ⟨y, j, jv, jcs, tz, rfl, rfl, htz, hj, hjj⟩
    · skip
      go_enter Tryd.func11, Tryd.ntmps11
      have h0 := St.start hpre
      refine wp_seq ?_
      repeat (first | simp only [List.nil_append] at h0 | simp only [List.cons_append] at h0 | simp only [List.set_cons_zero] at h0 | simp only [List.set_cons_succ] at h0 | simp only [List.eraseIdx_zero] at h0 | simp only [List.tail_cons] at h0 | simp only [List.eraseIdx_cons_zero] at h0 | simp only [List.eraseIdx_cons_succ] at h0 | simp only [List.setIfInBounds_toArray] at h0)
      refine wp_region_lit ?_
      refine wpList_plainQ rfl (fun K Q' hK => ?_); go_simp
      refine h0.k_alloc (fun w1 h1 => ?_)
      refine hK _ _ ?_; clear hK K; try clear Q'
      refine wpList_plainQ rfl (fun K Q' hK => ?_); go_simp
      refine h1.k_alloc (fun w2 h2 => ?_)
      refine hK _ _ ?_; clear hK K; try clear Q'
      refine wpList_plainQ rfl (fun K Q' hK => ?_); go_simp
      refine h2.k_alloc (fun w3 h3 => ?_)
      refine hK _ _ ?_; clear hK K; try clear Q'
      iterate 1 (refine wpList_plainQ rfl (fun K Q' hK => ?_); go_simp; refine hK _ _ ?_; clear hK K; try clear Q')
      refine wpList_nil ?_
      show Code.wp _ _ _ _ _
      refine wp_seq ?_
      refine wp_seq ?_
      repeat (first | simp only [List.nil_append] at h3 | simp only [List.cons_append] at h3 | simp only [List.set_cons_zero] at h3 | simp only [List.set_cons_succ] at h3 | simp only [List.eraseIdx_zero] at h3 | simp only [List.tail_cons] at h3 | simp only [List.eraseIdx_cons_zero] at h3 | simp only [List.eraseIdx_cons_succ] at h3 | simp only [List.setIfInBounds_toArray] at h3)
      refine wp_region_lit ?_
      have c_0_3 := h3.cell 0 rfl 3 rfl
      iterate 3 (refine wpList_plainQ rfl (fun K Q' hK => ?_); go_simp; refine hK _ _ ?_; clear hK K; try clear Q')
      clear c_0_3
      refine wpList_nil ?_
      show Code.wp _ _ _ _ _
      -- stops at: cond
      refine wp_cond_false (rfl) ?_
      refine wp_skip ?_
      show Code.wp _ _ _ _ _
      refine wp_seq ?_
      refine wp_seq ?_
      refine wp_region_lit ?_
      have c_1_3 := h3.cell 1 rfl 3 rfl
      iterate 3 (refine wpList_plainQ rfl (fun K Q' hK => ?_); go_simp; refine hK _ _ ?_; clear hK K; try clear Q')
      clear c_1_3
      refine wpList_nil ?_
      show Code.wp _ _ _ _ _
      -- stops at: cond
      refine wp_cond_true (rfl) ?_
      refine wp_seq ?_
      refine wp_region_lit ?_
      have c_0_0 := h3.cell 0 rfl 0 rfl
      have c_0_1 := h3.cell 0 rfl 1 rfl
      have c_0_2 := h3.cell 0 rfl 2 rfl
      have c_0_3 := h3.cell 0 rfl 3 rfl
      iterate 1 (refine wpList_plainQ rfl (fun K Q' hK => ?_); go_simp; refine hK _ _ ?_; clear hK K; try clear Q')
      clear c_0_0 c_0_1 c_0_2 c_0_3
      have c_0 := h3.cell 2 rfl 0 rfl
      have f_0 := h3.free 2 rfl 0
      have c_1 := h3.cell 2 rfl 1 rfl
      have f_1 := h3.free 2 rfl 1
      have c_2 := h3.cell 2 rfl 2 rfl
      have f_2 := h3.free 2 rfl 2
      have c_3 := h3.cell 2 rfl 3 rfl
      have f_3 := h3.free 2 rfl 3
      refine wpList_plainQ rfl (fun K Q' hK => ?_); go_simp
      clear c_0 f_0 c_1 f_1 c_2 f_2 c_3 f_3
      refine (((h3.set (i := 2) rfl 0 _).set (i := 2) rfl 1 _).set (i := 2) rfl 2 _).k_set 2 rfl (fun w4 h4 => ?_)
      refine hK _ _ ?_; clear hK K; try clear Q'
      iterate 1 (refine wpList_plainQ rfl (fun K Q' hK => ?_); go_simp; refine hK _ _ ?_; clear hK K; try clear Q')
      refine wpList_nil ?_
      show Code.wp _ _ _ _ _
      -- stops at: ret
      refine wp_ret ?_
      have r_2_0 := h4.cell 2 rfl 0 rfl
      have r_2_1 := h4.cell 2 rfl 1 rfl
      have r_2_2 := h4.cell 2 rfl 2 rfl
      have r_2_3 := h4.cell 2 rfl 3 rfl
      first | show bodyPost _ _ _ _ _ _ | (simp only [Exit.then]; show bodyPost _ _ _ _ _ _) | (simp only [Exit.inBlock]; show bodyPost _ _ _ _ _ _) | (simp only [Exit.inBlock, Exit.then]; show bodyPost _ _ _ _ _ _) | (simp only [Exit.noGoto, Exit.inBlock, Exit.then]; show bodyPost _ _ _ _ _ _)
      refine bodyPost_ret (v := ?_) ?_ rfl ?_
      rotate_left
      · simp only [results, Tryd.results11]; go_simp; with_reducible rfl
      clear r_2_0 r_2_1 r_2_2 r_2_3
      exact ⟨_, H, rfl, h4.post, .inr ⟨x, k, _, kcs, sz, rfl, rfl, hsz, hk, hkk⟩⟩
    · obtain ⟨aj, cj, rfl, _, _⟩ := hj.nil_or
      have d2 : ((tz : Int) == 0) = false := beq_eq_false_iff_ne.2 (by have := htz.out; omega)
      obtain ⟨st, hst⟩ : ∃ n, Hid (sz + tz = n) := ⟨_, show _ = _ from rfl⟩
      have hst2 : st < 1000000 := by have := hst.out; have := hsz.out; have := htz.out; simp [PT.size, PT.els] at hn; omega
      have e1 : IntKind.i64.wrap ((sz : Int) + (tz : Int)) = (st : Int) := by have := hst.out; rw [IntWalk.i64_in _ (by omega)]; omega
      have lk : k.len < 1000000 := by have := hsz.out; have := hst.out; have := len_le_size k; omega
      have lj : j.len < 1000000 := by have := htz.out; have := hst.out; have := len_le_size j; omega
      cases hlt : El.lt y x with
      | false =>
        have hme : PT.meld (.node x k .nil) (.node y j .nil) = PT.node x (.node y j k) .nil := by rw [PT.meld_node, if_neg (by simp [hlt])]
        go_enter Tryd.func11, Tryd.ntmps11
        have h0 := St.start hpre
        refine wp_seq ?_
        repeat (first | simp only [List.nil_append] at h0 | simp only [List.cons_append] at h0 | simp only [List.set_cons_zero] at h0 | simp only [List.set_cons_succ] at h0 | simp only [List.eraseIdx_zero] at h0 | simp only [List.tail_cons] at h0 | simp only [List.eraseIdx_cons_zero] at h0 | simp only [List.eraseIdx_cons_succ] at h0 | simp only [List.setIfInBounds_toArray] at h0)
        refine wp_region_lit ?_
        refine wpList_plainQ rfl (fun K Q' hK => ?_); go_simp
        refine h0.k_alloc (fun w1 h1 => ?_)
        refine hK _ _ ?_; clear hK K; try clear Q'
        refine wpList_plainQ rfl (fun K Q' hK => ?_); go_simp
        refine h1.k_alloc (fun w2 h2 => ?_)
        refine hK _ _ ?_; clear hK K; try clear Q'
        refine wpList_plainQ rfl (fun K Q' hK => ?_); go_simp
        refine h2.k_alloc (fun w3 h3 => ?_)
        refine hK _ _ ?_; clear hK K; try clear Q'
        iterate 1 (refine wpList_plainQ rfl (fun K Q' hK => ?_); go_simp; refine hK _ _ ?_; clear hK K; try clear Q')
        refine wpList_nil ?_
        show Code.wp _ _ _ _ _
        refine wp_seq ?_
        refine wp_seq ?_
        repeat (first | simp only [List.nil_append] at h3 | simp only [List.cons_append] at h3 | simp only [List.set_cons_zero] at h3 | simp only [List.set_cons_succ] at h3 | simp only [List.eraseIdx_zero] at h3 | simp only [List.tail_cons] at h3 | simp only [List.eraseIdx_cons_zero] at h3 | simp only [List.eraseIdx_cons_succ] at h3 | simp only [List.setIfInBounds_toArray] at h3)
        refine wp_region_lit ?_
        have c_0_3 := h3.cell 0 rfl 3 rfl
        iterate 3 (refine wpList_plainQ rfl (fun K Q' hK => ?_); go_simp; refine hK _ _ ?_; clear hK K; try clear Q')
        clear c_0_3
        refine wpList_nil ?_
        show Code.wp _ _ _ _ _
        -- stops at: cond
        refine wp_cond_false (rfl) ?_
        refine wp_skip ?_
        show Code.wp _ _ _ _ _
        refine wp_seq ?_
        refine wp_seq ?_
        refine wp_region_lit ?_
        have c_1_3 := h3.cell 1 rfl 3 rfl
        iterate 3 (refine wpList_plainQ rfl (fun K Q' hK => ?_); go_simp; refine hK _ _ ?_; clear hK K; try clear Q')
        clear c_1_3
        refine wpList_nil ?_
        show Code.wp _ _ _ _ _
        -- stops at: cond
        refine wp_cond_false (rfl) ?_
        refine wp_skip ?_
        show Code.wp _ _ _ _ _
        refine wp_seq ?_
        refine wp_region_lit ?_
        have c_0_0 := h3.cell 0 rfl 0 rfl
        have c_0_1 := h3.cell 0 rfl 1 rfl
        have c_0_2 := h3.cell 0 rfl 2 rfl
        have c_0_3 := h3.cell 0 rfl 3 rfl
        iterate 1 (refine wpList_plainQ rfl (fun K Q' hK => ?_); go_simp; refine hK _ _ ?_; clear hK K; try clear Q')
        clear c_0_0 c_0_1 c_0_2 c_0_3
        refine wpList_plainQ rfl (fun K Q' hK => ?_); go_simp
        refine h3.k_alloc (fun w4 h4 => ?_)
        refine hK _ _ ?_; clear hK K; try clear Q'
        have c_0 := h4.cell 3 rfl 0 rfl
        have f_0 := h4.free 3 rfl 0
        have c_1 := h4.cell 3 rfl 1 rfl
        have f_1 := h4.free 3 rfl 1
        have c_2 := h4.cell 3 rfl 2 rfl
        have f_2 := h4.free 3 rfl 2
        have c_3 := h4.cell 3 rfl 3 rfl
        have f_3 := h4.free 3 rfl 3
        refine wpList_plainQ rfl (fun K Q' hK => ?_); go_simp
        clear c_0 f_0 c_1 f_1 c_2 f_2 c_3 f_3
        refine (((h4.set (i := 3) rfl 0 _).set (i := 3) rfl 1 _).set (i := 3) rfl 2 _).k_set 3 rfl (fun w5 h5 => ?_)
        refine hK _ _ ?_; clear hK K; try clear Q'
        refine wpList_nil ?_
        show Code.wp _ _ _ _ _
        refine wp_seq ?_
        repeat (first | simp only [List.nil_append] at h5 | simp only [List.cons_append] at h5 | simp only [List.set_cons_zero] at h5 | simp only [List.set_cons_succ] at h5 | simp only [List.eraseIdx_zero] at h5 | simp only [List.tail_cons] at h5 | simp only [List.eraseIdx_cons_zero] at h5 | simp only [List.eraseIdx_cons_succ] at h5 | simp only [List.setIfInBounds_toArray] at h5)
        refine wp_region_lit ?_
        have c_1_0 := h5.cell 1 rfl 0 rfl
        have c_1_1 := h5.cell 1 rfl 1 rfl
        have c_1_2 := h5.cell 1 rfl 2 rfl
        have c_1_3 := h5.cell 1 rfl 3 rfl
        iterate 1 (refine wpList_plainQ rfl (fun K Q' hK => ?_); go_simp; refine hK _ _ ?_; clear hK K; try clear Q')
        clear c_1_0 c_1_1 c_1_2 c_1_3
        refine wpList_plainQ rfl (fun K Q' hK => ?_); go_simp
        refine h5.k_alloc (fun w6 h6 => ?_)
        refine hK _ _ ?_; clear hK K; try clear Q'
        have c_0 := h6.cell 4 rfl 0 rfl
        have f_0 := h6.free 4 rfl 0
        have c_1 := h6.cell 4 rfl 1 rfl
        have f_1 := h6.free 4 rfl 1
        have c_2 := h6.cell 4 rfl 2 rfl
        have f_2 := h6.free 4 rfl 2
        have c_3 := h6.cell 4 rfl 3 rfl
        have f_3 := h6.free 4 rfl 3
        refine wpList_plainQ rfl (fun K Q' hK => ?_); go_simp
        clear c_0 f_0 c_1 f_1 c_2 f_2 c_3 f_3
        refine (((h6.set (i := 4) rfl 0 _).set (i := 4) rfl 1 _).set (i := 4) rfl 2 _).k_set 4 rfl (fun w7 h7 => ?_)
        refine hK _ _ ?_; clear hK K; try clear Q'
        refine wpList_nil ?_
        show Code.wp _ _ _ _ _
        refine wp_seq ?_
        repeat (first | simp only [List.nil_append] at h7 | simp only [List.cons_append] at h7 | simp only [List.set_cons_zero] at h7 | simp only [List.set_cons_succ] at h7 | simp only [List.eraseIdx_zero] at h7 | simp only [List.tail_cons] at h7 | simp only [List.eraseIdx_cons_zero] at h7 | simp only [List.eraseIdx_cons_succ] at h7 | simp only [List.setIfInBounds_toArray] at h7)
        refine wp_region_lit ?_
        have c_1_0 := h7.cell 1 rfl 0 rfl
        have c_1_1 := h7.cell 1 rfl 1 rfl
        have c_0_0 := h7.cell 0 rfl 0 rfl
        have c_0_1 := h7.cell 0 rfl 1 rfl
        iterate 4 (refine wpList_plainQ rfl (fun K Q' hK => ?_); go_simp; refine hK _ _ ?_; clear hK K; try clear Q')
        clear c_1_0 c_1_1 c_0_0 c_0_1
        -- stops at: eff:call (Go.Op.call {'callee': (Go.Callee.value (Go.Operand.func 25)), 'args': [(Go.Operand.tmp 21), (Go.Operand.tmp 23)], 'argTypes': [32, 32]}) slot 24
        refine wpList_plainQ rfl (fun K Q' hK => ?_); go_simp
        refine (rless_ok H _ y x h7.fits).mono ?_
        rintro e wA ⟨rfl, hkA⟩
        rw [hlt]
        have h8 := h7.callk hkA
        refine hK _ _ ?_; clear hK K; try clear Q'
        iterate 1 (refine wpList_plainQ rfl (fun K Q' hK => ?_); go_simp; refine hK _ _ ?_; clear hK K; try clear Q')
        refine wpList_nil ?_
        show Code.wp _ _ _ _ _
        refine wp_seq ?_
        refine wp_seq ?_
        repeat (first | simp only [List.nil_append] at h8 | simp only [List.cons_append] at h8 | simp only [List.set_cons_zero] at h8 | simp only [List.set_cons_succ] at h8 | simp only [List.eraseIdx_zero] at h8 | simp only [List.tail_cons] at h8 | simp only [List.eraseIdx_cons_zero] at h8 | simp only [List.eraseIdx_cons_succ] at h8 | simp only [List.setIfInBounds_toArray] at h8)
        refine wp_region_lit ?_
        iterate 1 (refine wpList_plainQ rfl (fun K Q' hK => ?_); go_simp; refine hK _ _ ?_; clear hK K; try clear Q')
        refine wpList_nil ?_
        show Code.wp _ _ _ _ _
        -- stops at: cond
        refine wp_cond_false (rfl) ?_
        refine wp_skip ?_
        show Code.wp _ _ _ _ _
        refine wp_seq ?_
        refine wp_region_lit ?_
        have c_4_0 := h8.cell 4 rfl 0 rfl
        have c_4_1 := h8.cell 4 rfl 1 rfl
        have c_4_2 := h8.cell 4 rfl 2 rfl
        have c_4_3 := h8.cell 4 rfl 3 rfl
        iterate 1 (refine wpList_plainQ rfl (fun K Q' hK => ?_); go_simp; refine hK _ _ ?_; clear hK K; try clear Q')
        clear c_4_0 c_4_1 c_4_2 c_4_3
        refine wpList_plainQ rfl (fun K Q' hK => ?_); go_simp
        refine h8.k_alloc (fun w9 h9 => ?_)
        refine hK _ _ ?_; clear hK K; try clear Q'
        iterate 1 (refine wpList_plainQ rfl (fun K Q' hK => ?_); go_simp; refine hK _ _ ?_; clear hK K; try clear Q')
        refine wpList_nil ?_
        show Code.wp _ _ _ _ _
        refine wp_seq ?_
        repeat (first | simp only [List.nil_append] at h9 | simp only [List.cons_append] at h9 | simp only [List.set_cons_zero] at h9 | simp only [List.set_cons_succ] at h9 | simp only [List.eraseIdx_zero] at h9 | simp only [List.tail_cons] at h9 | simp only [List.eraseIdx_cons_zero] at h9 | simp only [List.eraseIdx_cons_succ] at h9 | simp only [List.setIfInBounds_toArray] at h9)
        refine wp_region_lit ?_
        have c_3_2 := h9.cell 3 rfl 2 rfl
        iterate 3 (refine wpList_plainQ rfl (fun K Q' hK => ?_); go_simp; refine hK _ _ ?_; clear hK K; try clear Q')
        clear c_3_2
        -- stops at: eff:Builtin.append (Go.Op.call {'callee': (Go.Callee.builtin Go.Builtin.append), 'args': [(Go.Operand.tmp 30), (Go.Operand.tmp 32)], 'argTypes': [33, 33]}) slot 33
        have hR := h9.rowOf 5 rfl 4 1 rfl (by unfold maxLen; omega)
        refine wpList_plainQ rfl (fun K Q' hK => ?_)
        refine hR.op_append_rep 0 rfl rfl infoRH rfl kcs rfl hk (hkk.one) (by omega) (by unfold maxLen; omega) (fun v1 wB hB => ?_)
        obtain ⟨H6, h6, rA, leA⟩ := hB.settleRow 0 rfl
        obtain ⟨a6, c6, rfl, _, _⟩ := rA.nil_or
        refine hK _ _ ?_; clear hK K; try clear Q'
        iterate 1 (refine wpList_plainQ rfl (fun K Q' hK => ?_); go_simp; refine hK _ _ ?_; clear hK K; try clear Q')
        refine wpList_nil ?_
        show Code.wp _ _ _ _ _
        refine wp_seq ?_
        repeat (first | simp only [List.nil_append] at h6 | simp only [List.cons_append] at h6 | simp only [List.set_cons_zero] at h6 | simp only [List.set_cons_succ] at h6 | simp only [List.eraseIdx_zero] at h6 | simp only [List.tail_cons] at h6 | simp only [List.eraseIdx_cons_zero] at h6 | simp only [List.eraseIdx_cons_succ] at h6 | simp only [List.setIfInBounds_toArray] at h6)
        refine wp_region_lit ?_
        have c_3_0 := h6.cell 3 rfl 0 rfl
        have c_3_1 := h6.cell 3 rfl 1 rfl
        have c_0_3 := h6.cell 0 rfl 3 rfl
        have c_1_3 := h6.cell 1 rfl 3 rfl
        iterate 9 (refine wpList_plainQ rfl (fun K Q' hK => ?_); go_simp; refine hK _ _ ?_; clear hK K; try clear Q')
        clear c_3_0 c_3_1 c_0_3 c_1_3
        have c_0 := h6.cell 2 rfl 0 rfl
        have f_0 := h6.free 2 rfl 0
        have c_1 := h6.cell 2 rfl 1 rfl
        have f_1 := h6.free 2 rfl 1
        have c_2 := h6.cell 2 rfl 2 rfl
        have f_2 := h6.free 2 rfl 2
        have c_3 := h6.cell 2 rfl 3 rfl
        have f_3 := h6.free 2 rfl 3
        refine wpList_plainQ rfl (fun K Q' hK => ?_); go_simp
        clear c_0 f_0 c_1 f_1 c_2 f_2 c_3 f_3
        refine (((h6.set (i := 2) rfl 0 _).set (i := 2) rfl 1 _).set (i := 2) rfl 2 _).k_set 2 rfl (fun w10 h10 => ?_)
        refine hK _ _ ?_; clear hK K; try clear Q'
        iterate 1 (refine wpList_plainQ rfl (fun K Q' hK => ?_); go_simp; refine hK _ _ ?_; clear hK K; try clear Q')
        refine wpList_nil ?_
        show Code.wp _ _ _ _ _
        -- stops at: ret
        repeat (first | simp only [List.nil_append] at h10 | simp only [List.cons_append] at h10 | simp only [List.set_cons_zero] at h10 | simp only [List.set_cons_succ] at h10 | simp only [List.eraseIdx_zero] at h10 | simp only [List.tail_cons] at h10 | simp only [List.eraseIdx_cons_zero] at h10 | simp only [List.eraseIdx_cons_succ] at h10 | simp only [List.setIfInBounds_toArray] at h10)
        refine wp_ret ?_
        have r_2_0 := h10.cell 2 rfl 0 rfl
        have r_2_1 := h10.cell 2 rfl 1 rfl
        have r_2_2 := h10.cell 2 rfl 2 rfl
        have r_2_3 := h10.cell 2 rfl 3 rfl
        first | show bodyPost _ _ _ _ _ _ | (simp only [Exit.then]; show bodyPost _ _ _ _ _ _) | (simp only [Exit.inBlock]; show bodyPost _ _ _ _ _ _) | (simp only [Exit.inBlock, Exit.then]; show bodyPost _ _ _ _ _ _) | (simp only [Exit.noGoto, Exit.inBlock, Exit.then]; show bodyPost _ _ _ _ _ _)
        refine bodyPost_ret (v := ?_) ?_ rfl ?_
        rotate_left
        · simp only [results, Tryd.results11]; go_simp; with_reducible rfl
        clear r_2_0 r_2_1 r_2_2 r_2_3
        refine ⟨_, H6, rfl, by simpa using h10.post, ?_⟩
        rw [hme]
        exact .inr ⟨x, .node y j k, _, _, st, rfl, rfl, by have := hst.out; have := hsz.out; have := htz.out; show _ = _; simp [PT.els]; omega, by rw [show PT.len (.node y j k) = 1 + k.len by simp [PT.len]; omega]; exact rA, ⟨_, jcs, kcs, tz, rfl, htz, hj.mono leA, hjj.mono leA, hkk.mono leA⟩⟩
      | true =>
        have hme : PT.meld (.node x k .nil) (.node y j .nil) = PT.node y (.node x k j) .nil := by rw [PT.meld_node, if_pos hlt]
        go_enter Tryd.func11, Tryd.ntmps11
        have h0 := St.start hpre
        refine wp_seq ?_
        repeat (first | simp only [List.nil_append] at h0 | simp only [List.cons_append] at h0 | simp only [List.set_cons_zero] at h0 | simp only [List.set_cons_succ] at h0 | simp only [List.eraseIdx_zero] at h0 | simp only [List.tail_cons] at h0 | simp only [List.eraseIdx_cons_zero] at h0 | simp only [List.eraseIdx_cons_succ] at h0 | simp only [List.setIfInBounds_toArray] at h0)
        refine wp_region_lit ?_
        refine wpList_plainQ rfl (fun K Q' hK => ?_); go_simp
        refine h0.k_alloc (fun w1 h1 => ?_)
        refine hK _ _ ?_; clear hK K; try clear Q'
        refine wpList_plainQ rfl (fun K Q' hK => ?_); go_simp
        refine h1.k_alloc (fun w2 h2 => ?_)
        refine hK _ _ ?_; clear hK K; try clear Q'
        refine wpList_plainQ rfl (fun K Q' hK => ?_); go_simp
        refine h2.k_alloc (fun w3 h3 => ?_)
        refine hK _ _ ?_; clear hK K; try clear Q'
        iterate 1 (refine wpList_plainQ rfl (fun K Q' hK => ?_); go_simp; refine hK _ _ ?_; clear hK K; try clear Q')
        refine wpList_nil ?_
        show Code.wp _ _ _ _ _
        refine wp_seq ?_
        refine wp_seq ?_
        repeat (first | simp only [List.nil_append] at h3 | simp only [List.cons_append] at h3 | simp only [List.set_cons_zero] at h3 | simp only [List.set_cons_succ] at h3 | simp only [List.eraseIdx_zero] at h3 | simp only [List.tail_cons] at h3 | simp only [List.eraseIdx_cons_zero] at h3 | simp only [List.eraseIdx_cons_succ] at h3 | simp only [List.setIfInBounds_toArray] at h3)
        refine wp_region_lit ?_
        have c_0_3 := h3.cell 0 rfl 3 rfl
        iterate 3 (refine wpList_plainQ rfl (fun K Q' hK => ?_); go_simp; refine hK _ _ ?_; clear hK K; try clear Q')
        clear c_0_3
        refine wpList_nil ?_
        show Code.wp _ _ _ _ _
        -- stops at: cond
        refine wp_cond_false (rfl) ?_
        refine wp_skip ?_
        show Code.wp _ _ _ _ _
        refine wp_seq ?_
        refine wp_seq ?_
        refine wp_region_lit ?_
        have c_1_3 := h3.cell 1 rfl 3 rfl
        iterate 3 (refine wpList_plainQ rfl (fun K Q' hK => ?_); go_simp; refine hK _ _ ?_; clear hK K; try clear Q')
        clear c_1_3
        refine wpList_nil ?_
        show Code.wp _ _ _ _ _
        -- stops at: cond
        refine wp_cond_false (rfl) ?_
        refine wp_skip ?_
        show Code.wp _ _ _ _ _
        refine wp_seq ?_
        refine wp_region_lit ?_
        have c_0_0 := h3.cell 0 rfl 0 rfl
        have c_0_1 := h3.cell 0 rfl 1 rfl
        have c_0_2 := h3.cell 0 rfl 2 rfl
        have c_0_3 := h3.cell 0 rfl 3 rfl
        iterate 1 (refine wpList_plainQ rfl (fun K Q' hK => ?_); go_simp; refine hK _ _ ?_; clear hK K; try clear Q')
        clear c_0_0 c_0_1 c_0_2 c_0_3
        refine wpList_plainQ rfl (fun K Q' hK => ?_); go_simp
        refine h3.k_alloc (fun w4 h4 => ?_)
        refine hK _ _ ?_; clear hK K; try clear Q'
        have c_0 := h4.cell 3 rfl 0 rfl
        have f_0 := h4.free 3 rfl 0
        have c_1 := h4.cell 3 rfl 1 rfl
        have f_1 := h4.free 3 rfl 1
        have c_2 := h4.cell 3 rfl 2 rfl
        have f_2 := h4.free 3 rfl 2
        have c_3 := h4.cell 3 rfl 3 rfl
        have f_3 := h4.free 3 rfl 3
        refine wpList_plainQ rfl (fun K Q' hK => ?_); go_simp
        clear c_0 f_0 c_1 f_1 c_2 f_2 c_3 f_3
        refine (((h4.set (i := 3) rfl 0 _).set (i := 3) rfl 1 _).set (i := 3) rfl 2 _).k_set 3 rfl (fun w5 h5 => ?_)
        refine hK _ _ ?_; clear hK K; try clear Q'
        refine wpList_nil ?_
        show Code.wp _ _ _ _ _
        refine wp_seq ?_
        repeat (first | simp only [List.nil_append] at h5 | simp only [List.cons_append] at h5 | simp only [List.set_cons_zero] at h5 | simp only [List.set_cons_succ] at h5 | simp only [List.eraseIdx_zero] at h5 | simp only [List.tail_cons] at h5 | simp only [List.eraseIdx_cons_zero] at h5 | simp only [List.eraseIdx_cons_succ] at h5 | simp only [List.setIfInBounds_toArray] at h5)
        refine wp_region_lit ?_
        have c_1_0 := h5.cell 1 rfl 0 rfl
        have c_1_1 := h5.cell 1 rfl 1 rfl
        have c_1_2 := h5.cell 1 rfl 2 rfl
        have c_1_3 := h5.cell 1 rfl 3 rfl
        iterate 1 (refine wpList_plainQ rfl (fun K Q' hK => ?_); go_simp; refine hK _ _ ?_; clear hK K; try clear Q')
        clear c_1_0 c_1_1 c_1_2 c_1_3
        refine wpList_plainQ rfl (fun K Q' hK => ?_); go_simp
        refine h5.k_alloc (fun w6 h6 => ?_)
        refine hK _ _ ?_; clear hK K; try clear Q'
        have c_0 := h6.cell 4 rfl 0 rfl
        have f_0 := h6.free 4 rfl 0
        have c_1 := h6.cell 4 rfl 1 rfl
        have f_1 := h6.free 4 rfl 1
        have c_2 := h6.cell 4 rfl 2 rfl
        have f_2 := h6.free 4 rfl 2
        have c_3 := h6.cell 4 rfl 3 rfl
        have f_3 := h6.free 4 rfl 3
        refine wpList_plainQ rfl (fun K Q' hK => ?_); go_simp
        clear c_0 f_0 c_1 f_1 c_2 f_2 c_3 f_3
        refine (((h6.set (i := 4) rfl 0 _).set (i := 4) rfl 1 _).set (i := 4) rfl 2 _).k_set 4 rfl (fun w7 h7 => ?_)
        refine hK _ _ ?_; clear hK K; try clear Q'
        refine wpList_nil ?_
        show Code.wp _ _ _ _ _
        refine wp_seq ?_
        repeat (first | simp only [List.nil_append] at h7 | simp only [List.cons_append] at h7 | simp only [List.set_cons_zero] at h7 | simp only [List.set_cons_succ] at h7 | simp only [List.eraseIdx_zero] at h7 | simp only [List.tail_cons] at h7 | simp only [List.eraseIdx_cons_zero] at h7 | simp only [List.eraseIdx_cons_succ] at h7 | simp only [List.setIfInBounds_toArray] at h7)
        refine wp_region_lit ?_
        have c_1_0 := h7.cell 1 rfl 0 rfl
        have c_1_1 := h7.cell 1 rfl 1 rfl
        have c_0_0 := h7.cell 0 rfl 0 rfl
        have c_0_1 := h7.cell 0 rfl 1 rfl
        iterate 4 (refine wpList_plainQ rfl (fun K Q' hK => ?_); go_simp; refine hK _ _ ?_; clear hK K; try clear Q')
        clear c_1_0 c_1_1 c_0_0 c_0_1
        -- stops at: eff:call (Go.Op.call {'callee': (Go.Callee.value (Go.Operand.func 25)), 'args': [(Go.Operand.tmp 21), (Go.Operand.tmp 23)], 'argTypes': [32, 32]}) slot 24
        refine wpList_plainQ rfl (fun K Q' hK => ?_); go_simp
        refine (rless_ok H _ y x h7.fits).mono ?_
        rintro e wA ⟨rfl, hkA⟩
        rw [hlt]
        have h8 := h7.callk hkA
        refine hK _ _ ?_; clear hK K; try clear Q'
        iterate 1 (refine wpList_plainQ rfl (fun K Q' hK => ?_); go_simp; refine hK _ _ ?_; clear hK K; try clear Q')
        refine wpList_nil ?_
        show Code.wp _ _ _ _ _
        refine wp_seq ?_
        refine wp_seq ?_
        repeat (first | simp only [List.nil_append] at h8 | simp only [List.cons_append] at h8 | simp only [List.set_cons_zero] at h8 | simp only [List.set_cons_succ] at h8 | simp only [List.eraseIdx_zero] at h8 | simp only [List.tail_cons] at h8 | simp only [List.eraseIdx_cons_zero] at h8 | simp only [List.eraseIdx_cons_succ] at h8 | simp only [List.setIfInBounds_toArray] at h8)
        refine wp_region_lit ?_
        iterate 1 (refine wpList_plainQ rfl (fun K Q' hK => ?_); go_simp; refine hK _ _ ?_; clear hK K; try clear Q')
        refine wpList_nil ?_
        show Code.wp _ _ _ _ _
        -- stops at: cond
        refine wp_cond_true (rfl) ?_
        refine wp_seq ?_
        refine wp_region_lit ?_
        have c_1_0 := h8.cell 1 rfl 0 rfl
        have c_1_1 := h8.cell 1 rfl 1 rfl
        have c_1_2 := h8.cell 1 rfl 2 rfl
        have c_1_3 := h8.cell 1 rfl 3 rfl
        iterate 1 (refine wpList_plainQ rfl (fun K Q' hK => ?_); go_simp; refine hK _ _ ?_; clear hK K; try clear Q')
        clear c_1_0 c_1_1 c_1_2 c_1_3
        have c_0 := h8.cell 3 rfl 0 rfl
        have f_0 := h8.free 3 rfl 0
        have c_1 := h8.cell 3 rfl 1 rfl
        have f_1 := h8.free 3 rfl 1
        have c_2 := h8.cell 3 rfl 2 rfl
        have f_2 := h8.free 3 rfl 2
        have c_3 := h8.cell 3 rfl 3 rfl
        have f_3 := h8.free 3 rfl 3
        refine wpList_plainQ rfl (fun K Q' hK => ?_); go_simp
        clear c_0 f_0 c_1 f_1 c_2 f_2 c_3 f_3
        refine (((h8.set (i := 3) rfl 0 _).set (i := 3) rfl 1 _).set (i := 3) rfl 2 _).k_set 3 rfl (fun w9 h9 => ?_)
        refine hK _ _ ?_; clear hK K; try clear Q'
        refine wpList_nil ?_
        show Code.wp _ _ _ _ _
        repeat (first | simp only [List.nil_append] at h9 | simp only [List.cons_append] at h9 | simp only [List.set_cons_zero] at h9 | simp only [List.set_cons_succ] at h9 | simp only [List.eraseIdx_zero] at h9 | simp only [List.tail_cons] at h9 | simp only [List.eraseIdx_cons_zero] at h9 | simp only [List.eraseIdx_cons_succ] at h9 | simp only [List.setIfInBounds_toArray] at h9)
        refine wp_region_lit ?_
        have c_0_0 := h9.cell 0 rfl 0 rfl
        have c_0_1 := h9.cell 0 rfl 1 rfl
        have c_0_2 := h9.cell 0 rfl 2 rfl
        have c_0_3 := h9.cell 0 rfl 3 rfl
        iterate 1 (refine wpList_plainQ rfl (fun K Q' hK => ?_); go_simp; refine hK _ _ ?_; clear hK K; try clear Q')
        clear c_0_0 c_0_1 c_0_2 c_0_3
        have c_0 := h9.cell 4 rfl 0 rfl
        have f_0 := h9.free 4 rfl 0
        have c_1 := h9.cell 4 rfl 1 rfl
        have f_1 := h9.free 4 rfl 1
        have c_2 := h9.cell 4 rfl 2 rfl
        have f_2 := h9.free 4 rfl 2
        have c_3 := h9.cell 4 rfl 3 rfl
        have f_3 := h9.free 4 rfl 3
        refine wpList_plainQ rfl (fun K Q' hK => ?_); go_simp
        clear c_0 f_0 c_1 f_1 c_2 f_2 c_3 f_3
        refine (((h9.set (i := 4) rfl 0 _).set (i := 4) rfl 1 _).set (i := 4) rfl 2 _).k_set 4 rfl (fun w10 h10 => ?_)
        refine hK _ _ ?_; clear hK K; try clear Q'
        refine wpList_nil ?_
        show Code.wp _ _ _ _ _
        refine wp_seq ?_
        repeat (first | simp only [List.nil_append] at h10 | simp only [List.cons_append] at h10 | simp only [List.set_cons_zero] at h10 | simp only [List.set_cons_succ] at h10 | simp only [List.eraseIdx_zero] at h10 | simp only [List.tail_cons] at h10 | simp only [List.eraseIdx_cons_zero] at h10 | simp only [List.eraseIdx_cons_succ] at h10 | simp only [List.setIfInBounds_toArray] at h10)
        refine wp_region_lit ?_
        have c_4_0 := h10.cell 4 rfl 0 rfl
        have c_4_1 := h10.cell 4 rfl 1 rfl
        have c_4_2 := h10.cell 4 rfl 2 rfl
        have c_4_3 := h10.cell 4 rfl 3 rfl
        iterate 1 (refine wpList_plainQ rfl (fun K Q' hK => ?_); go_simp; refine hK _ _ ?_; clear hK K; try clear Q')
        clear c_4_0 c_4_1 c_4_2 c_4_3
        refine wpList_plainQ rfl (fun K Q' hK => ?_); go_simp
        refine h10.k_alloc (fun w11 h11 => ?_)
        refine hK _ _ ?_; clear hK K; try clear Q'
        iterate 1 (refine wpList_plainQ rfl (fun K Q' hK => ?_); go_simp; refine hK _ _ ?_; clear hK K; try clear Q')
        refine wpList_nil ?_
        show Code.wp _ _ _ _ _
        refine wp_seq ?_
        repeat (first | simp only [List.nil_append] at h11 | simp only [List.cons_append] at h11 | simp only [List.set_cons_zero] at h11 | simp only [List.set_cons_succ] at h11 | simp only [List.eraseIdx_zero] at h11 | simp only [List.tail_cons] at h11 | simp only [List.eraseIdx_cons_zero] at h11 | simp only [List.eraseIdx_cons_succ] at h11 | simp only [List.setIfInBounds_toArray] at h11)
        refine wp_region_lit ?_
        have c_3_2 := h11.cell 3 rfl 2 rfl
        iterate 3 (refine wpList_plainQ rfl (fun K Q' hK => ?_); go_simp; refine hK _ _ ?_; clear hK K; try clear Q')
        clear c_3_2
        -- stops at: eff:Builtin.append (Go.Op.call {'callee': (Go.Callee.builtin Go.Builtin.append), 'args': [(Go.Operand.tmp 30), (Go.Operand.tmp 32)], 'argTypes': [33, 33]}) slot 33
        have hR := h11.rowOf 5 rfl 4 1 rfl (by unfold maxLen; omega)
        refine wpList_plainQ rfl (fun K Q' hK => ?_)
        refine hR.op_append_rep 0 rfl rfl infoRH rfl jcs rfl hj (hjj.one) (by omega) (by unfold maxLen; omega) (fun v1 wB hB => ?_)
        obtain ⟨H6, h6, rA, leA⟩ := hB.settleRow 0 rfl
        obtain ⟨a6, c6, rfl, _, _⟩ := rA.nil_or
        refine hK _ _ ?_; clear hK K; try clear Q'
        iterate 1 (refine wpList_plainQ rfl (fun K Q' hK => ?_); go_simp; refine hK _ _ ?_; clear hK K; try clear Q')
        refine wpList_nil ?_
        show Code.wp _ _ _ _ _
        refine wp_seq ?_
        repeat (first | simp only [List.nil_append] at h6 | simp only [List.cons_append] at h6 | simp only [List.set_cons_zero] at h6 | simp only [List.set_cons_succ] at h6 | simp only [List.eraseIdx_zero] at h6 | simp only [List.tail_cons] at h6 | simp only [List.eraseIdx_cons_zero] at h6 | simp only [List.eraseIdx_cons_succ] at h6 | simp only [List.setIfInBounds_toArray] at h6)
        refine wp_region_lit ?_
        have c_3_0 := h6.cell 3 rfl 0 rfl
        have c_3_1 := h6.cell 3 rfl 1 rfl
        have c_0_3 := h6.cell 0 rfl 3 rfl
        have c_1_3 := h6.cell 1 rfl 3 rfl
        iterate 9 (refine wpList_plainQ rfl (fun K Q' hK => ?_); go_simp; refine hK _ _ ?_; clear hK K; try clear Q')
        clear c_3_0 c_3_1 c_0_3 c_1_3
        have c_0 := h6.cell 2 rfl 0 rfl
        have f_0 := h6.free 2 rfl 0
        have c_1 := h6.cell 2 rfl 1 rfl
        have f_1 := h6.free 2 rfl 1
        have c_2 := h6.cell 2 rfl 2 rfl
        have f_2 := h6.free 2 rfl 2
        have c_3 := h6.cell 2 rfl 3 rfl
        have f_3 := h6.free 2 rfl 3
        refine wpList_plainQ rfl (fun K Q' hK => ?_); go_simp
        clear c_0 f_0 c_1 f_1 c_2 f_2 c_3 f_3
        refine (((h6.set (i := 2) rfl 0 _).set (i := 2) rfl 1 _).set (i := 2) rfl 2 _).k_set 2 rfl (fun w12 h12 => ?_)
        refine hK _ _ ?_; clear hK K; try clear Q'
        iterate 1 (refine wpList_plainQ rfl (fun K Q' hK => ?_); go_simp; refine hK _ _ ?_; clear hK K; try clear Q')
        refine wpList_nil ?_
        show Code.wp _ _ _ _ _
        -- stops at: ret
        repeat (first | simp only [List.nil_append] at h12 | simp only [List.cons_append] at h12 | simp only [List.set_cons_zero] at h12 | simp only [List.set_cons_succ] at h12 | simp only [List.eraseIdx_zero] at h12 | simp only [List.tail_cons] at h12 | simp only [List.eraseIdx_cons_zero] at h12 | simp only [List.eraseIdx_cons_succ] at h12 | simp only [List.setIfInBounds_toArray] at h12)
        refine wp_ret ?_
        have r_2_0 := h12.cell 2 rfl 0 rfl
        have r_2_1 := h12.cell 2 rfl 1 rfl
        have r_2_2 := h12.cell 2 rfl 2 rfl
        have r_2_3 := h12.cell 2 rfl 3 rfl
        first | show bodyPost _ _ _ _ _ _ | (simp only [Exit.then]; show bodyPost _ _ _ _ _ _) | (simp only [Exit.inBlock]; show bodyPost _ _ _ _ _ _) | (simp only [Exit.inBlock, Exit.then]; show bodyPost _ _ _ _ _ _) | (simp only [Exit.noGoto, Exit.inBlock, Exit.then]; show bodyPost _ _ _ _ _ _)
        refine bodyPost_ret (v := ?_) ?_ rfl ?_
        rotate_left
        · simp only [results, Tryd.results11]; go_simp; with_reducible rfl
        clear r_2_0 r_2_1 r_2_2 r_2_3
        refine ⟨_, H6, rfl, by simpa using h12.post, ?_⟩
        rw [hme]
        exact .inr ⟨y, .node x k j, _, _, st, rfl, rfl, by have := hst.out; have := hsz.out; have := htz.out; show _ = _; simp [PT.els]; omega, by rw [show PT.len (.node x k j) = 1 + j.len by simp [PT.len]; omega]; exact rA, ⟨_, kcs, jcs, sz, rfl, hsz, hk.mono leA, hkk.mono leA, hjj.mono leA⟩⟩
end Go.Proofs.YtnimanhoegbicaaDoor
