/-
The document's trees with ranks: values; a leaf, one of two, one of two and an element.
-/
import Derived.Test.YteigmfkkeofcaaaGreatDoorObRank
import Derived.Test.YteigmfkkeofcaaaGreatDoorNbRef
import Derived.Test.YteigmfkkeofcaaaGreatDoorGdOrdS
import Derived.Test.YteigmfkkeofcaaaGreatDoorNdJoin
namespace Go.Proofs.YteigmfkkeofcaaaGreatDoor
open Go Go.RowKit
set_option linter.unusedVariables false

/-- A row of trees as trees side by side. -/
def RT.ofL {α : Type} : List (Tr α) → RT α
  | [] => .nil
  | t :: l => .node t.x t.b t.k (RT.ofL l)
theorem RT.ofL_len {α : Type} (l : List (Tr α)) : (RT.ofL l).len = l.length := by
  induction l with
  | nil => rfl
  | cons t l ih => simp [RT.ofL, RT.len, ih]
theorem RT.ofL_toL {α : Type} (t : RT α) : RT.ofL t.toL = t := by
  induction t with
  | nil => rfl
  | node x b k n _ ih => rw [RT.toL, RT.ofL, ih]
/-- Trees side by side as cells. -/
def TV (H : GH) : RT El → List Value → Prop
  | .nil, cs => cs = []
  | .node x b k n, cs => ∃ (bv kv : Value) (kcs rest : List Value) (r sz : Nat), cs = .int .i64 (r : Int) :: .int .i64 x.1 :: .int .i64 x.2 :: bv :: kv :: .int .i64 (sz : Int) :: rest ∧ Hid (r = k.len) ∧ Hid (sz = 1 + b.length + k.els.length) ∧
      SliceRep H 2 bv b.length (b.flatMap elC) ∧ SliceRep H 6 kv k.len kcs ∧ TV H k kcs ∧ TV H n rest
theorem TV.mono {H H' : GH} {t : RT El} {cs : List Value} (h : TV H t cs) (hl : H.le H') : TV H' t cs := by
  induction t generalizing cs with
  | nil => exact h
  | node x b k n ih1 ih2 =>
    obtain ⟨bv, kv, kcs, rest, r, sz, h1, h2, h3, h4, h5, h6, h7⟩ := h
    exact ⟨bv, kv, kcs, rest, r, sz, h1, h2, h3, h4.mono hl, h5.mono hl, ih1 h6, ih2 h7⟩
theorem TV.length {H : GH} {t : RT El} {cs : List Value} (h : TV H t cs) : cs.length = t.len * 6 := by
  induction t generalizing cs with
  | nil => obtain rfl : cs = [] := h; rfl
  | node x b k n ih1 ih2 =>
    obtain ⟨bv, kv, kcs, rest, r, sz, rfl, h2, h3, h4, h5, h6, h7⟩ := h
    simp [RT.len, ih2 h7]; omega
theorem TV.one {H : GH} {t : RT El} {cs : List Value} (h : TV H t cs) : ∀ u ∈ cs, u.oneCell' = true := by
  induction t generalizing cs with
  | nil => obtain rfl : cs = [] := h; simp
  | node x b k n ih1 ih2 =>
    obtain ⟨bv, kv, kcs, rest, r, sz, rfl, h2, h3, h4, h5, h6, h7⟩ := h
    obtain ⟨a, c, rfl, _, _⟩ := h4.nil_or
    obtain ⟨a', c', rfl, _, _⟩ := h5.nil_or
    intro u hu
    simp only [List.mem_cons] at hu
    rcases hu with rfl | rfl | rfl | rfl | rfl | rfl | hu
    · rfl
    · rfl
    · rfl
    · rfl
    · rfl
    · rfl
    · exact ih2 h7 u hu
theorem TV.append {H : GH} {l k : List (Tr El)} {cs ds : List Value} (h : TV H (RT.ofL l) cs) (h' : TV H (RT.ofL k) ds) : TV H (RT.ofL (l ++ k)) (cs ++ ds) := by
  induction l generalizing cs with
  | nil => obtain rfl : cs = [] := h; exact h'
  | cons t l ih =>
    obtain ⟨bv, kv, kcs, rest, r, sz, rfl, h2, h3, h4, h5, h6, h7⟩ := h
    exact ⟨bv, kv, kcs, rest ++ ds, r, sz, rfl, h2, h3, h4, h5, h6, ih h7⟩
/-- A row of trees as a slice. -/
def RsV (H : GH) (v : Value) (l : List (Tr El)) : Prop := ∃ cs : List Value, SliceRep H 6 v l.length cs ∧ TV H (RT.ofL l) cs
theorem RsV.mono {H H' : GH} {v : Value} {l : List (Tr El)} (h : RsV H v l) (hl : H.le H') : RsV H' v l := by
  obtain ⟨cs, h1, h2⟩ := h
  exact ⟨cs, h1.mono hl, h2.mono hl⟩
theorem RsV.nil (H : GH) : RsV H (.slice none 0 0) [] := ⟨[], SliceRep.nil _ _, rfl⟩
theorem RsV.form {H : GH} {v : Value} {l : List (Tr El)} (h : RsV H v l) : ∃ a cap, v = .slice a l.length cap ∧ l.length ≤ cap ∧ cap ≤ maxLen := by
  obtain ⟨cs, h1, h2⟩ := h
  exact h1.nil_or
/-- A tree as a value. -/
abbrev tV (r : Nat) (x : El) (bv kv : Value) (sz : Nat) : Value := .agg #[.int .i64 (r : Int), .int .i64 x.1, .int .i64 x.2, bv, kv, .int .i64 (sz : Int)]
def TrV (H : GH) (v : Value) (t : Tr El) : Prop := ∃ (bv kv : Value) (r sz : Nat), v = tV r t.x bv kv sz ∧ Hid (r = t.rank) ∧ Hid (sz = t.size) ∧ SliceRep H 2 bv t.b.length (t.b.flatMap elC) ∧ RsV H kv t.k.toL
theorem TrV.mono {H H' : GH} {v : Value} {t : Tr El} (h : TrV H v t) (hl : H.le H') : TrV H' v t := by
  obtain ⟨bv, kv, r, sz, h1, h2, h3, h4, h5⟩ := h
  exact ⟨bv, kv, r, sz, h1, h2, h3, h4.mono hl, h5.mono hl⟩
theorem TrV.form {H : GH} {v : Value} {t : Tr El} (h : TrV H v t) : ∃ (aB : Option Addr) (cB : Nat) (aK : Option Addr) (cK r sz : Nat), v = tV r t.x (.slice aB t.b.length cB) (.slice aK t.k.toL.length cK) sz ∧ Hid (r = t.rank) ∧ Hid (sz = t.size) ∧
    SliceRep H 2 (.slice aB t.b.length cB) t.b.length (t.b.flatMap elC) ∧ RsV H (.slice aK t.k.toL.length cK) t.k.toL := by
  obtain ⟨bv, kv, r, sz, rfl, h2, h3, h4, h5⟩ := h
  obtain ⟨aB, cB, rfl, _, _⟩ := h4.nil_or
  obtain ⟨aK, cK, rfl, _, _⟩ := h5.form
  exact ⟨aB, cB, aK, cK, r, sz, rfl, h2, h3, h4, h5⟩
/-- A tree ahead of others, as cells. -/
theorem TV.push {H : GH} {t : Tr El} {bv kv : Value} {r sz : Nat} {l : List (Tr El)} {cs : List Value} (h2 : Hid (r = t.rank)) (h3 : Hid (sz = t.size)) (h4 : SliceRep H 2 bv t.b.length (t.b.flatMap elC)) (h5 : RsV H kv t.k.toL) (h : TV H (RT.ofL l) cs) :
    TV H (RT.ofL (t :: l)) (.int .i64 (r : Int) :: .int .i64 t.x.1 :: .int .i64 t.x.2 :: bv :: kv :: .int .i64 (sz : Int) :: cs) := by
  obtain ⟨kcs, h6, h7⟩ := h5
  rw [RT.ofL_toL] at h7
  rw [RT.toL_length] at h6
  refine ⟨bv, kv, kcs, cs, r, sz, rfl, h2, ?_, h4, h6, h7, h⟩
  have := h3.out
  show sz = _
  rw [this]
  simp [Tr.size, Tr.els]; omega
/-- The tree at a place: its cells in memory. -/
theorem TV.at {H : GH} : ∀ (l : List (Tr El)) (cs : List Value) (k : Nat) (t : Tr El), TV H (RT.ofL l) cs → l[k]? = some t → ∃ (bv kv : Value) (r sz : Nat), cs[k * 6]? = some (.int .i64 (r : Int)) ∧ cs[k * 6 + 1]? = some (.int .i64 t.x.1) ∧ cs[k * 6 + 2]? = some (.int .i64 t.x.2) ∧ cs[k * 6 + 3]? = some bv ∧ cs[k * 6 + 4]? = some kv ∧ cs[k * 6 + 5]? = some (.int .i64 (sz : Int)) ∧
    Hid (r = t.rank) ∧ Hid (sz = t.size) ∧ SliceRep H 2 bv t.b.length (t.b.flatMap elC) ∧ RsV H kv t.k.toL := by
  intro l
  induction l with
  | nil => intro cs k t _ h; simp at h
  | cons s l ih =>
    intro cs k t h hk
    obtain ⟨bv, kv, kcs, rest, r, sz, rfl, h2, h3, h4, h5, h6, h7⟩ := h
    cases k with
    | zero =>
      obtain rfl : s = t := by simpa using hk
      refine ⟨bv, kv, r, sz, rfl, rfl, rfl, rfl, rfl, rfl, h2, ?_, h4, kcs, by rw [RT.toL_length]; exact h5, by rw [RT.ofL_toL]; exact h6⟩
      have := h3.out
      show sz = s.els.length
      rw [this]
      simp [Tr.els]; omega
    | succ k =>
      obtain ⟨bv', kv', r', sz', e0, e1, e2, e3, e4, e5, e6⟩ := ih rest k t h7 (by simpa using hk)
      have key : ∀ j, ((Value.int .i64 (r : Int)) :: .int .i64 s.x.1 :: .int .i64 s.x.2 :: bv :: kv :: .int .i64 (sz : Int) :: rest)[(k + 1) * 6 + j]? = rest[k * 6 + j]? := fun j => by
        rw [show (k + 1) * 6 + j = k * 6 + j + 6 by omega]
        rfl
      exact ⟨bv', kv', r', sz', by rw [← Nat.add_zero ((k + 1) * 6), key]; exact e0, by rw [key]; exact e1, by rw [key]; exact e2, by rw [key]; exact e3, by rw [key]; exact e4, by rw [key]; exact e5, e6⟩
/-- .. of a row that is a settled slice. -/
theorem RsV.at {H : GH} {b off cap n : Nat} {l : List (Tr El)} (h : RsV H (.slice (some ⟨b, off, none⟩) n cap) l) (k : Nat) {t : Tr El} (hk : l[k]? = some t) : ∃ (bv kv : Value) (r sz : Nat),
    Hid (∀ W, Fits W H → W.cell? ⟨b, off + k * 6, none⟩ = some (.int .i64 (r : Int)) ∧ W.cell? ⟨b, off + k * 6 + 1, none⟩ = some (.int .i64 t.x.1) ∧ W.cell? ⟨b, off + k * 6 + 2, none⟩ = some (.int .i64 t.x.2) ∧ W.cell? ⟨b, off + k * 6 + 3, none⟩ = some bv ∧ W.cell? ⟨b, off + k * 6 + 4, none⟩ = some kv ∧ W.cell? ⟨b, off + k * 6 + 5, none⟩ = some (.int .i64 (sz : Int))) ∧
    Hid (r = t.rank) ∧ Hid (sz = t.size) ∧ SliceRep H 2 bv t.b.length (t.b.flatMap elC) ∧ RsV H kv t.k.toL := by
  obtain ⟨cs, h1, h2⟩ := h
  obtain ⟨a', c', e, _, _⟩ := h1.nil_or
  simp only [Value.slice.injEq] at e
  obtain ⟨_, rfl, _⟩ := e
  obtain ⟨bv, kv, r, sz, e0, e1, e2, e3, e4, e5, e6⟩ := TV.at l cs k t h2 hk
  exact ⟨bv, kv, r, sz, fun W hF => ⟨h1.cell hF _ e0, h1.cell hF _ e1, h1.cell hF _ e2, h1.cell hF _ e3, h1.cell hF _ e4, h1.cell hF _ e5⟩, e6⟩
theorem infoTT : ElemInfo Tryz.prog 33 103 (tV 0 (0, 0) (.slice none 0 0) (.slice none 0 0) 0) 6 80 :=
  ⟨Tryz.underlying33, info_parts (by kernel_rfl), rfl, by decide⟩

set_option maxRecDepth 100000 in
set_option maxHeartbeats 1000000 in
theorem rleaf_ok (H : GH) (w : World) (x : El) (hf : Fits w H) :
    Calls Tryz.prog 52 #[elV x] w fun e w' => ∃ r, e = .returned r ∧ Keep none w w' ∧ TrV H r (Tr.leaf x) := by
  have hpre : Pre w H none 0 0 := Pre.none hf 0 0
  go_enter Tryz.func52, Tryz.ntmps52
  have h0 := St.start hpre
  refine wp_seq ?_
  repeat (first | simp only [List.nil_append] at h0 | simp only [List.cons_append] at h0 | simp only [List.set_cons_zero] at h0 | simp only [List.set_cons_succ] at h0 | simp only [List.eraseIdx_zero] at h0 | simp only [List.tail_cons] at h0 | simp only [List.eraseIdx_cons_zero] at h0 | simp only [List.eraseIdx_cons_succ] at h0 | simp only [List.setIfInBounds_toArray] at h0)
  refine wp_region_lit ?_
  refine wpList_plainQ rfl (fun K Q' hK => ?_); go_simp
  refine h0.k_alloc (fun w1 h1 => ?_)
  refine hK _ _ ?_; clear hK K; try clear Q'
  refine wpList_plainQ rfl (fun K Q' hK => ?_); go_simp
  refine h1.k_alloc (fun w2 h2 => ?_)
  refine hK _ _ ?_; clear hK K; try clear Q'
  refine wpList_nil ?_
  show Code.wp _ _ _ _ _
  refine wp_seq ?_
  repeat (first | simp only [List.nil_append] at h2 | simp only [List.cons_append] at h2 | simp only [List.set_cons_zero] at h2 | simp only [List.set_cons_succ] at h2 | simp only [List.eraseIdx_zero] at h2 | simp only [List.tail_cons] at h2 | simp only [List.eraseIdx_cons_zero] at h2 | simp only [List.eraseIdx_cons_succ] at h2 | simp only [List.setIfInBounds_toArray] at h2)
  refine wp_region_lit ?_
  have c_0_0 := h2.cell 0 rfl 0 rfl
  have c_0_1 := h2.cell 0 rfl 1 rfl
  iterate 2 (refine wpList_plainQ rfl (fun K Q' hK => ?_); go_simp; refine hK _ _ ?_; clear hK K; try clear Q')
  clear c_0_0 c_0_1
  have c_0 := h2.cell 1 rfl 0 rfl
  have f_0 := h2.free 1 rfl 0
  have c_1 := h2.cell 1 rfl 1 rfl
  have f_1 := h2.free 1 rfl 1
  have c_2 := h2.cell 1 rfl 2 rfl
  have f_2 := h2.free 1 rfl 2
  have c_3 := h2.cell 1 rfl 3 rfl
  have f_3 := h2.free 1 rfl 3
  have c_4 := h2.cell 1 rfl 4 rfl
  have f_4 := h2.free 1 rfl 4
  have c_5 := h2.cell 1 rfl 5 rfl
  have f_5 := h2.free 1 rfl 5
  refine wpList_plainQ rfl (fun K Q' hK => ?_); go_simp
  clear c_0 f_0 c_1 f_1 c_2 f_2 c_3 f_3 c_4 f_4 c_5 f_5
  refine (((((h2.set (i := 1) rfl 0 _).set (i := 1) rfl 1 _).set (i := 1) rfl 2 _).set (i := 1) rfl 3 _).set (i := 1) rfl 4 _).k_set 1 rfl (fun w3 h3 => ?_)
  refine hK _ _ ?_; clear hK K; try clear Q'
  refine wpList_nil ?_
  show Code.wp _ _ _ _ _
  -- stops at: ret
  refine wp_ret ?_
  have r_1_0 := h3.cell 1 rfl 0 rfl
  have r_1_1 := h3.cell 1 rfl 1 rfl
  have r_1_2 := h3.cell 1 rfl 2 rfl
  have r_1_3 := h3.cell 1 rfl 3 rfl
  have r_1_4 := h3.cell 1 rfl 4 rfl
  have r_1_5 := h3.cell 1 rfl 5 rfl
  first | show bodyPost _ _ _ _ _ _ | (simp only [Exit.then]; show bodyPost _ _ _ _ _ _) | (simp only [Exit.inBlock]; show bodyPost _ _ _ _ _ _) | (simp only [Exit.inBlock, Exit.then]; show bodyPost _ _ _ _ _ _) | (simp only [Exit.noGoto, Exit.inBlock, Exit.then]; show bodyPost _ _ _ _ _ _)
  refine bodyPost_ret (v := ?_) ?_ rfl ?_
  rotate_left
  · simp only [results, Tryz.results52]; go_simp; with_reducible rfl
  clear r_1_0 r_1_1 r_1_2 r_1_3 r_1_4 r_1_5
  exact ⟨_, rfl, h3.post.keep, .slice none 0 0, .slice none 0 0, 0, 1, rfl, rfl, rfl, SliceRep.nil _ _, RsV.nil H⟩

set_option maxRecDepth 100000 in
set_option maxHeartbeats 8000000 in
theorem rlink_ok (H : GH) (w : World) (u v : Value) (s t : Tr El) (hf : Fits w H) (hn : s.size + t.size < 1000000) (hs : TrV H u s) (ht : TrV H v t) :
    Calls Tryz.prog 80 #[u, v] w fun e w' => ∃ r H', e = .returned (.tuple #[r, .int .i64 2]) ∧ Post w H none w' H' 0 0 ∧ TrV H' r (Tr.link kf s t) := by
  have hpre : Pre w H none 0 0 := Pre.none hf 0 0
  obtain ⟨aB, cB, aK, cK, r1, z1, rfl, hr1, hz1, hb1, hk1⟩ := hs.form
  obtain ⟨aC, cC, aL, cL, r2, z2, rfl, hr2, hz2, hb2, hk2⟩ := ht.form
  have hp1 := Tr.rank_lt s
  have hp2 := Tr.rank_lt t
  have d1 : ((z1 : Int) == 0) = false := beq_eq_false_iff_ne.2 (by have := hz1.out; omega)
  have d2 : ((z2 : Int) == 0) = false := beq_eq_false_iff_ne.2 (by have := hz2.out; omega)
  obtain ⟨zn, hzz⟩ : ∃ n, Hid (z1 + z2 = n) := ⟨_, show _ = _ from rfl⟩
  have e2 : IntKind.i64.wrap ((z1 : Int) + (z2 : Int)) = (zn : Int) := by have := hzz.out; have := hz1.out; have := hz2.out; rw [IntWalk.i64_in _ (by omega)]; omega
  have hls := Tr.link_size kf s t
  cases hlt : El.lt (kf t.x) (kf s.x) with
  | false =>
    obtain ⟨rn, hrr⟩ : ∃ n, Hid (r1 + 1 = n) := ⟨_, show _ = _ from rfl⟩
    have e1 : IntKind.i64.wrap ((r1 : Int) + 1) = (rn : Int) := by have := hrr.out; have := hr1.out; rw [IntWalk.i64_in _ (by omega)]; omega
    have heq := Tr.link_ge kf hlt
    have hrn : Hid (Hid (rn = (⟨s.x, s.b, .push t s.k⟩ : Tr El).rank)) := by have h5 := hrr.out; have h6 := hr1.out; show rn = s.k.len + 1; unfold Tr.rank at h6; omega
    have hzn : Hid (Hid (zn = (⟨s.x, s.b, .push t s.k⟩ : Tr El).size)) := by rw [← heq]; have h5 := hzz.out; have h6 := hz1.out; have h7 := hz2.out; show zn = _; omega
    clear hls
    go_enter Tryz.func80, Tryz.ntmps80
    have h0 := St.start hpre
    refine wp_seq ?_
    repeat (first | simp only [List.nil_append] at h0 | simp only [List.cons_append] at h0 | simp only [List.set_cons_zero] at h0 | simp only [List.set_cons_succ] at h0 | simp only [List.eraseIdx_zero] at h0 | simp only [List.tail_cons] at h0 | simp only [List.eraseIdx_cons_zero] at h0 | simp only [List.eraseIdx_cons_succ] at h0 | simp only [List.setIfInBounds_toArray] at h0)
    refine wp_region_lit ?_
    refine wpList_plainQ rfl (fun K Q' hK => ?_); go_simp
    refine h0.k_alloc (fun w1 h1 => ?_)
    refine hK _ _ ?_; clear hK K; try clear Q'
    refine wpList_plainQ rfl (fun K Q' hK => ?_); go_simp
    refine h1.k_alloc (fun w2 h2 => ?_)
    refine hK _ _ ?_; clear hK K; try clear Q'
    refine wpList_plainQ rfl (fun K Q' hK => ?_); go_simp
    refine h2.k_alloc (fun w3 h3 => ?_)
    refine hK _ _ ?_; clear hK K; try clear Q'
    iterate 1 (refine wpList_plainQ rfl (fun K Q' hK => ?_); go_simp; refine hK _ _ ?_; clear hK K; try clear Q')
    refine wpList_nil ?_
    show Code.wp _ _ _ _ _
    refine wp_seq ?_
    refine wp_seq ?_
    repeat (first | simp only [List.nil_append] at h3 | simp only [List.cons_append] at h3 | simp only [List.set_cons_zero] at h3 | simp only [List.set_cons_succ] at h3 | simp only [List.eraseIdx_zero] at h3 | simp only [List.tail_cons] at h3 | simp only [List.eraseIdx_cons_zero] at h3 | simp only [List.eraseIdx_cons_succ] at h3 | simp only [List.setIfInBounds_toArray] at h3)
    refine wp_region_lit ?_
    have c_0_5 := h3.cell 0 rfl 5 rfl
    iterate 3 (refine wpList_plainQ rfl (fun K Q' hK => ?_); go_simp; refine hK _ _ ?_; clear hK K; try clear Q')
    clear c_0_5
    refine wpList_nil ?_
    show Code.wp _ _ _ _ _
    -- stops at: cond
    refine wp_cond_false (rfl) ?_
    refine wp_skip ?_
    show Code.wp _ _ _ _ _
    refine wp_seq ?_
    refine wp_seq ?_
    refine wp_region_lit ?_
    have c_1_5 := h3.cell 1 rfl 5 rfl
    iterate 3 (refine wpList_plainQ rfl (fun K Q' hK => ?_); go_simp; refine hK _ _ ?_; clear hK K; try clear Q')
    clear c_1_5
    refine wpList_nil ?_
    show Code.wp _ _ _ _ _
    -- stops at: cond
    refine wp_cond_false (rfl) ?_
    refine wp_skip ?_
    show Code.wp _ _ _ _ _
    refine wp_seq ?_
    refine wp_region_lit ?_
    have c_0_0 := h3.cell 0 rfl 0 rfl
    have c_0_1 := h3.cell 0 rfl 1 rfl
    have c_0_2 := h3.cell 0 rfl 2 rfl
    have c_0_3 := h3.cell 0 rfl 3 rfl
    have c_0_4 := h3.cell 0 rfl 4 rfl
    have c_0_5 := h3.cell 0 rfl 5 rfl
    iterate 1 (refine wpList_plainQ rfl (fun K Q' hK => ?_); go_simp; refine hK _ _ ?_; clear hK K; try clear Q')
    clear c_0_0 c_0_1 c_0_2 c_0_3 c_0_4 c_0_5
    refine wpList_plainQ rfl (fun K Q' hK => ?_); go_simp
    refine h3.k_alloc (fun w4 h4 => ?_)
    refine hK _ _ ?_; clear hK K; try clear Q'
    have c_0 := h4.cell 3 rfl 0 rfl
    have f_0 := h4.free 3 rfl 0
    have c_1 := h4.cell 3 rfl 1 rfl
    have f_1 := h4.free 3 rfl 1
    have c_2 := h4.cell 3 rfl 2 rfl
    have f_2 := h4.free 3 rfl 2
    have c_3 := h4.cell 3 rfl 3 rfl
    have f_3 := h4.free 3 rfl 3
    have c_4 := h4.cell 3 rfl 4 rfl
    have f_4 := h4.free 3 rfl 4
    have c_5 := h4.cell 3 rfl 5 rfl
    have f_5 := h4.free 3 rfl 5
    refine wpList_plainQ rfl (fun K Q' hK => ?_); go_simp
    clear c_0 f_0 c_1 f_1 c_2 f_2 c_3 f_3 c_4 f_4 c_5 f_5
    refine (((((h4.set (i := 3) rfl 0 _).set (i := 3) rfl 1 _).set (i := 3) rfl 2 _).set (i := 3) rfl 3 _).set (i := 3) rfl 4 _).k_set 3 rfl (fun w5 h5 => ?_)
    refine hK _ _ ?_; clear hK K; try clear Q'
    refine wpList_nil ?_
    show Code.wp _ _ _ _ _
    refine wp_seq ?_
    repeat (first | simp only [List.nil_append] at h5 | simp only [List.cons_append] at h5 | simp only [List.set_cons_zero] at h5 | simp only [List.set_cons_succ] at h5 | simp only [List.eraseIdx_zero] at h5 | simp only [List.tail_cons] at h5 | simp only [List.eraseIdx_cons_zero] at h5 | simp only [List.eraseIdx_cons_succ] at h5 | simp only [List.setIfInBounds_toArray] at h5)
    refine wp_region_lit ?_
    have c_1_0 := h5.cell 1 rfl 0 rfl
    have c_1_1 := h5.cell 1 rfl 1 rfl
    have c_1_2 := h5.cell 1 rfl 2 rfl
    have c_1_3 := h5.cell 1 rfl 3 rfl
    have c_1_4 := h5.cell 1 rfl 4 rfl
    have c_1_5 := h5.cell 1 rfl 5 rfl
    iterate 1 (refine wpList_plainQ rfl (fun K Q' hK => ?_); go_simp; refine hK _ _ ?_; clear hK K; try clear Q')
    clear c_1_0 c_1_1 c_1_2 c_1_3 c_1_4 c_1_5
    refine wpList_plainQ rfl (fun K Q' hK => ?_); go_simp
    refine h5.k_alloc (fun w6 h6 => ?_)
    refine hK _ _ ?_; clear hK K; try clear Q'
    have c_0 := h6.cell 4 rfl 0 rfl
    have f_0 := h6.free 4 rfl 0
    have c_1 := h6.cell 4 rfl 1 rfl
    have f_1 := h6.free 4 rfl 1
    have c_2 := h6.cell 4 rfl 2 rfl
    have f_2 := h6.free 4 rfl 2
    have c_3 := h6.cell 4 rfl 3 rfl
    have f_3 := h6.free 4 rfl 3
    have c_4 := h6.cell 4 rfl 4 rfl
    have f_4 := h6.free 4 rfl 4
    have c_5 := h6.cell 4 rfl 5 rfl
    have f_5 := h6.free 4 rfl 5
    refine wpList_plainQ rfl (fun K Q' hK => ?_); go_simp
    clear c_0 f_0 c_1 f_1 c_2 f_2 c_3 f_3 c_4 f_4 c_5 f_5
    refine (((((h6.set (i := 4) rfl 0 _).set (i := 4) rfl 1 _).set (i := 4) rfl 2 _).set (i := 4) rfl 3 _).set (i := 4) rfl 4 _).k_set 4 rfl (fun w7 h7 => ?_)
    refine hK _ _ ?_; clear hK K; try clear Q'
    refine wpList_nil ?_
    show Code.wp _ _ _ _ _
    refine wp_seq ?_
    repeat (first | simp only [List.nil_append] at h7 | simp only [List.cons_append] at h7 | simp only [List.set_cons_zero] at h7 | simp only [List.set_cons_succ] at h7 | simp only [List.eraseIdx_zero] at h7 | simp only [List.tail_cons] at h7 | simp only [List.eraseIdx_cons_zero] at h7 | simp only [List.eraseIdx_cons_succ] at h7 | simp only [List.setIfInBounds_toArray] at h7)
    refine wp_region_lit ?_
    have c_1_1 := h7.cell 1 rfl 1 rfl
    have c_1_2 := h7.cell 1 rfl 2 rfl
    have c_0_1 := h7.cell 0 rfl 1 rfl
    have c_0_2 := h7.cell 0 rfl 2 rfl
    iterate 4 (refine wpList_plainQ rfl (fun K Q' hK => ?_); go_simp; refine hK _ _ ?_; clear hK K; try clear Q')
    clear c_1_1 c_1_2 c_0_1 c_0_2
    -- stops at: eff:call (Go.Op.call {'callee': (Go.Callee.value (Go.Operand.func 26)), 'args': [(Go.Operand.tmp 21), (Go.Operand.tmp 23)], 'argTypes': [32, 32]}) slot 24
    refine wpList_plainQ rfl (fun K Q' hK => ?_); go_simp
    refine (rless_ok H _ t.x s.x h7.fits).mono ?_
    rintro e wA ⟨rfl, hkA⟩
    rw [hlt]
    have h8 := h7.callk hkA
    refine hK _ _ ?_; clear hK K; try clear Q'
    iterate 1 (refine wpList_plainQ rfl (fun K Q' hK => ?_); go_simp; refine hK _ _ ?_; clear hK K; try clear Q')
    refine wpList_nil ?_
    show Code.wp _ _ _ _ _
    refine wp_seq ?_
    refine wp_seq ?_
    repeat (first | simp only [List.nil_append] at h8 | simp only [List.cons_append] at h8 | simp only [List.set_cons_zero] at h8 | simp only [List.set_cons_succ] at h8 | simp only [List.eraseIdx_zero] at h8 | simp only [List.tail_cons] at h8 | simp only [List.eraseIdx_cons_zero] at h8 | simp only [List.eraseIdx_cons_succ] at h8 | simp only [List.setIfInBounds_toArray] at h8)
    refine wp_region_lit ?_
    iterate 1 (refine wpList_plainQ rfl (fun K Q' hK => ?_); go_simp; refine hK _ _ ?_; clear hK K; try clear Q')
    refine wpList_nil ?_
    show Code.wp _ _ _ _ _
    -- stops at: cond
    refine wp_cond_false (rfl) ?_
    refine wp_skip ?_
    show Code.wp _ _ _ _ _
    refine wp_seq ?_
    refine wp_region_lit ?_
    have c_4_0 := h8.cell 4 rfl 0 rfl
    have c_4_1 := h8.cell 4 rfl 1 rfl
    have c_4_2 := h8.cell 4 rfl 2 rfl
    have c_4_3 := h8.cell 4 rfl 3 rfl
    have c_4_4 := h8.cell 4 rfl 4 rfl
    have c_4_5 := h8.cell 4 rfl 5 rfl
    iterate 1 (refine wpList_plainQ rfl (fun K Q' hK => ?_); go_simp; refine hK _ _ ?_; clear hK K; try clear Q')
    clear c_4_0 c_4_1 c_4_2 c_4_3 c_4_4 c_4_5
    refine wpList_plainQ rfl (fun K Q' hK => ?_); go_simp
    refine h8.k_alloc (fun w9 h9 => ?_)
    refine hK _ _ ?_; clear hK K; try clear Q'
    iterate 1 (refine wpList_plainQ rfl (fun K Q' hK => ?_); go_simp; refine hK _ _ ?_; clear hK K; try clear Q')
    refine wpList_nil ?_
    show Code.wp _ _ _ _ _
    refine wp_seq ?_
    repeat (first | simp only [List.nil_append] at h9 | simp only [List.cons_append] at h9 | simp only [List.set_cons_zero] at h9 | simp only [List.set_cons_succ] at h9 | simp only [List.eraseIdx_zero] at h9 | simp only [List.tail_cons] at h9 | simp only [List.eraseIdx_cons_zero] at h9 | simp only [List.eraseIdx_cons_succ] at h9 | simp only [List.setIfInBounds_toArray] at h9)
    refine wp_region_lit ?_
    have c_3_4 := h9.cell 3 rfl 4 rfl
    iterate 3 (refine wpList_plainQ rfl (fun K Q' hK => ?_); go_simp; refine hK _ _ ?_; clear hK K; try clear Q')
    clear c_3_4
    -- stops at: eff:Builtin.append (Go.Op.call {'callee': (Go.Callee.builtin Go.Builtin.append), 'args': [(Go.Operand.tmp 30), (Go.Operand.tmp 32)], 'argTypes': [33, 33]}) slot 33
    have hR := h9.rowOf 5 rfl 6 1 rfl (by unfold maxLen; omega)
    refine wpList_plainQ rfl (fun K Q' hK => ?_)
    obtain ⟨kcs, hq1, hq2⟩ := hk1
    have hkn : s.k.toL.length < 1000000 := by
      have h5 := s.k.len_le
      have h6 : s.size = 1 + (s.b.length + s.k.els.length) := by simp [Tr.size, Tr.els]; omega
      rw [RT.toL_length]
      omega
    refine hR.op_append_rep 0 rfl rfl infoTT rfl kcs rfl hq1 (TV.one hq2) (by omega) (by unfold maxLen; omega) (fun v1 wB hB => ?_)
    refine hK _ _ ?_; clear hK K; try clear Q'
    obtain ⟨aV, cV, rfl⟩ := hB.row_form 0 rfl
    obtain ⟨H6, h6, rA, leA⟩ := hB.settleRow 0 rfl
    iterate 1 (refine wpList_plainQ rfl (fun K Q' hK => ?_); go_simp; refine hK _ _ ?_; clear hK K; try clear Q')
    refine wpList_nil ?_
    show Code.wp _ _ _ _ _
    refine wp_seq ?_
    repeat (first | simp only [List.nil_append] at h6 | simp only [List.cons_append] at h6 | simp only [List.set_cons_zero] at h6 | simp only [List.set_cons_succ] at h6 | simp only [List.eraseIdx_zero] at h6 | simp only [List.tail_cons] at h6 | simp only [List.eraseIdx_cons_zero] at h6 | simp only [List.eraseIdx_cons_succ] at h6 | simp only [List.setIfInBounds_toArray] at h6)
    refine wp_region_lit ?_
    have c_3_0 := h6.cell 3 rfl 0 rfl
    have c_3_1 := h6.cell 3 rfl 1 rfl
    have c_3_2 := h6.cell 3 rfl 2 rfl
    have c_3_3 := h6.cell 3 rfl 3 rfl
    have c_0_5 := h6.cell 0 rfl 5 rfl
    have c_1_5 := h6.cell 1 rfl 5 rfl
    iterate 14 (refine wpList_plainQ rfl (fun K Q' hK => ?_); go_simp; refine hK _ _ ?_; clear hK K; try clear Q')
    clear c_3_0 c_3_1 c_3_2 c_3_3 c_0_5 c_1_5
    have c_0 := h6.cell 2 rfl 0 rfl
    have f_0 := h6.free 2 rfl 0
    have c_1 := h6.cell 2 rfl 1 rfl
    have f_1 := h6.free 2 rfl 1
    have c_2 := h6.cell 2 rfl 2 rfl
    have f_2 := h6.free 2 rfl 2
    have c_3 := h6.cell 2 rfl 3 rfl
    have f_3 := h6.free 2 rfl 3
    have c_4 := h6.cell 2 rfl 4 rfl
    have f_4 := h6.free 2 rfl 4
    have c_5 := h6.cell 2 rfl 5 rfl
    have f_5 := h6.free 2 rfl 5
    refine wpList_plainQ rfl (fun K Q' hK => ?_); go_simp
    clear c_0 f_0 c_1 f_1 c_2 f_2 c_3 f_3 c_4 f_4 c_5 f_5
    refine (((((h6.set (i := 2) rfl 0 _).set (i := 2) rfl 1 _).set (i := 2) rfl 2 _).set (i := 2) rfl 3 _).set (i := 2) rfl 4 _).k_set 2 rfl (fun w10 h10 => ?_)
    refine hK _ _ ?_; clear hK K; try clear Q'
    iterate 1 (refine wpList_plainQ rfl (fun K Q' hK => ?_); go_simp; refine hK _ _ ?_; clear hK K; try clear Q')
    refine wpList_nil ?_
    show Code.wp _ _ _ _ _
    -- stops at: ret
    refine wp_ret ?_
    have r_2_0 := h10.cell 2 rfl 0 rfl
    have r_2_1 := h10.cell 2 rfl 1 rfl
    have r_2_2 := h10.cell 2 rfl 2 rfl
    have r_2_3 := h10.cell 2 rfl 3 rfl
    have r_2_4 := h10.cell 2 rfl 4 rfl
    have r_2_5 := h10.cell 2 rfl 5 rfl
    first | show bodyPost _ _ _ _ _ _ | (simp only [Exit.then]; show bodyPost _ _ _ _ _ _) | (simp only [Exit.inBlock]; show bodyPost _ _ _ _ _ _) | (simp only [Exit.inBlock, Exit.then]; show bodyPost _ _ _ _ _ _) | (simp only [Exit.noGoto, Exit.inBlock, Exit.then]; show bodyPost _ _ _ _ _ _)
    refine bodyPost_ret (v := ?_) ?_ rfl ?_
    rotate_left
    · simp only [results, Tryz.results80]; go_simp; with_reducible rfl
    clear r_2_0 r_2_1 r_2_2 r_2_3 r_2_4 r_2_5
    refine ⟨_, H6, rfl, h10.post, ?_⟩
    rw [heq]
    refine ⟨_, _, _, _, rfl, hrn.out, hzn.out, hb1.mono leA, ?_⟩
    refine ⟨_, ?_, TV.push hr2 hz2 (hb2.mono leA) (hk2.mono leA) (hq2.mono leA)⟩
    show SliceRep H6 6 _ (_ + 1) _
    rw [Nat.add_comm _ 1]
    exact rA
  | true =>
    obtain ⟨rn, hrr⟩ : ∃ n, Hid (r2 + 1 = n) := ⟨_, show _ = _ from rfl⟩
    have e1 : IntKind.i64.wrap ((r2 : Int) + 1) = (rn : Int) := by have := hrr.out; have := hr2.out; rw [IntWalk.i64_in _ (by omega)]; omega
    have heq := Tr.link_lt kf hlt
    have hrn : Hid (Hid (rn = (⟨t.x, t.b, .push s t.k⟩ : Tr El).rank)) := by have h5 := hrr.out; have h6 := hr2.out; show rn = t.k.len + 1; unfold Tr.rank at h6; omega
    have hzn : Hid (Hid (zn = (⟨t.x, t.b, .push s t.k⟩ : Tr El).size)) := by rw [← heq]; have h5 := hzz.out; have h6 := hz1.out; have h7 := hz2.out; show zn = _; omega
    clear hls
    go_enter Tryz.func80, Tryz.ntmps80
    have h0 := St.start hpre
    refine wp_seq ?_
    repeat (first | simp only [List.nil_append] at h0 | simp only [List.cons_append] at h0 | simp only [List.set_cons_zero] at h0 | simp only [List.set_cons_succ] at h0 | simp only [List.eraseIdx_zero] at h0 | simp only [List.tail_cons] at h0 | simp only [List.eraseIdx_cons_zero] at h0 | simp only [List.eraseIdx_cons_succ] at h0 | simp only [List.setIfInBounds_toArray] at h0)
    refine wp_region_lit ?_
    refine wpList_plainQ rfl (fun K Q' hK => ?_); go_simp
    refine h0.k_alloc (fun w1 h1 => ?_)
    refine hK _ _ ?_; clear hK K; try clear Q'
    refine wpList_plainQ rfl (fun K Q' hK => ?_); go_simp
    refine h1.k_alloc (fun w2 h2 => ?_)
    refine hK _ _ ?_; clear hK K; try clear Q'
    refine wpList_plainQ rfl (fun K Q' hK => ?_); go_simp
    refine h2.k_alloc (fun w3 h3 => ?_)
    refine hK _ _ ?_; clear hK K; try clear Q'
    iterate 1 (refine wpList_plainQ rfl (fun K Q' hK => ?_); go_simp; refine hK _ _ ?_; clear hK K; try clear Q')
    refine wpList_nil ?_
    show Code.wp _ _ _ _ _
    refine wp_seq ?_
    refine wp_seq ?_
    repeat (first | simp only [List.nil_append] at h3 | simp only [List.cons_append] at h3 | simp only [List.set_cons_zero] at h3 | simp only [List.set_cons_succ] at h3 | simp only [List.eraseIdx_zero] at h3 | simp only [List.tail_cons] at h3 | simp only [List.eraseIdx_cons_zero] at h3 | simp only [List.eraseIdx_cons_succ] at h3 | simp only [List.setIfInBounds_toArray] at h3)
    refine wp_region_lit ?_
    have c_0_5 := h3.cell 0 rfl 5 rfl
    iterate 3 (refine wpList_plainQ rfl (fun K Q' hK => ?_); go_simp; refine hK _ _ ?_; clear hK K; try clear Q')
    clear c_0_5
    refine wpList_nil ?_
    show Code.wp _ _ _ _ _
    -- stops at: cond
    refine wp_cond_false (rfl) ?_
    refine wp_skip ?_
    show Code.wp _ _ _ _ _
    refine wp_seq ?_
    refine wp_seq ?_
    refine wp_region_lit ?_
    have c_1_5 := h3.cell 1 rfl 5 rfl
    iterate 3 (refine wpList_plainQ rfl (fun K Q' hK => ?_); go_simp; refine hK _ _ ?_; clear hK K; try clear Q')
    clear c_1_5
    refine wpList_nil ?_
    show Code.wp _ _ _ _ _
    -- stops at: cond
    refine wp_cond_false (rfl) ?_
    refine wp_skip ?_
    show Code.wp _ _ _ _ _
    refine wp_seq ?_
    refine wp_region_lit ?_
    have c_0_0 := h3.cell 0 rfl 0 rfl
    have c_0_1 := h3.cell 0 rfl 1 rfl
    have c_0_2 := h3.cell 0 rfl 2 rfl
    have c_0_3 := h3.cell 0 rfl 3 rfl
    have c_0_4 := h3.cell 0 rfl 4 rfl
    have c_0_5 := h3.cell 0 rfl 5 rfl
    iterate 1 (refine wpList_plainQ rfl (fun K Q' hK => ?_); go_simp; refine hK _ _ ?_; clear hK K; try clear Q')
    clear c_0_0 c_0_1 c_0_2 c_0_3 c_0_4 c_0_5
    refine wpList_plainQ rfl (fun K Q' hK => ?_); go_simp
    refine h3.k_alloc (fun w4 h4 => ?_)
    refine hK _ _ ?_; clear hK K; try clear Q'
    have c_0 := h4.cell 3 rfl 0 rfl
    have f_0 := h4.free 3 rfl 0
    have c_1 := h4.cell 3 rfl 1 rfl
    have f_1 := h4.free 3 rfl 1
    have c_2 := h4.cell 3 rfl 2 rfl
    have f_2 := h4.free 3 rfl 2
    have c_3 := h4.cell 3 rfl 3 rfl
    have f_3 := h4.free 3 rfl 3
    have c_4 := h4.cell 3 rfl 4 rfl
    have f_4 := h4.free 3 rfl 4
    have c_5 := h4.cell 3 rfl 5 rfl
    have f_5 := h4.free 3 rfl 5
    refine wpList_plainQ rfl (fun K Q' hK => ?_); go_simp
    clear c_0 f_0 c_1 f_1 c_2 f_2 c_3 f_3 c_4 f_4 c_5 f_5
    refine (((((h4.set (i := 3) rfl 0 _).set (i := 3) rfl 1 _).set (i := 3) rfl 2 _).set (i := 3) rfl 3 _).set (i := 3) rfl 4 _).k_set 3 rfl (fun w5 h5 => ?_)
    refine hK _ _ ?_; clear hK K; try clear Q'
    refine wpList_nil ?_
    show Code.wp _ _ _ _ _
    refine wp_seq ?_
    repeat (first | simp only [List.nil_append] at h5 | simp only [List.cons_append] at h5 | simp only [List.set_cons_zero] at h5 | simp only [List.set_cons_succ] at h5 | simp only [List.eraseIdx_zero] at h5 | simp only [List.tail_cons] at h5 | simp only [List.eraseIdx_cons_zero] at h5 | simp only [List.eraseIdx_cons_succ] at h5 | simp only [List.setIfInBounds_toArray] at h5)
    refine wp_region_lit ?_
    have c_1_0 := h5.cell 1 rfl 0 rfl
    have c_1_1 := h5.cell 1 rfl 1 rfl
    have c_1_2 := h5.cell 1 rfl 2 rfl
    have c_1_3 := h5.cell 1 rfl 3 rfl
    have c_1_4 := h5.cell 1 rfl 4 rfl
    have c_1_5 := h5.cell 1 rfl 5 rfl
    iterate 1 (refine wpList_plainQ rfl (fun K Q' hK => ?_); go_simp; refine hK _ _ ?_; clear hK K; try clear Q')
    clear c_1_0 c_1_1 c_1_2 c_1_3 c_1_4 c_1_5
    refine wpList_plainQ rfl (fun K Q' hK => ?_); go_simp
    refine h5.k_alloc (fun w6 h6 => ?_)
    refine hK _ _ ?_; clear hK K; try clear Q'
    have c_0 := h6.cell 4 rfl 0 rfl
    have f_0 := h6.free 4 rfl 0
    have c_1 := h6.cell 4 rfl 1 rfl
    have f_1 := h6.free 4 rfl 1
    have c_2 := h6.cell 4 rfl 2 rfl
    have f_2 := h6.free 4 rfl 2
    have c_3 := h6.cell 4 rfl 3 rfl
    have f_3 := h6.free 4 rfl 3
    have c_4 := h6.cell 4 rfl 4 rfl
    have f_4 := h6.free 4 rfl 4
    have c_5 := h6.cell 4 rfl 5 rfl
    have f_5 := h6.free 4 rfl 5
    refine wpList_plainQ rfl (fun K Q' hK => ?_); go_simp
    clear c_0 f_0 c_1 f_1 c_2 f_2 c_3 f_3 c_4 f_4 c_5 f_5
    refine (((((h6.set (i := 4) rfl 0 _).set (i := 4) rfl 1 _).set (i := 4) rfl 2 _).set (i := 4) rfl 3 _).set (i := 4) rfl 4 _).k_set 4 rfl (fun w7 h7 => ?_)
    refine hK _ _ ?_; clear hK K; try clear Q'
    refine wpList_nil ?_
    show Code.wp _ _ _ _ _
    refine wp_seq ?_
    repeat (first | simp only [List.nil_append] at h7 | simp only [List.cons_append] at h7 | simp only [List.set_cons_zero] at h7 | simp only [List.set_cons_succ] at h7 | simp only [List.eraseIdx_zero] at h7 | simp only [List.tail_cons] at h7 | simp only [List.eraseIdx_cons_zero] at h7 | simp only [List.eraseIdx_cons_succ] at h7 | simp only [List.setIfInBounds_toArray] at h7)
    refine wp_region_lit ?_
    have c_1_1 := h7.cell 1 rfl 1 rfl
    have c_1_2 := h7.cell 1 rfl 2 rfl
    have c_0_1 := h7.cell 0 rfl 1 rfl
    have c_0_2 := h7.cell 0 rfl 2 rfl
    iterate 4 (refine wpList_plainQ rfl (fun K Q' hK => ?_); go_simp; refine hK _ _ ?_; clear hK K; try clear Q')
    clear c_1_1 c_1_2 c_0_1 c_0_2
    -- stops at: eff:call (Go.Op.call {'callee': (Go.Callee.value (Go.Operand.func 26)), 'args': [(Go.Operand.tmp 21), (Go.Operand.tmp 23)], 'argTypes': [32, 32]}) slot 24
    refine wpList_plainQ rfl (fun K Q' hK => ?_); go_simp
    refine (rless_ok H _ t.x s.x h7.fits).mono ?_
    rintro e wA ⟨rfl, hkA⟩
    rw [hlt]
    have h8 := h7.callk hkA
    refine hK _ _ ?_; clear hK K; try clear Q'
    iterate 1 (refine wpList_plainQ rfl (fun K Q' hK => ?_); go_simp; refine hK _ _ ?_; clear hK K; try clear Q')
    refine wpList_nil ?_
    show Code.wp _ _ _ _ _
    refine wp_seq ?_
    refine wp_seq ?_
    repeat (first | simp only [List.nil_append] at h8 | simp only [List.cons_append] at h8 | simp only [List.set_cons_zero] at h8 | simp only [List.set_cons_succ] at h8 | simp only [List.eraseIdx_zero] at h8 | simp only [List.tail_cons] at h8 | simp only [List.eraseIdx_cons_zero] at h8 | simp only [List.eraseIdx_cons_succ] at h8 | simp only [List.setIfInBounds_toArray] at h8)
    refine wp_region_lit ?_
    iterate 1 (refine wpList_plainQ rfl (fun K Q' hK => ?_); go_simp; refine hK _ _ ?_; clear hK K; try clear Q')
    refine wpList_nil ?_
    show Code.wp _ _ _ _ _
    -- stops at: cond
    refine wp_cond_true (rfl) ?_
    refine wp_seq ?_
    refine wp_region_lit ?_
    have c_1_0 := h8.cell 1 rfl 0 rfl
    have c_1_1 := h8.cell 1 rfl 1 rfl
    have c_1_2 := h8.cell 1 rfl 2 rfl
    have c_1_3 := h8.cell 1 rfl 3 rfl
    have c_1_4 := h8.cell 1 rfl 4 rfl
    have c_1_5 := h8.cell 1 rfl 5 rfl
    iterate 1 (refine wpList_plainQ rfl (fun K Q' hK => ?_); go_simp; refine hK _ _ ?_; clear hK K; try clear Q')
    clear c_1_0 c_1_1 c_1_2 c_1_3 c_1_4 c_1_5
    have c_0 := h8.cell 3 rfl 0 rfl
    have f_0 := h8.free 3 rfl 0
    have c_1 := h8.cell 3 rfl 1 rfl
    have f_1 := h8.free 3 rfl 1
    have c_2 := h8.cell 3 rfl 2 rfl
    have f_2 := h8.free 3 rfl 2
    have c_3 := h8.cell 3 rfl 3 rfl
    have f_3 := h8.free 3 rfl 3
    have c_4 := h8.cell 3 rfl 4 rfl
    have f_4 := h8.free 3 rfl 4
    have c_5 := h8.cell 3 rfl 5 rfl
    have f_5 := h8.free 3 rfl 5
    refine wpList_plainQ rfl (fun K Q' hK => ?_); go_simp
    clear c_0 f_0 c_1 f_1 c_2 f_2 c_3 f_3 c_4 f_4 c_5 f_5
    refine (((((h8.set (i := 3) rfl 0 _).set (i := 3) rfl 1 _).set (i := 3) rfl 2 _).set (i := 3) rfl 3 _).set (i := 3) rfl 4 _).k_set 3 rfl (fun w9 h9 => ?_)
    refine hK _ _ ?_; clear hK K; try clear Q'
    refine wpList_nil ?_
    show Code.wp _ _ _ _ _
    repeat (first | simp only [List.nil_append] at h9 | simp only [List.cons_append] at h9 | simp only [List.set_cons_zero] at h9 | simp only [List.set_cons_succ] at h9 | simp only [List.eraseIdx_zero] at h9 | simp only [List.tail_cons] at h9 | simp only [List.eraseIdx_cons_zero] at h9 | simp only [List.eraseIdx_cons_succ] at h9 | simp only [List.setIfInBounds_toArray] at h9)
    refine wp_region_lit ?_
    have c_0_0 := h9.cell 0 rfl 0 rfl
    have c_0_1 := h9.cell 0 rfl 1 rfl
    have c_0_2 := h9.cell 0 rfl 2 rfl
    have c_0_3 := h9.cell 0 rfl 3 rfl
    have c_0_4 := h9.cell 0 rfl 4 rfl
    have c_0_5 := h9.cell 0 rfl 5 rfl
    iterate 1 (refine wpList_plainQ rfl (fun K Q' hK => ?_); go_simp; refine hK _ _ ?_; clear hK K; try clear Q')
    clear c_0_0 c_0_1 c_0_2 c_0_3 c_0_4 c_0_5
    have c_0 := h9.cell 4 rfl 0 rfl
    have f_0 := h9.free 4 rfl 0
    have c_1 := h9.cell 4 rfl 1 rfl
    have f_1 := h9.free 4 rfl 1
    have c_2 := h9.cell 4 rfl 2 rfl
    have f_2 := h9.free 4 rfl 2
    have c_3 := h9.cell 4 rfl 3 rfl
    have f_3 := h9.free 4 rfl 3
    have c_4 := h9.cell 4 rfl 4 rfl
    have f_4 := h9.free 4 rfl 4
    have c_5 := h9.cell 4 rfl 5 rfl
    have f_5 := h9.free 4 rfl 5
    refine wpList_plainQ rfl (fun K Q' hK => ?_); go_simp
    clear c_0 f_0 c_1 f_1 c_2 f_2 c_3 f_3 c_4 f_4 c_5 f_5
    refine (((((h9.set (i := 4) rfl 0 _).set (i := 4) rfl 1 _).set (i := 4) rfl 2 _).set (i := 4) rfl 3 _).set (i := 4) rfl 4 _).k_set 4 rfl (fun w10 h10 => ?_)
    refine hK _ _ ?_; clear hK K; try clear Q'
    refine wpList_nil ?_
    show Code.wp _ _ _ _ _
    refine wp_seq ?_
    repeat (first | simp only [List.nil_append] at h10 | simp only [List.cons_append] at h10 | simp only [List.set_cons_zero] at h10 | simp only [List.set_cons_succ] at h10 | simp only [List.eraseIdx_zero] at h10 | simp only [List.tail_cons] at h10 | simp only [List.eraseIdx_cons_zero] at h10 | simp only [List.eraseIdx_cons_succ] at h10 | simp only [List.setIfInBounds_toArray] at h10)
    refine wp_region_lit ?_
    have c_4_0 := h10.cell 4 rfl 0 rfl
    have c_4_1 := h10.cell 4 rfl 1 rfl
    have c_4_2 := h10.cell 4 rfl 2 rfl
    have c_4_3 := h10.cell 4 rfl 3 rfl
    have c_4_4 := h10.cell 4 rfl 4 rfl
    have c_4_5 := h10.cell 4 rfl 5 rfl
    iterate 1 (refine wpList_plainQ rfl (fun K Q' hK => ?_); go_simp; refine hK _ _ ?_; clear hK K; try clear Q')
    clear c_4_0 c_4_1 c_4_2 c_4_3 c_4_4 c_4_5
    refine wpList_plainQ rfl (fun K Q' hK => ?_); go_simp
    refine h10.k_alloc (fun w11 h11 => ?_)
    refine hK _ _ ?_; clear hK K; try clear Q'
    iterate 1 (refine wpList_plainQ rfl (fun K Q' hK => ?_); go_simp; refine hK _ _ ?_; clear hK K; try clear Q')
    refine wpList_nil ?_
    show Code.wp _ _ _ _ _
    refine wp_seq ?_
    repeat (first | simp only [List.nil_append] at h11 | simp only [List.cons_append] at h11 | simp only [List.set_cons_zero] at h11 | simp only [List.set_cons_succ] at h11 | simp only [List.eraseIdx_zero] at h11 | simp only [List.tail_cons] at h11 | simp only [List.eraseIdx_cons_zero] at h11 | simp only [List.eraseIdx_cons_succ] at h11 | simp only [List.setIfInBounds_toArray] at h11)
    refine wp_region_lit ?_
    have c_3_4 := h11.cell 3 rfl 4 rfl
    iterate 3 (refine wpList_plainQ rfl (fun K Q' hK => ?_); go_simp; refine hK _ _ ?_; clear hK K; try clear Q')
    clear c_3_4
    -- stops at: eff:Builtin.append (Go.Op.call {'callee': (Go.Callee.builtin Go.Builtin.append), 'args': [(Go.Operand.tmp 30), (Go.Operand.tmp 32)], 'argTypes': [33, 33]}) slot 33
    -- stops at: eff:Builtin.append (Go.Op.call {'callee': (Go.Callee.builtin Go.Builtin.append), 'args': [(Go.Operand.tmp 30), (Go.Operand.tmp 32)], 'argTypes': [33, 33]}) slot 33
    have hR := h11.rowOf 5 rfl 6 1 rfl (by unfold maxLen; omega)
    refine wpList_plainQ rfl (fun K Q' hK => ?_)
    obtain ⟨kcs, hq1, hq2⟩ := hk2
    have hkn : t.k.toL.length < 1000000 := by
      have h5 := t.k.len_le
      have h6 : t.size = 1 + (t.b.length + t.k.els.length) := by simp [Tr.size, Tr.els]; omega
      rw [RT.toL_length]
      omega
    refine hR.op_append_rep 0 rfl rfl infoTT rfl kcs rfl hq1 (TV.one hq2) (by omega) (by unfold maxLen; omega) (fun v1 wB hB => ?_)
    refine hK _ _ ?_; clear hK K; try clear Q'
    obtain ⟨aV, cV, rfl⟩ := hB.row_form 0 rfl
    obtain ⟨H6, h6, rA, leA⟩ := hB.settleRow 0 rfl
    iterate 1 (refine wpList_plainQ rfl (fun K Q' hK => ?_); go_simp; refine hK _ _ ?_; clear hK K; try clear Q')
    refine wpList_nil ?_
    show Code.wp _ _ _ _ _
    refine wp_seq ?_
    repeat (first | simp only [List.nil_append] at h6 | simp only [List.cons_append] at h6 | simp only [List.set_cons_zero] at h6 | simp only [List.set_cons_succ] at h6 | simp only [List.eraseIdx_zero] at h6 | simp only [List.tail_cons] at h6 | simp only [List.eraseIdx_cons_zero] at h6 | simp only [List.eraseIdx_cons_succ] at h6 | simp only [List.setIfInBounds_toArray] at h6)
    refine wp_region_lit ?_
    have c_3_0 := h6.cell 3 rfl 0 rfl
    have c_3_1 := h6.cell 3 rfl 1 rfl
    have c_3_2 := h6.cell 3 rfl 2 rfl
    have c_3_3 := h6.cell 3 rfl 3 rfl
    have c_0_5 := h6.cell 0 rfl 5 rfl
    have c_1_5 := h6.cell 1 rfl 5 rfl
    iterate 14 (refine wpList_plainQ rfl (fun K Q' hK => ?_); go_simp; refine hK _ _ ?_; clear hK K; try clear Q')
    clear c_3_0 c_3_1 c_3_2 c_3_3 c_0_5 c_1_5
    have c_0 := h6.cell 2 rfl 0 rfl
    have f_0 := h6.free 2 rfl 0
    have c_1 := h6.cell 2 rfl 1 rfl
    have f_1 := h6.free 2 rfl 1
    have c_2 := h6.cell 2 rfl 2 rfl
    have f_2 := h6.free 2 rfl 2
    have c_3 := h6.cell 2 rfl 3 rfl
    have f_3 := h6.free 2 rfl 3
    have c_4 := h6.cell 2 rfl 4 rfl
    have f_4 := h6.free 2 rfl 4
    have c_5 := h6.cell 2 rfl 5 rfl
    have f_5 := h6.free 2 rfl 5
    refine wpList_plainQ rfl (fun K Q' hK => ?_); go_simp
    clear c_0 f_0 c_1 f_1 c_2 f_2 c_3 f_3 c_4 f_4 c_5 f_5
    refine (((((h6.set (i := 2) rfl 0 _).set (i := 2) rfl 1 _).set (i := 2) rfl 2 _).set (i := 2) rfl 3 _).set (i := 2) rfl 4 _).k_set 2 rfl (fun w12 h12 => ?_)
    refine hK _ _ ?_; clear hK K; try clear Q'
    iterate 1 (refine wpList_plainQ rfl (fun K Q' hK => ?_); go_simp; refine hK _ _ ?_; clear hK K; try clear Q')
    refine wpList_nil ?_
    show Code.wp _ _ _ _ _
    -- stops at: ret
    refine wp_ret ?_
    have r_2_0 := h12.cell 2 rfl 0 rfl
    have r_2_1 := h12.cell 2 rfl 1 rfl
    have r_2_2 := h12.cell 2 rfl 2 rfl
    have r_2_3 := h12.cell 2 rfl 3 rfl
    have r_2_4 := h12.cell 2 rfl 4 rfl
    have r_2_5 := h12.cell 2 rfl 5 rfl
    first | show bodyPost _ _ _ _ _ _ | (simp only [Exit.then]; show bodyPost _ _ _ _ _ _) | (simp only [Exit.inBlock]; show bodyPost _ _ _ _ _ _) | (simp only [Exit.inBlock, Exit.then]; show bodyPost _ _ _ _ _ _) | (simp only [Exit.noGoto, Exit.inBlock, Exit.then]; show bodyPost _ _ _ _ _ _)
    refine bodyPost_ret (v := ?_) ?_ rfl ?_
    rotate_left
    · simp only [results, Tryz.results80]; go_simp; with_reducible rfl
    clear r_2_0 r_2_1 r_2_2 r_2_3 r_2_4 r_2_5
    refine ⟨_, H6, rfl, h12.post, ?_⟩
    rw [heq]
    refine ⟨_, _, _, _, rfl, hrn.out, hzn.out, hb2.mono leA, ?_⟩
    refine ⟨_, ?_, TV.push hr1 hz1 (hb1.mono leA) (hk1.mono leA) (hq2.mono leA)⟩
    show SliceRep H6 6 _ (_ + 1) _
    rw [Nat.add_comm _ 1]
    exact rA

set_option maxRecDepth 100000 in
set_option maxHeartbeats 8000000 in
theorem rskew_ok (H : GH) (w : World) (x : El) (u v : Value) (s t : Tr El) (hf : Fits w H) (hn : s.size + t.size + 1 < 1000000) (hs : TrV H u s) (ht : TrV H v t) :
    Calls Tryz.prog 51 #[elV x, u, v] w fun e w' => ∃ r H', e = .returned (.tuple #[r, .int .i64 4]) ∧ Post w H none w' H' 0 0 ∧ TrV H' r (Tr.skew kf x s t) := by
  have hpre : Pre w H none 0 0 := Pre.none hf 0 0
  have hs' := hs
  have ht' := ht
  obtain ⟨aB, cB, aK, cK, r1, z1, rfl, hr1, hz1, hb1, hk1⟩ := hs.form
  obtain ⟨aC, cC, aL, cL, r2, z2, rfl, hr2, hz2, hb2, hk2⟩ := ht.form
  have wr4 : IntKind.i64.wrap 4 = 4 := IntWalk.i64_in _ (by omega)
  obtain ⟨l, hl⟩ : ∃ l, Hid (Tr.link kf s t = l) := ⟨_, show _ = _ from rfl⟩
  have hls : Hid (l.size = s.size + t.size) := by rw [← hl.out]; exact Tr.link_size kf s t
  cases hlt : El.lt (kf l.x) (kf x) with
  | true =>
    have heq : Tr.skew kf x s t = ⟨l.x, x :: l.b, l.k⟩ := by have := Tr.skew_lt kf (x := x) (a := s) (b := t) (by rw [hl.out]; exact hlt); rw [hl.out] at this; exact this
    go_enter Tryz.func51, Tryz.ntmps51
    have h0 := St.start hpre
    refine wp_seq ?_
    repeat (first | simp only [List.nil_append] at h0 | simp only [List.cons_append] at h0 | simp only [List.set_cons_zero] at h0 | simp only [List.set_cons_succ] at h0 | simp only [List.eraseIdx_zero] at h0 | simp only [List.tail_cons] at h0 | simp only [List.eraseIdx_cons_zero] at h0 | simp only [List.eraseIdx_cons_succ] at h0 | simp only [List.setIfInBounds_toArray] at h0)
    refine wp_region_lit ?_
    refine wpList_plainQ rfl (fun K Q' hK => ?_); go_simp
    refine h0.k_alloc (fun w1 h1 => ?_)
    refine hK _ _ ?_; clear hK K; try clear Q'
    refine wpList_plainQ rfl (fun K Q' hK => ?_); go_simp
    refine h1.k_alloc (fun w2 h2 => ?_)
    refine hK _ _ ?_; clear hK K; try clear Q'
    refine wpList_plainQ rfl (fun K Q' hK => ?_); go_simp
    refine h2.k_alloc (fun w3 h3 => ?_)
    refine hK _ _ ?_; clear hK K; try clear Q'
    refine wpList_plainQ rfl (fun K Q' hK => ?_); go_simp
    refine h3.k_alloc (fun w4 h4 => ?_)
    refine hK _ _ ?_; clear hK K; try clear Q'
    iterate 1 (refine wpList_plainQ rfl (fun K Q' hK => ?_); go_simp; refine hK _ _ ?_; clear hK K; try clear Q')
    refine wpList_nil ?_
    show Code.wp _ _ _ _ _
    refine wp_seq ?_
    repeat (first | simp only [List.nil_append] at h4 | simp only [List.cons_append] at h4 | simp only [List.set_cons_zero] at h4 | simp only [List.set_cons_succ] at h4 | simp only [List.eraseIdx_zero] at h4 | simp only [List.tail_cons] at h4 | simp only [List.eraseIdx_cons_zero] at h4 | simp only [List.eraseIdx_cons_succ] at h4 | simp only [List.setIfInBounds_toArray] at h4)
    refine wp_region_lit ?_
    have c_1_0 := h4.cell 1 rfl 0 rfl
    have c_1_1 := h4.cell 1 rfl 1 rfl
    have c_1_2 := h4.cell 1 rfl 2 rfl
    have c_1_3 := h4.cell 1 rfl 3 rfl
    have c_1_4 := h4.cell 1 rfl 4 rfl
    have c_1_5 := h4.cell 1 rfl 5 rfl
    have c_2_0 := h4.cell 2 rfl 0 rfl
    have c_2_1 := h4.cell 2 rfl 1 rfl
    have c_2_2 := h4.cell 2 rfl 2 rfl
    have c_2_3 := h4.cell 2 rfl 3 rfl
    have c_2_4 := h4.cell 2 rfl 4 rfl
    have c_2_5 := h4.cell 2 rfl 5 rfl
    iterate 2 (refine wpList_plainQ rfl (fun K Q' hK => ?_); go_simp; refine hK _ _ ?_; clear hK K; try clear Q')
    clear c_1_0 c_1_1 c_1_2 c_1_3 c_1_4 c_1_5 c_2_0 c_2_1 c_2_2 c_2_3 c_2_4 c_2_5
    -- stops at: eff:call (Go.Op.call {'callee': (Go.Callee.value (Go.Operand.func 80)), 'args': [(Go.Operand.tmp 15), (Go.Operand.tmp 16)], 'argTypes': [103, 103]}) slot 17
    refine wpList_plainQ rfl (fun K Q' hK => ?_); go_simp
    refine (rlink_ok H _ _ _ s t h4.fits (by omega) hs' ht').mono ?_
    rintro e wL ⟨rL, H1, rfl, hpL, hL⟩
    rw [hl.out] at hL
    obtain ⟨aM, cM, aN, cN, rl, zl, rfl, hrl, hzl, hbl, hkl⟩ := hL.form
    have hpl := Tr.rank_lt l
    have d3 : ((zl : Int) == 0) = false := beq_eq_false_iff_ne.2 (by have := hzl.out; omega)
    have hzlb : zl < 1000000 := by have := hzl.out; have := hls.out; omega
    have hbn : l.b.length < 1000000 := by have h5 := hzl.out; simp only [Tr.size, Tr.els, List.length_cons, List.length_append] at h5; omega
    obtain ⟨zn, hzn⟩ : ∃ n, Hid (zl + 1 = n) := ⟨_, show _ = _ from rfl⟩
    have e3 : IntKind.i64.wrap ((zl : Int) + 1) = (zn : Int) := by have := hzn.out; rw [IntWalk.i64_in _ (by omega)]; omega
    have h5 := h4.call0 hpL
    refine hK _ _ ?_; clear hK K; try clear Q'
    iterate 3 (refine wpList_plainQ rfl (fun K Q' hK => ?_); go_simp; refine hK _ _ ?_; clear hK K; try clear Q')
    refine wpList_plainQ rfl (fun K Q' hK => ?_); go_simp
    refine h5.k_alloc (fun w6 h6 => ?_)
    refine hK _ _ ?_; clear hK K; try clear Q'
    have c_0 := h6.cell 4 rfl 0 rfl
    have f_0 := h6.free 4 rfl 0
    have c_1 := h6.cell 4 rfl 1 rfl
    have f_1 := h6.free 4 rfl 1
    have c_2 := h6.cell 4 rfl 2 rfl
    have f_2 := h6.free 4 rfl 2
    have c_3 := h6.cell 4 rfl 3 rfl
    have f_3 := h6.free 4 rfl 3
    have c_4 := h6.cell 4 rfl 4 rfl
    have f_4 := h6.free 4 rfl 4
    have c_5 := h6.cell 4 rfl 5 rfl
    have f_5 := h6.free 4 rfl 5
    refine wpList_plainQ rfl (fun K Q' hK => ?_); go_simp
    clear c_0 f_0 c_1 f_1 c_2 f_2 c_3 f_3 c_4 f_4 c_5 f_5
    refine (((((h6.set (i := 4) rfl 0 _).set (i := 4) rfl 1 _).set (i := 4) rfl 2 _).set (i := 4) rfl 3 _).set (i := 4) rfl 4 _).k_set 4 rfl (fun w7 h7 => ?_)
    refine hK _ _ ?_; clear hK K; try clear Q'
    iterate 1 (refine wpList_plainQ rfl (fun K Q' hK => ?_); go_simp; refine hK _ _ ?_; clear hK K; try clear Q')
    refine wpList_nil ?_
    show Code.wp _ _ _ _ _
    refine wp_seq ?_
    refine wp_seq ?_
    repeat (first | simp only [List.nil_append] at h7 | simp only [List.cons_append] at h7 | simp only [List.set_cons_zero] at h7 | simp only [List.set_cons_succ] at h7 | simp only [List.eraseIdx_zero] at h7 | simp only [List.tail_cons] at h7 | simp only [List.eraseIdx_cons_zero] at h7 | simp only [List.eraseIdx_cons_succ] at h7 | simp only [List.setIfInBounds_toArray] at h7)
    refine wp_region_lit ?_
    have c_4_5 := h7.cell 4 rfl 5 rfl
    iterate 3 (refine wpList_plainQ rfl (fun K Q' hK => ?_); go_simp; refine hK _ _ ?_; clear hK K; try clear Q')
    clear c_4_5
    refine wpList_nil ?_
    show Code.wp _ _ _ _ _
    -- stops at: cond
    refine wp_cond_false (rfl) ?_
    refine wp_skip ?_
    show Code.wp _ _ _ _ _
    refine wp_seq ?_
    refine wp_region_lit ?_
    have c_0_0 := h7.cell 0 rfl 0 rfl
    have c_0_1 := h7.cell 0 rfl 1 rfl
    iterate 1 (refine wpList_plainQ rfl (fun K Q' hK => ?_); go_simp; refine hK _ _ ?_; clear hK K; try clear Q')
    clear c_0_0 c_0_1
    refine wpList_plainQ rfl (fun K Q' hK => ?_); go_simp
    refine h7.k_alloc (fun w8 h8 => ?_)
    refine hK _ _ ?_; clear hK K; try clear Q'
    have c_0 := h8.cell 5 rfl 0 rfl
    have f_0 := h8.free 5 rfl 0
    have c_1 := h8.cell 5 rfl 1 rfl
    have f_1 := h8.free 5 rfl 1
    refine wpList_plainQ rfl (fun K Q' hK => ?_); go_simp
    clear c_0 f_0 c_1 f_1
    refine (h8.set (i := 5) rfl 0 _).k_set 5 rfl (fun w9 h9 => ?_)
    refine hK _ _ ?_; clear hK K; try clear Q'
    refine wpList_nil ?_
    show Code.wp _ _ _ _ _
    refine wp_seq ?_
    repeat (first | simp only [List.nil_append] at h9 | simp only [List.cons_append] at h9 | simp only [List.set_cons_zero] at h9 | simp only [List.set_cons_succ] at h9 | simp only [List.eraseIdx_zero] at h9 | simp only [List.tail_cons] at h9 | simp only [List.eraseIdx_cons_zero] at h9 | simp only [List.eraseIdx_cons_succ] at h9 | simp only [List.setIfInBounds_toArray] at h9)
    refine wp_region_lit ?_
    have c_4_1 := h9.cell 4 rfl 1 rfl
    have c_4_2 := h9.cell 4 rfl 2 rfl
    iterate 2 (refine wpList_plainQ rfl (fun K Q' hK => ?_); go_simp; refine hK _ _ ?_; clear hK K; try clear Q')
    clear c_4_1 c_4_2
    refine wpList_plainQ rfl (fun K Q' hK => ?_); go_simp
    refine h9.k_alloc (fun w10 h10 => ?_)
    refine hK _ _ ?_; clear hK K; try clear Q'
    have c_0 := h10.cell 6 rfl 0 rfl
    have f_0 := h10.free 6 rfl 0
    have c_1 := h10.cell 6 rfl 1 rfl
    have f_1 := h10.free 6 rfl 1
    refine wpList_plainQ rfl (fun K Q' hK => ?_); go_simp
    clear c_0 f_0 c_1 f_1
    refine (h10.set (i := 6) rfl 0 _).k_set 6 rfl (fun w11 h11 => ?_)
    refine hK _ _ ?_; clear hK K; try clear Q'
    refine wpList_nil ?_
    show Code.wp _ _ _ _ _
    refine wp_seq ?_
    repeat (first | simp only [List.nil_append] at h11 | simp only [List.cons_append] at h11 | simp only [List.set_cons_zero] at h11 | simp only [List.set_cons_succ] at h11 | simp only [List.eraseIdx_zero] at h11 | simp only [List.tail_cons] at h11 | simp only [List.eraseIdx_cons_zero] at h11 | simp only [List.eraseIdx_cons_succ] at h11 | simp only [List.setIfInBounds_toArray] at h11)
    refine wp_region_lit ?_
    have c_4_1 := h11.cell 4 rfl 1 rfl
    have c_4_2 := h11.cell 4 rfl 2 rfl
    have c_0_0 := h11.cell 0 rfl 0 rfl
    have c_0_1 := h11.cell 0 rfl 1 rfl
    iterate 3 (refine wpList_plainQ rfl (fun K Q' hK => ?_); go_simp; refine hK _ _ ?_; clear hK K; try clear Q')
    clear c_4_1 c_4_2 c_0_0 c_0_1
    -- stops at: eff:call (Go.Op.call {'callee': (Go.Callee.value (Go.Operand.func 26)), 'args': [(Go.Operand.tmp 29), (Go.Operand.tmp 30)], 'argTypes': [32, 32]}) slot 31
    refine wpList_plainQ rfl (fun K Q' hK => ?_); go_simp
    refine (rless_ok H1 _ l.x x h11.fits).mono ?_
    rintro e wA ⟨rfl, hkA⟩
    rw [hlt]
    have h12 := h11.callk hkA
    refine hK _ _ ?_; clear hK K; try clear Q'
    iterate 1 (refine wpList_plainQ rfl (fun K Q' hK => ?_); go_simp; refine hK _ _ ?_; clear hK K; try clear Q')
    refine wpList_nil ?_
    show Code.wp _ _ _ _ _
    refine wp_seq ?_
    refine wp_seq ?_
    repeat (first | simp only [List.nil_append] at h12 | simp only [List.cons_append] at h12 | simp only [List.set_cons_zero] at h12 | simp only [List.set_cons_succ] at h12 | simp only [List.eraseIdx_zero] at h12 | simp only [List.tail_cons] at h12 | simp only [List.eraseIdx_cons_zero] at h12 | simp only [List.eraseIdx_cons_succ] at h12 | simp only [List.setIfInBounds_toArray] at h12)
    refine wp_region_lit ?_
    iterate 1 (refine wpList_plainQ rfl (fun K Q' hK => ?_); go_simp; refine hK _ _ ?_; clear hK K; try clear Q')
    refine wpList_nil ?_
    show Code.wp _ _ _ _ _
    -- stops at: cond
    refine wp_cond_true (rfl) ?_
    refine wp_seq ?_
    refine wp_region_lit ?_
    have c_4_1 := h12.cell 4 rfl 1 rfl
    have c_4_2 := h12.cell 4 rfl 2 rfl
    iterate 2 (refine wpList_plainQ rfl (fun K Q' hK => ?_); go_simp; refine hK _ _ ?_; clear hK K; try clear Q')
    clear c_4_1 c_4_2
    have c_0 := h12.cell 5 rfl 0 rfl
    have f_0 := h12.free 5 rfl 0
    have c_1 := h12.cell 5 rfl 1 rfl
    have f_1 := h12.free 5 rfl 1
    refine wpList_plainQ rfl (fun K Q' hK => ?_); go_simp
    clear c_0 f_0 c_1 f_1
    refine (h12.set (i := 5) rfl 0 _).k_set 5 rfl (fun w13 h13 => ?_)
    refine hK _ _ ?_; clear hK K; try clear Q'
    refine wpList_nil ?_
    show Code.wp _ _ _ _ _
    repeat (first | simp only [List.nil_append] at h13 | simp only [List.cons_append] at h13 | simp only [List.set_cons_zero] at h13 | simp only [List.set_cons_succ] at h13 | simp only [List.eraseIdx_zero] at h13 | simp only [List.tail_cons] at h13 | simp only [List.eraseIdx_cons_zero] at h13 | simp only [List.eraseIdx_cons_succ] at h13 | simp only [List.setIfInBounds_toArray] at h13)
    refine wp_region_lit ?_
    have c_0_0 := h13.cell 0 rfl 0 rfl
    have c_0_1 := h13.cell 0 rfl 1 rfl
    iterate 1 (refine wpList_plainQ rfl (fun K Q' hK => ?_); go_simp; refine hK _ _ ?_; clear hK K; try clear Q')
    clear c_0_0 c_0_1
    have c_0 := h13.cell 6 rfl 0 rfl
    have f_0 := h13.free 6 rfl 0
    have c_1 := h13.cell 6 rfl 1 rfl
    have f_1 := h13.free 6 rfl 1
    refine wpList_plainQ rfl (fun K Q' hK => ?_); go_simp
    clear c_0 f_0 c_1 f_1
    refine (h13.set (i := 6) rfl 0 _).k_set 6 rfl (fun w14 h14 => ?_)
    refine hK _ _ ?_; clear hK K; try clear Q'
    refine wpList_nil ?_
    show Code.wp _ _ _ _ _
    refine wp_seq ?_
    repeat (first | simp only [List.nil_append] at h14 | simp only [List.cons_append] at h14 | simp only [List.set_cons_zero] at h14 | simp only [List.set_cons_succ] at h14 | simp only [List.eraseIdx_zero] at h14 | simp only [List.tail_cons] at h14 | simp only [List.eraseIdx_cons_zero] at h14 | simp only [List.eraseIdx_cons_succ] at h14 | simp only [List.setIfInBounds_toArray] at h14)
    refine wp_region_lit ?_
    have c_6_0 := h14.cell 6 rfl 0 rfl
    have c_6_1 := h14.cell 6 rfl 1 rfl
    iterate 1 (refine wpList_plainQ rfl (fun K Q' hK => ?_); go_simp; refine hK _ _ ?_; clear hK K; try clear Q')
    clear c_6_0 c_6_1
    refine wpList_plainQ rfl (fun K Q' hK => ?_); go_simp
    refine h14.k_alloc (fun w15 h15 => ?_)
    refine hK _ _ ?_; clear hK K; try clear Q'
    iterate 1 (refine wpList_plainQ rfl (fun K Q' hK => ?_); go_simp; refine hK _ _ ?_; clear hK K; try clear Q')
    refine wpList_nil ?_
    show Code.wp _ _ _ _ _
    refine wp_seq ?_
    repeat (first | simp only [List.nil_append] at h15 | simp only [List.cons_append] at h15 | simp only [List.set_cons_zero] at h15 | simp only [List.set_cons_succ] at h15 | simp only [List.eraseIdx_zero] at h15 | simp only [List.tail_cons] at h15 | simp only [List.eraseIdx_cons_zero] at h15 | simp only [List.eraseIdx_cons_succ] at h15 | simp only [List.setIfInBounds_toArray] at h15)
    refine wp_region_lit ?_
    have c_4_3 := h15.cell 4 rfl 3 rfl
    iterate 3 (refine wpList_plainQ rfl (fun K Q' hK => ?_); go_simp; refine hK _ _ ?_; clear hK K; try clear Q')
    clear c_4_3
    -- stops at: eff:Builtin.append (Go.Op.call {'callee': (Go.Callee.builtin Go.Builtin.append), 'args': [(Go.Operand.tmp 38), (Go.Operand.tmp 40)], 'argTypes': [39, 39]}) slot 41
    -- stops at: eff:Builtin.append (Go.Op.call {'callee': (Go.Callee.builtin Go.Builtin.append), 'args': [(Go.Operand.tmp 38), (Go.Operand.tmp 40)], 'argTypes': [39, 39]}) slot 41
    have hR := h15.rowOf 7 rfl 2 1 rfl (by unfold maxLen; omega)
    refine wpList_plainQ rfl (fun K Q' hK => ?_)
    refine hR.op_append_rep 0 rfl rfl infoE rfl (l.b.flatMap elC) rfl hbl (elC_one l.b) (by omega) (by unfold maxLen; omega) (fun v1 wB hB => ?_)
    refine hK _ _ ?_; clear hK K; try clear Q'
    obtain ⟨aV, cV, rfl⟩ := hB.row_form 0 rfl
    obtain ⟨H6, h6, rA, leA⟩ := hB.settleRow 0 rfl
    iterate 1 (refine wpList_plainQ rfl (fun K Q' hK => ?_); go_simp; refine hK _ _ ?_; clear hK K; try clear Q')
    refine wpList_nil ?_
    show Code.wp _ _ _ _ _
    refine wp_seq ?_
    repeat (first | simp only [List.nil_append] at h6 | simp only [List.cons_append] at h6 | simp only [List.set_cons_zero] at h6 | simp only [List.set_cons_succ] at h6 | simp only [List.eraseIdx_zero] at h6 | simp only [List.tail_cons] at h6 | simp only [List.eraseIdx_cons_zero] at h6 | simp only [List.eraseIdx_cons_succ] at h6 | simp only [List.setIfInBounds_toArray] at h6)
    refine wp_region_lit ?_
    have c_4_0 := h6.cell 4 rfl 0 rfl
    have c_5_0 := h6.cell 5 rfl 0 rfl
    have c_5_1 := h6.cell 5 rfl 1 rfl
    have c_4_4 := h6.cell 4 rfl 4 rfl
    have c_4_5 := h6.cell 4 rfl 5 rfl
    iterate 12 (refine wpList_plainQ rfl (fun K Q' hK => ?_); go_simp; refine hK _ _ ?_; clear hK K; try clear Q')
    clear c_4_0 c_5_0 c_5_1 c_4_4 c_4_5
    have c_0 := h6.cell 3 rfl 0 rfl
    have f_0 := h6.free 3 rfl 0
    have c_1 := h6.cell 3 rfl 1 rfl
    have f_1 := h6.free 3 rfl 1
    have c_2 := h6.cell 3 rfl 2 rfl
    have f_2 := h6.free 3 rfl 2
    have c_3 := h6.cell 3 rfl 3 rfl
    have f_3 := h6.free 3 rfl 3
    have c_4 := h6.cell 3 rfl 4 rfl
    have f_4 := h6.free 3 rfl 4
    have c_5 := h6.cell 3 rfl 5 rfl
    have f_5 := h6.free 3 rfl 5
    refine wpList_plainQ rfl (fun K Q' hK => ?_); go_simp
    clear c_0 f_0 c_1 f_1 c_2 f_2 c_3 f_3 c_4 f_4 c_5 f_5
    refine (((((h6.set (i := 3) rfl 0 _).set (i := 3) rfl 1 _).set (i := 3) rfl 2 _).set (i := 3) rfl 3 _).set (i := 3) rfl 4 _).k_set 3 rfl (fun w17 h17 => ?_)
    refine hK _ _ ?_; clear hK K; try clear Q'
    iterate 1 (refine wpList_plainQ rfl (fun K Q' hK => ?_); go_simp; refine hK _ _ ?_; clear hK K; try clear Q')
    refine wpList_nil ?_
    show Code.wp _ _ _ _ _
    -- stops at: ret
    refine wp_ret ?_
    have r_3_0 := h17.cell 3 rfl 0 rfl
    have r_3_1 := h17.cell 3 rfl 1 rfl
    have r_3_2 := h17.cell 3 rfl 2 rfl
    have r_3_3 := h17.cell 3 rfl 3 rfl
    have r_3_4 := h17.cell 3 rfl 4 rfl
    have r_3_5 := h17.cell 3 rfl 5 rfl
    first | show bodyPost _ _ _ _ _ _ | (simp only [Exit.then]; show bodyPost _ _ _ _ _ _) | (simp only [Exit.inBlock]; show bodyPost _ _ _ _ _ _) | (simp only [Exit.inBlock, Exit.then]; show bodyPost _ _ _ _ _ _) | (simp only [Exit.noGoto, Exit.inBlock, Exit.then]; show bodyPost _ _ _ _ _ _)
    refine bodyPost_ret (v := ?_) ?_ rfl ?_
    rotate_left
    · simp only [results, Tryz.results51]; go_simp; with_reducible rfl
    clear r_3_0 r_3_1 r_3_2 r_3_3 r_3_4 r_3_5
    refine ⟨_, H6, rfl, h17.post, ?_⟩
    rw [heq]
    refine ⟨_, _, rl, zn, rfl, hrl.out, ?_, ?_, hkl.mono leA⟩
    · have h5 := hzn.out; have h6 := hzl.out; show zn = _; simp only [Tr.size, Tr.els, List.length_cons, List.length_append] at *; omega
    · show SliceRep H6 2 _ (_ + 1) _
      rw [Nat.add_comm _ 1]
      exact rA
  | false =>
    have heq : Tr.skew kf x s t = ⟨x, l.x :: l.b, l.k⟩ := by have := Tr.skew_ge kf (x := x) (a := s) (b := t) (by rw [hl.out]; exact hlt); rw [hl.out] at this; exact this
    go_enter Tryz.func51, Tryz.ntmps51
    have h0 := St.start hpre
    refine wp_seq ?_
    repeat (first | simp only [List.nil_append] at h0 | simp only [List.cons_append] at h0 | simp only [List.set_cons_zero] at h0 | simp only [List.set_cons_succ] at h0 | simp only [List.eraseIdx_zero] at h0 | simp only [List.tail_cons] at h0 | simp only [List.eraseIdx_cons_zero] at h0 | simp only [List.eraseIdx_cons_succ] at h0 | simp only [List.setIfInBounds_toArray] at h0)
    refine wp_region_lit ?_
    refine wpList_plainQ rfl (fun K Q' hK => ?_); go_simp
    refine h0.k_alloc (fun w1 h1 => ?_)
    refine hK _ _ ?_; clear hK K; try clear Q'
    refine wpList_plainQ rfl (fun K Q' hK => ?_); go_simp
    refine h1.k_alloc (fun w2 h2 => ?_)
    refine hK _ _ ?_; clear hK K; try clear Q'
    refine wpList_plainQ rfl (fun K Q' hK => ?_); go_simp
    refine h2.k_alloc (fun w3 h3 => ?_)
    refine hK _ _ ?_; clear hK K; try clear Q'
    refine wpList_plainQ rfl (fun K Q' hK => ?_); go_simp
    refine h3.k_alloc (fun w4 h4 => ?_)
    refine hK _ _ ?_; clear hK K; try clear Q'
    iterate 1 (refine wpList_plainQ rfl (fun K Q' hK => ?_); go_simp; refine hK _ _ ?_; clear hK K; try clear Q')
    refine wpList_nil ?_
    show Code.wp _ _ _ _ _
    refine wp_seq ?_
    repeat (first | simp only [List.nil_append] at h4 | simp only [List.cons_append] at h4 | simp only [List.set_cons_zero] at h4 | simp only [List.set_cons_succ] at h4 | simp only [List.eraseIdx_zero] at h4 | simp only [List.tail_cons] at h4 | simp only [List.eraseIdx_cons_zero] at h4 | simp only [List.eraseIdx_cons_succ] at h4 | simp only [List.setIfInBounds_toArray] at h4)
    refine wp_region_lit ?_
    have c_1_0 := h4.cell 1 rfl 0 rfl
    have c_1_1 := h4.cell 1 rfl 1 rfl
    have c_1_2 := h4.cell 1 rfl 2 rfl
    have c_1_3 := h4.cell 1 rfl 3 rfl
    have c_1_4 := h4.cell 1 rfl 4 rfl
    have c_1_5 := h4.cell 1 rfl 5 rfl
    have c_2_0 := h4.cell 2 rfl 0 rfl
    have c_2_1 := h4.cell 2 rfl 1 rfl
    have c_2_2 := h4.cell 2 rfl 2 rfl
    have c_2_3 := h4.cell 2 rfl 3 rfl
    have c_2_4 := h4.cell 2 rfl 4 rfl
    have c_2_5 := h4.cell 2 rfl 5 rfl
    iterate 2 (refine wpList_plainQ rfl (fun K Q' hK => ?_); go_simp; refine hK _ _ ?_; clear hK K; try clear Q')
    clear c_1_0 c_1_1 c_1_2 c_1_3 c_1_4 c_1_5 c_2_0 c_2_1 c_2_2 c_2_3 c_2_4 c_2_5
    -- stops at: eff:call (Go.Op.call {'callee': (Go.Callee.value (Go.Operand.func 80)), 'args': [(Go.Operand.tmp 15), (Go.Operand.tmp 16)], 'argTypes': [103, 103]}) slot 17
    refine wpList_plainQ rfl (fun K Q' hK => ?_); go_simp
    refine (rlink_ok H _ _ _ s t h4.fits (by omega) hs' ht').mono ?_
    rintro e wL ⟨rL, H1, rfl, hpL, hL⟩
    rw [hl.out] at hL
    obtain ⟨aM, cM, aN, cN, rl, zl, rfl, hrl, hzl, hbl, hkl⟩ := hL.form
    have hpl := Tr.rank_lt l
    have d3 : ((zl : Int) == 0) = false := beq_eq_false_iff_ne.2 (by have := hzl.out; omega)
    have hzlb : zl < 1000000 := by have := hzl.out; have := hls.out; omega
    have hbn : l.b.length < 1000000 := by have h5 := hzl.out; simp only [Tr.size, Tr.els, List.length_cons, List.length_append] at h5; omega
    obtain ⟨zn, hzn⟩ : ∃ n, Hid (zl + 1 = n) := ⟨_, show _ = _ from rfl⟩
    have e3 : IntKind.i64.wrap ((zl : Int) + 1) = (zn : Int) := by have := hzn.out; rw [IntWalk.i64_in _ (by omega)]; omega
    have h5 := h4.call0 hpL
    refine hK _ _ ?_; clear hK K; try clear Q'
    iterate 3 (refine wpList_plainQ rfl (fun K Q' hK => ?_); go_simp; refine hK _ _ ?_; clear hK K; try clear Q')
    refine wpList_plainQ rfl (fun K Q' hK => ?_); go_simp
    refine h5.k_alloc (fun w6 h6 => ?_)
    refine hK _ _ ?_; clear hK K; try clear Q'
    have c_0 := h6.cell 4 rfl 0 rfl
    have f_0 := h6.free 4 rfl 0
    have c_1 := h6.cell 4 rfl 1 rfl
    have f_1 := h6.free 4 rfl 1
    have c_2 := h6.cell 4 rfl 2 rfl
    have f_2 := h6.free 4 rfl 2
    have c_3 := h6.cell 4 rfl 3 rfl
    have f_3 := h6.free 4 rfl 3
    have c_4 := h6.cell 4 rfl 4 rfl
    have f_4 := h6.free 4 rfl 4
    have c_5 := h6.cell 4 rfl 5 rfl
    have f_5 := h6.free 4 rfl 5
    refine wpList_plainQ rfl (fun K Q' hK => ?_); go_simp
    clear c_0 f_0 c_1 f_1 c_2 f_2 c_3 f_3 c_4 f_4 c_5 f_5
    refine (((((h6.set (i := 4) rfl 0 _).set (i := 4) rfl 1 _).set (i := 4) rfl 2 _).set (i := 4) rfl 3 _).set (i := 4) rfl 4 _).k_set 4 rfl (fun w7 h7 => ?_)
    refine hK _ _ ?_; clear hK K; try clear Q'
    iterate 1 (refine wpList_plainQ rfl (fun K Q' hK => ?_); go_simp; refine hK _ _ ?_; clear hK K; try clear Q')
    refine wpList_nil ?_
    show Code.wp _ _ _ _ _
    refine wp_seq ?_
    refine wp_seq ?_
    repeat (first | simp only [List.nil_append] at h7 | simp only [List.cons_append] at h7 | simp only [List.set_cons_zero] at h7 | simp only [List.set_cons_succ] at h7 | simp only [List.eraseIdx_zero] at h7 | simp only [List.tail_cons] at h7 | simp only [List.eraseIdx_cons_zero] at h7 | simp only [List.eraseIdx_cons_succ] at h7 | simp only [List.setIfInBounds_toArray] at h7)
    refine wp_region_lit ?_
    have c_4_5 := h7.cell 4 rfl 5 rfl
    iterate 3 (refine wpList_plainQ rfl (fun K Q' hK => ?_); go_simp; refine hK _ _ ?_; clear hK K; try clear Q')
    clear c_4_5
    refine wpList_nil ?_
    show Code.wp _ _ _ _ _
    -- stops at: cond
    refine wp_cond_false (rfl) ?_
    refine wp_skip ?_
    show Code.wp _ _ _ _ _
    refine wp_seq ?_
    refine wp_region_lit ?_
    have c_0_0 := h7.cell 0 rfl 0 rfl
    have c_0_1 := h7.cell 0 rfl 1 rfl
    iterate 1 (refine wpList_plainQ rfl (fun K Q' hK => ?_); go_simp; refine hK _ _ ?_; clear hK K; try clear Q')
    clear c_0_0 c_0_1
    refine wpList_plainQ rfl (fun K Q' hK => ?_); go_simp
    refine h7.k_alloc (fun w8 h8 => ?_)
    refine hK _ _ ?_; clear hK K; try clear Q'
    have c_0 := h8.cell 5 rfl 0 rfl
    have f_0 := h8.free 5 rfl 0
    have c_1 := h8.cell 5 rfl 1 rfl
    have f_1 := h8.free 5 rfl 1
    refine wpList_plainQ rfl (fun K Q' hK => ?_); go_simp
    clear c_0 f_0 c_1 f_1
    refine (h8.set (i := 5) rfl 0 _).k_set 5 rfl (fun w9 h9 => ?_)
    refine hK _ _ ?_; clear hK K; try clear Q'
    refine wpList_nil ?_
    show Code.wp _ _ _ _ _
    refine wp_seq ?_
    repeat (first | simp only [List.nil_append] at h9 | simp only [List.cons_append] at h9 | simp only [List.set_cons_zero] at h9 | simp only [List.set_cons_succ] at h9 | simp only [List.eraseIdx_zero] at h9 | simp only [List.tail_cons] at h9 | simp only [List.eraseIdx_cons_zero] at h9 | simp only [List.eraseIdx_cons_succ] at h9 | simp only [List.setIfInBounds_toArray] at h9)
    refine wp_region_lit ?_
    have c_4_1 := h9.cell 4 rfl 1 rfl
    have c_4_2 := h9.cell 4 rfl 2 rfl
    iterate 2 (refine wpList_plainQ rfl (fun K Q' hK => ?_); go_simp; refine hK _ _ ?_; clear hK K; try clear Q')
    clear c_4_1 c_4_2
    refine wpList_plainQ rfl (fun K Q' hK => ?_); go_simp
    refine h9.k_alloc (fun w10 h10 => ?_)
    refine hK _ _ ?_; clear hK K; try clear Q'
    have c_0 := h10.cell 6 rfl 0 rfl
    have f_0 := h10.free 6 rfl 0
    have c_1 := h10.cell 6 rfl 1 rfl
    have f_1 := h10.free 6 rfl 1
    refine wpList_plainQ rfl (fun K Q' hK => ?_); go_simp
    clear c_0 f_0 c_1 f_1
    refine (h10.set (i := 6) rfl 0 _).k_set 6 rfl (fun w11 h11 => ?_)
    refine hK _ _ ?_; clear hK K; try clear Q'
    refine wpList_nil ?_
    show Code.wp _ _ _ _ _
    refine wp_seq ?_
    repeat (first | simp only [List.nil_append] at h11 | simp only [List.cons_append] at h11 | simp only [List.set_cons_zero] at h11 | simp only [List.set_cons_succ] at h11 | simp only [List.eraseIdx_zero] at h11 | simp only [List.tail_cons] at h11 | simp only [List.eraseIdx_cons_zero] at h11 | simp only [List.eraseIdx_cons_succ] at h11 | simp only [List.setIfInBounds_toArray] at h11)
    refine wp_region_lit ?_
    have c_4_1 := h11.cell 4 rfl 1 rfl
    have c_4_2 := h11.cell 4 rfl 2 rfl
    have c_0_0 := h11.cell 0 rfl 0 rfl
    have c_0_1 := h11.cell 0 rfl 1 rfl
    iterate 3 (refine wpList_plainQ rfl (fun K Q' hK => ?_); go_simp; refine hK _ _ ?_; clear hK K; try clear Q')
    clear c_4_1 c_4_2 c_0_0 c_0_1
    -- stops at: eff:call (Go.Op.call {'callee': (Go.Callee.value (Go.Operand.func 26)), 'args': [(Go.Operand.tmp 29), (Go.Operand.tmp 30)], 'argTypes': [32, 32]}) slot 31
    refine wpList_plainQ rfl (fun K Q' hK => ?_); go_simp
    refine (rless_ok H1 _ l.x x h11.fits).mono ?_
    rintro e wA ⟨rfl, hkA⟩
    rw [hlt]
    have h12 := h11.callk hkA
    refine hK _ _ ?_; clear hK K; try clear Q'
    iterate 1 (refine wpList_plainQ rfl (fun K Q' hK => ?_); go_simp; refine hK _ _ ?_; clear hK K; try clear Q')
    refine wpList_nil ?_
    show Code.wp _ _ _ _ _
    refine wp_seq ?_
    refine wp_seq ?_
    repeat (first | simp only [List.nil_append] at h12 | simp only [List.cons_append] at h12 | simp only [List.set_cons_zero] at h12 | simp only [List.set_cons_succ] at h12 | simp only [List.eraseIdx_zero] at h12 | simp only [List.tail_cons] at h12 | simp only [List.eraseIdx_cons_zero] at h12 | simp only [List.eraseIdx_cons_succ] at h12 | simp only [List.setIfInBounds_toArray] at h12)
    refine wp_region_lit ?_
    iterate 1 (refine wpList_plainQ rfl (fun K Q' hK => ?_); go_simp; refine hK _ _ ?_; clear hK K; try clear Q')
    refine wpList_nil ?_
    show Code.wp _ _ _ _ _
    -- stops at: cond
    refine wp_cond_false (rfl) ?_
    refine wp_skip ?_
    show Code.wp _ _ _ _ _
    refine wp_seq ?_
    refine wp_region_lit ?_
    have c_6_0 := h12.cell 6 rfl 0 rfl
    have c_6_1 := h12.cell 6 rfl 1 rfl
    iterate 1 (refine wpList_plainQ rfl (fun K Q' hK => ?_); go_simp; refine hK _ _ ?_; clear hK K; try clear Q')
    clear c_6_0 c_6_1
    refine wpList_plainQ rfl (fun K Q' hK => ?_); go_simp
    refine h12.k_alloc (fun w13 h13 => ?_)
    refine hK _ _ ?_; clear hK K; try clear Q'
    iterate 1 (refine wpList_plainQ rfl (fun K Q' hK => ?_); go_simp; refine hK _ _ ?_; clear hK K; try clear Q')
    refine wpList_nil ?_
    show Code.wp _ _ _ _ _
    refine wp_seq ?_
    repeat (first | simp only [List.nil_append] at h13 | simp only [List.cons_append] at h13 | simp only [List.set_cons_zero] at h13 | simp only [List.set_cons_succ] at h13 | simp only [List.eraseIdx_zero] at h13 | simp only [List.tail_cons] at h13 | simp only [List.eraseIdx_cons_zero] at h13 | simp only [List.eraseIdx_cons_succ] at h13 | simp only [List.setIfInBounds_toArray] at h13)
    refine wp_region_lit ?_
    have c_4_3 := h13.cell 4 rfl 3 rfl
    iterate 3 (refine wpList_plainQ rfl (fun K Q' hK => ?_); go_simp; refine hK _ _ ?_; clear hK K; try clear Q')
    clear c_4_3
    -- stops at: eff:Builtin.append (Go.Op.call {'callee': (Go.Callee.builtin Go.Builtin.append), 'args': [(Go.Operand.tmp 38), (Go.Operand.tmp 40)], 'argTypes': [39, 39]}) slot 41
    have hR := h13.rowOf 7 rfl 2 1 rfl (by unfold maxLen; omega)
    refine wpList_plainQ rfl (fun K Q' hK => ?_)
    refine hR.op_append_rep 0 rfl rfl infoE rfl (l.b.flatMap elC) rfl hbl (elC_one l.b) (by omega) (by unfold maxLen; omega) (fun v1 wB hB => ?_)
    refine hK _ _ ?_; clear hK K; try clear Q'
    obtain ⟨aV, cV, rfl⟩ := hB.row_form 0 rfl
    obtain ⟨H6, h6, rA, leA⟩ := hB.settleRow 0 rfl
    iterate 1 (refine wpList_plainQ rfl (fun K Q' hK => ?_); go_simp; refine hK _ _ ?_; clear hK K; try clear Q')
    refine wpList_nil ?_
    show Code.wp _ _ _ _ _
    refine wp_seq ?_
    repeat (first | simp only [List.nil_append] at h6 | simp only [List.cons_append] at h6 | simp only [List.set_cons_zero] at h6 | simp only [List.set_cons_succ] at h6 | simp only [List.eraseIdx_zero] at h6 | simp only [List.tail_cons] at h6 | simp only [List.eraseIdx_cons_zero] at h6 | simp only [List.eraseIdx_cons_succ] at h6 | simp only [List.setIfInBounds_toArray] at h6)
    refine wp_region_lit ?_
    have c_4_0 := h6.cell 4 rfl 0 rfl
    have c_5_0 := h6.cell 5 rfl 0 rfl
    have c_5_1 := h6.cell 5 rfl 1 rfl
    have c_4_4 := h6.cell 4 rfl 4 rfl
    have c_4_5 := h6.cell 4 rfl 5 rfl
    iterate 12 (refine wpList_plainQ rfl (fun K Q' hK => ?_); go_simp; refine hK _ _ ?_; clear hK K; try clear Q')
    clear c_4_0 c_5_0 c_5_1 c_4_4 c_4_5
    have c_0 := h6.cell 3 rfl 0 rfl
    have f_0 := h6.free 3 rfl 0
    have c_1 := h6.cell 3 rfl 1 rfl
    have f_1 := h6.free 3 rfl 1
    have c_2 := h6.cell 3 rfl 2 rfl
    have f_2 := h6.free 3 rfl 2
    have c_3 := h6.cell 3 rfl 3 rfl
    have f_3 := h6.free 3 rfl 3
    have c_4 := h6.cell 3 rfl 4 rfl
    have f_4 := h6.free 3 rfl 4
    have c_5 := h6.cell 3 rfl 5 rfl
    have f_5 := h6.free 3 rfl 5
    refine wpList_plainQ rfl (fun K Q' hK => ?_); go_simp
    clear c_0 f_0 c_1 f_1 c_2 f_2 c_3 f_3 c_4 f_4 c_5 f_5
    refine (((((h6.set (i := 3) rfl 0 _).set (i := 3) rfl 1 _).set (i := 3) rfl 2 _).set (i := 3) rfl 3 _).set (i := 3) rfl 4 _).k_set 3 rfl (fun w15 h15 => ?_)
    refine hK _ _ ?_; clear hK K; try clear Q'
    iterate 1 (refine wpList_plainQ rfl (fun K Q' hK => ?_); go_simp; refine hK _ _ ?_; clear hK K; try clear Q')
    refine wpList_nil ?_
    show Code.wp _ _ _ _ _
    -- stops at: ret
    refine wp_ret ?_
    have r_3_0 := h15.cell 3 rfl 0 rfl
    have r_3_1 := h15.cell 3 rfl 1 rfl
    have r_3_2 := h15.cell 3 rfl 2 rfl
    have r_3_3 := h15.cell 3 rfl 3 rfl
    have r_3_4 := h15.cell 3 rfl 4 rfl
    have r_3_5 := h15.cell 3 rfl 5 rfl
    first | show bodyPost _ _ _ _ _ _ | (simp only [Exit.then]; show bodyPost _ _ _ _ _ _) | (simp only [Exit.inBlock]; show bodyPost _ _ _ _ _ _) | (simp only [Exit.inBlock, Exit.then]; show bodyPost _ _ _ _ _ _) | (simp only [Exit.noGoto, Exit.inBlock, Exit.then]; show bodyPost _ _ _ _ _ _)
    refine bodyPost_ret (v := ?_) ?_ rfl ?_
    rotate_left
    · simp only [results, Tryz.results51]; go_simp; with_reducible rfl
    clear r_3_0 r_3_1 r_3_2 r_3_3 r_3_4 r_3_5
    refine ⟨_, H6, rfl, h15.post, ?_⟩
    rw [heq]
    refine ⟨_, _, rl, zn, rfl, hrl.out, ?_, ?_, hkl.mono leA⟩
    · have h5 := hzn.out; have h6 := hzl.out; show zn = _; simp only [Tr.size, Tr.els, List.length_cons, List.length_append] at *; omega
    · show SliceRep H6 2 _ (_ + 1) _
      rw [Nat.add_comm _ 1]
      exact rA
end Go.Proofs.YteigmfkkeofcaaaGreatDoor
