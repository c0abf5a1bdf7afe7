/-
The document's trees of heaps: values, linking two.
-/
import Derived.Test.YtkhjcmbppcimnaaGreatDoorObRank
import Derived.Test.YtkhjcmbppcimnaaGreatDoorNgBp
import Derived.Test.YtkhjcmbppcimnaaGreatDoorNbRef
import Derived.Test.YtkhjcmbppcimnaaGreatDoorGdOrdS
import Derived.Test.YtkhjcmbppcimnaaGreatDoorNdJoin
namespace Go.Proofs.YtkhjcmbppcimnaaGreatDoor
open Go Go.RowKit
set_option linter.unusedVariables false

/-- A heap of the document as cells, and what it is. -/
abbrev Vp := List Value × BH
abbrev kw (x : Vp) : El := x.2.root
/-- Cells of a heap that is there: true, the root, the queue. -/
def vC (x : Vp) : Prop := ∃ (a : Option Addr) (n c : Nat), x.1 = [.bool true, .int .i64 x.2.root.1, .int .i64 x.2.root.2, .slice a n c]
/-- Cells of heaps side by side. -/
abbrev vpC (l : List Vp) : List Value := l.flatMap Prod.fst
theorem vpC_length {l : List Vp} (h : ∀ y ∈ l, vC y) : (vpC l).length = l.length * 4 := by
  induction l with
  | nil => rfl
  | cons x l ih =>
    obtain ⟨a, n, c, e⟩ := h x (by simp)
    have := ih fun y hy => h y (by simp [hy])
    simp only [vpC, List.flatMap_cons, List.length_append, e, List.length_cons, List.length_nil] at *
    omega
theorem vpC_one {l : List Vp} (h : ∀ y ∈ l, vC y) : ∀ u ∈ vpC l, u.oneCell' = true := by
  intro u hu
  obtain ⟨x, hx, hu⟩ := List.mem_flatMap.1 hu
  obtain ⟨a, n, c, e⟩ := h x hx
  rw [e] at hu
  simp only [List.mem_cons, List.not_mem_nil, or_false] at hu
  rcases hu with rfl | rfl | rfl | rfl <;> rfl
theorem vpC_get {l : List Vp} (h : ∀ y ∈ l, vC y) {k : Nat} {x : Vp} (hk : l[k]? = some x) {i : Nat} (hi : i < 4) : (vpC l)[k * 4 + i]? = x.1[i]? := by
  induction l generalizing k with
  | nil => simp at hk
  | cons y l ih =>
    obtain ⟨a, n, c, e⟩ := h y (by simp)
    have hb : y.1.length = 4 := by rw [e]; rfl
    rw [vpC, List.flatMap_cons]
    cases k with
    | zero =>
      simp only [List.getElem?_cons_zero, Option.some.injEq] at hk
      subst hk
      rw [List.getElem?_append_left (by omega)]
      simp
    | succ k =>
      rw [List.getElem?_append_right (by omega)]
      have : (k + 1) * 4 + i - y.1.length = k * 4 + i := by omega
      rw [this]
      exact ih (fun a ha => h a (by simp [ha])) (by simpa using hk)
/-- Heaps side by side as a slice. -/
def HsV (H : GH) (v : Value) (l : List Vp) : Prop := SliceRep H 4 v l.length (vpC l) ∧ ∀ y ∈ l, vC y
theorem HsV.mono {H H' : GH} {v : Value} {l : List Vp} (h : HsV H v l) (hl : H.le H') : HsV H' v l := ⟨h.1.mono hl, h.2⟩
theorem HsV.nil (H : GH) : HsV H (.slice none 0 0) [] := ⟨SliceRep.nil _ _, by simp⟩
theorem HsV.form {H : GH} {v : Value} {l : List Vp} (h : HsV H v l) : ∃ a cap, v = .slice a l.length cap ∧ l.length ≤ cap ∧ cap ≤ maxLen := h.1.nil_or
/-- The heap at a place: its cells in memory. -/
theorem HsV.at {H : GH} {b off cap n : Nat} {l : List Vp} (h : HsV H (.slice (some ⟨b, off, none⟩) n cap) l) (k : Nat) {x : Vp} (hk : l[k]? = some x) : ∃ (a : Option Addr) (m c : Nat), x.1 = [.bool true, .int .i64 x.2.root.1, .int .i64 x.2.root.2, .slice a m c] ∧
    Hid (∀ W, Fits W H → W.cell? ⟨b, off + k * 4, none⟩ = some (.bool true) ∧ W.cell? ⟨b, off + k * 4 + 1, none⟩ = some (.int .i64 x.2.root.1) ∧ W.cell? ⟨b, off + k * 4 + 2, none⟩ = some (.int .i64 x.2.root.2) ∧ W.cell? ⟨b, off + k * 4 + 3, none⟩ = some (.slice a m c)) := by
  obtain ⟨a', c', e, _, _⟩ := h.1.nil_or
  simp only [Value.slice.injEq] at e
  obtain ⟨_, rfl, _⟩ := e
  obtain ⟨a, m, c, ex⟩ := h.2 x (List.mem_of_getElem? hk)
  have g : ∀ i z, i < 4 → x.1[i]? = some z → (vpC l)[k * 4 + i]? = some z := fun i z hi hz => by rw [vpC_get h.2 hk hi]; exact hz
  rw [ex] at g
  exact ⟨a, m, c, ex, fun W hF => ⟨h.1.cell hF (k * 4) (g 0 _ (by omega) rfl), h.1.cell hF (k * 4 + 1) (g 1 _ (by omega) rfl), h.1.cell hF (k * 4 + 2) (g 2 _ (by omega) rfl), h.1.cell hF (k * 4 + 3) (g 3 _ (by omega) rfl)⟩⟩
/-- A row of one heap: its cells. -/
theorem HsV.root {H : GH} {v : Value} {x : Vp} (h : HsV H v [x]) : ∃ (b o c : Nat) (a : Option Addr) (m k : Nat), v = .slice (some ⟨b, o, none⟩) 1 c ∧ 1 ≤ c ∧ x.1 = [.bool true, .int .i64 x.2.root.1, .int .i64 x.2.root.2, .slice a m k] ∧
    Hid (∀ W, Fits W H → W.cell? ⟨b, o, none⟩ = some (.bool true) ∧ W.cell? ⟨b, o + 1, none⟩ = some (.int .i64 x.2.root.1) ∧ W.cell? ⟨b, o + 2, none⟩ = some (.int .i64 x.2.root.2) ∧ W.cell? ⟨b, o + 3, none⟩ = some (.slice a m k)) := by
  obtain ⟨b, o, c, rfl, hc, _⟩ := h.1.ne_nil (by simp)
  obtain ⟨a, m, k, e, hcell⟩ := h.at 0 (x := x) rfl
  exact ⟨b, o, c, a, m, k, rfl, hc, e, fun W hF => by simpa using hcell.out W hF⟩

/-- A row of trees as trees side by side. -/
def RT.ofL {α : Type} : List (Tr α) → RT α
  | [] => .nil
  | t :: l => .node t.x t.b t.k (RT.ofL l)
theorem RT.ofL_len {α : Type} (l : List (Tr α)) : (RT.ofL l).len = l.length := by
  induction l with
  | nil => rfl
  | cons t l ih => simp [RT.ofL, RT.len, ih]
theorem RT.ofL_toL {α : Type} (t : RT α) : RT.ofL t.toL = t := by
  induction t with
  | nil => rfl
  | node x b k n _ ih => rw [RT.toL, RT.ofL, ih]
/-- Trees side by side as cells. -/
def TW (H : GH) : RT Vp → List Value → Prop
  | .nil, cs => cs = []
  | .node x b k n, cs => ∃ (rv bv kv : Value) (kcs rest : List Value) (r : Nat), cs = .int .i64 (r : Int) :: rv :: bv :: kv :: rest ∧ Hid (r = k.len) ∧
      HsV H rv [x] ∧ HsV H bv b ∧ SliceRep H 4 kv k.len kcs ∧ TW H k kcs ∧ TW H n rest
theorem TW.mono {H H' : GH} {t : RT Vp} {cs : List Value} (h : TW H t cs) (hl : H.le H') : TW H' t cs := by
  induction t generalizing cs with
  | nil => exact h
  | node x b k n ih1 ih2 =>
    obtain ⟨rv, bv, kv, kcs, rest, r, h1, h2, h3, h4, h5, h6, h7⟩ := h
    exact ⟨rv, bv, kv, kcs, rest, r, h1, h2, h3.mono hl, h4.mono hl, h5.mono hl, ih1 h6, ih2 h7⟩
theorem TW.one {H : GH} {t : RT Vp} {cs : List Value} (h : TW H t cs) : ∀ u ∈ cs, u.oneCell' = true := by
  induction t generalizing cs with
  | nil => obtain rfl : cs = [] := h; simp
  | node x b k n ih1 ih2 =>
    obtain ⟨rv, bv, kv, kcs, rest, r, rfl, h2, h3, h4, h5, h6, h7⟩ := h
    obtain ⟨a, c, rfl, _, _⟩ := h3.form
    obtain ⟨a', c', rfl, _, _⟩ := h4.form
    obtain ⟨a2, c2, rfl, _, _⟩ := h5.nil_or
    intro u hu
    simp only [List.mem_cons] at hu
    rcases hu with rfl | rfl | rfl | rfl | hu
    · rfl
    · rfl
    · rfl
    · rfl
    · exact ih2 h7 u hu
theorem TW.append {H : GH} {l k : List (Tr Vp)} {cs ds : List Value} (h : TW H (RT.ofL l) cs) (h' : TW H (RT.ofL k) ds) : TW H (RT.ofL (l ++ k)) (cs ++ ds) := by
  induction l generalizing cs with
  | nil => obtain rfl : cs = [] := h; exact h'
  | cons t l ih =>
    obtain ⟨rv, bv, kv, kcs, rest, r, rfl, h2, h3, h4, h5, h6, h7⟩ := h
    exact ⟨rv, bv, kv, kcs, rest ++ ds, r, rfl, h2, h3, h4, h5, h6, ih h7⟩
/-- A row of trees as a slice. -/
def RsW (H : GH) (v : Value) (l : List (Tr Vp)) : Prop := ∃ cs : List Value, SliceRep H 4 v l.length cs ∧ TW H (RT.ofL l) cs
theorem RsW.mono {H H' : GH} {v : Value} {l : List (Tr Vp)} (h : RsW H v l) (hl : H.le H') : RsW H' v l := by
  obtain ⟨cs, h1, h2⟩ := h
  exact ⟨cs, h1.mono hl, h2.mono hl⟩
theorem RsW.nil (H : GH) : RsW H (.slice none 0 0) [] := ⟨[], SliceRep.nil _ _, rfl⟩
theorem RsW.form {H : GH} {v : Value} {l : List (Tr Vp)} (h : RsW H v l) : ∃ a cap, v = .slice a l.length cap ∧ l.length ≤ cap ∧ cap ≤ maxLen := by
  obtain ⟨cs, h1, h2⟩ := h
  exact h1.nil_or
/-- A tree as a value. -/
abbrev tW (r : Nat) (rv bv kv : Value) : Value := .agg #[.int .i64 (r : Int), rv, bv, kv]
def TrW (H : GH) (v : Value) (t : Tr Vp) : Prop := ∃ (rv bv kv : Value) (r : Nat), v = tW r rv bv kv ∧ Hid (r = t.rank) ∧ HsV H rv [t.x] ∧ HsV H bv t.b ∧ RsW H kv t.k.toL
theorem TrW.mono {H H' : GH} {v : Value} {t : Tr Vp} (h : TrW H v t) (hl : H.le H') : TrW H' v t := by
  obtain ⟨rv, bv, kv, r, h1, h2, h3, h4, h5⟩ := h
  exact ⟨rv, bv, kv, r, h1, h2, h3.mono hl, h4.mono hl, h5.mono hl⟩
theorem TrW.form {H : GH} {v : Value} {t : Tr Vp} (h : TrW H v t) : ∃ (bR oR cR : Nat) (aB : Option Addr) (cB : Nat) (aK : Option Addr) (cK r : Nat), v = tW r (.slice (some ⟨bR, oR, none⟩) 1 cR) (.slice aB t.b.length cB) (.slice aK t.k.toL.length cK) ∧ 1 ≤ cR ∧ Hid (r = t.rank) ∧
    HsV H (.slice (some ⟨bR, oR, none⟩) 1 cR) [t.x] ∧ HsV H (.slice aB t.b.length cB) t.b ∧ RsW H (.slice aK t.k.toL.length cK) t.k.toL := by
  obtain ⟨rv, bv, kv, r, rfl, h2, h3, h4, h5⟩ := h
  obtain ⟨bR, oR, cR, _, _, _, rfl, hcR, _, _⟩ := h3.root
  obtain ⟨aB, cB, rfl, _, _⟩ := h4.form
  obtain ⟨aK, cK, rfl, _, _⟩ := h5.form
  exact ⟨bR, oR, cR, aB, cB, aK, cK, r, rfl, hcR, h2, h3, h4, h5⟩
/-- A tree ahead of others, as cells. -/
theorem TW.push {H : GH} {t : Tr Vp} {rv bv kv : Value} {r : Nat} {l : List (Tr Vp)} {cs : List Value} (h2 : Hid (r = t.rank)) (h3 : HsV H rv [t.x]) (h4 : HsV H bv t.b) (h5 : RsW H kv t.k.toL) (h : TW H (RT.ofL l) cs) :
    TW H (RT.ofL (t :: l)) (.int .i64 (r : Int) :: rv :: bv :: kv :: cs) := by
  obtain ⟨kcs, h6, h7⟩ := h5
  rw [RT.ofL_toL] at h7
  rw [RT.toL_length] at h6
  exact ⟨rv, bv, kv, kcs, cs, r, rfl, h2, h3, h4, h6, h7, h⟩
/-- The tree at a place: its cells in memory. -/
theorem TW.at {H : GH} : ∀ (l : List (Tr Vp)) (cs : List Value) (k : Nat) (t : Tr Vp), TW H (RT.ofL l) cs → l[k]? = some t → ∃ (rv bv kv : Value) (r : Nat), cs[k * 4]? = some (.int .i64 (r : Int)) ∧ cs[k * 4 + 1]? = some rv ∧ cs[k * 4 + 2]? = some bv ∧ cs[k * 4 + 3]? = some kv ∧
    Hid (r = t.rank) ∧ HsV H rv [t.x] ∧ HsV H bv t.b ∧ RsW H kv t.k.toL := by
  intro l
  induction l with
  | nil => intro cs k t _ h; simp at h
  | cons s l ih =>
    intro cs k t h hk
    obtain ⟨rv, bv, kv, kcs, rest, r, rfl, h2, h3, h4, h5, h6, h7⟩ := h
    cases k with
    | zero =>
      obtain rfl : s = t := by simpa using hk
      exact ⟨rv, bv, kv, r, rfl, rfl, rfl, rfl, h2, h3, h4, kcs, by rw [RT.toL_length]; exact h5, by rw [RT.ofL_toL]; exact h6⟩
    | succ k =>
      obtain ⟨rv', bv', kv', r', e0, e1, e2, e3, e4⟩ := ih rest k t h7 (by simpa using hk)
      have key : ∀ j, ((Value.int .i64 (r : Int)) :: rv :: bv :: kv :: rest)[(k + 1) * 4 + j]? = rest[k * 4 + j]? := fun j => by
        rw [show (k + 1) * 4 + j = k * 4 + j + 4 by omega]
        rfl
      exact ⟨rv', bv', kv', r', by rw [← Nat.add_zero ((k + 1) * 4), key]; exact e0, by rw [key]; exact e1, by rw [key]; exact e2, by rw [key]; exact e3, e4⟩
/-- .. of a row that is a settled slice. -/
theorem RsW.at {H : GH} {b off cap n : Nat} {l : List (Tr Vp)} (h : RsW H (.slice (some ⟨b, off, none⟩) n cap) l) (k : Nat) {t : Tr Vp} (hk : l[k]? = some t) : ∃ (bR oR cR : Nat) (aB : Option Addr) (cB : Nat) (aK : Option Addr) (cK r : Nat), 1 ≤ cR ∧
    Hid (∀ W, Fits W H → W.cell? ⟨b, off + k * 4, none⟩ = some (.int .i64 (r : Int)) ∧ W.cell? ⟨b, off + k * 4 + 1, none⟩ = some (.slice (some ⟨bR, oR, none⟩) 1 cR) ∧ W.cell? ⟨b, off + k * 4 + 2, none⟩ = some (.slice aB t.b.length cB) ∧ W.cell? ⟨b, off + k * 4 + 3, none⟩ = some (.slice aK t.k.toL.length cK)) ∧
    Hid (r = t.rank) ∧ HsV H (.slice (some ⟨bR, oR, none⟩) 1 cR) [t.x] ∧ HsV H (.slice aB t.b.length cB) t.b ∧ RsW H (.slice aK t.k.toL.length cK) t.k.toL := by
  obtain ⟨cs, h1, h2⟩ := h
  obtain ⟨a', c', e, _, _⟩ := h1.nil_or
  simp only [Value.slice.injEq] at e
  obtain ⟨_, rfl, _⟩ := e
  obtain ⟨rv, bv, kv, r, e0, e1, e2, e3, e4, e5, e6, e7⟩ := TW.at l cs k t h2 hk
  obtain ⟨bR, oR, cR, _, _, _, rfl, hcR, _, _⟩ := e5.root
  obtain ⟨aB, cB, rfl, _, _⟩ := e6.form
  obtain ⟨aK, cK, rfl, _, _⟩ := e7.form
  exact ⟨bR, oR, cR, aB, cB, aK, cK, r, hcR, fun W hF => ⟨h1.cell hF _ e0, h1.cell hF _ e1, h1.cell hF _ e2, h1.cell hF _ e3⟩, e4, e5, e6, e7⟩
theorem infoTT : ElemInfo Tryz.prog 33 82 (tW 0 (.slice none 0 0) (.slice none 0 0) (.slice none 0 0)) 4 80 :=
  ⟨Tryz.underlying33, info_parts (by kernel_rfl), rfl, by decide⟩
theorem infoHV : ElemInfo Tryz.prog 36 35 (.agg #[.bool false, .int .i64 0, .int .i64 0, .slice none 0 0]) 4 48 :=
  ⟨Tryz.underlying36, info_parts (by kernel_rfl), rfl, by decide⟩
/-- A root's cells. -/
theorem HsV.cells {H : GH} {b o n c : Nat} {x : Vp} (h : HsV H (.slice (some ⟨b, o, none⟩) n c) [x]) : ∃ (a : Option Addr) (m k : Nat), x.1 = [.bool true, .int .i64 x.2.root.1, .int .i64 x.2.root.2, .slice a m k] ∧
    Hid (∀ W, Fits W H → W.cell? ⟨b, o, none⟩ = some (.bool true) ∧ W.cell? ⟨b, o + 1, none⟩ = some (.int .i64 x.2.root.1) ∧ W.cell? ⟨b, o + 2, none⟩ = some (.int .i64 x.2.root.2) ∧ W.cell? ⟨b, o + 3, none⟩ = some (.slice a m k)) := by
  obtain ⟨a, m, k, e, hc⟩ := h.at 0 (x := x) rfl
  exact ⟨a, m, k, e, fun W hF => by simpa using hc.out W hF⟩

set_option maxRecDepth 100000 in
set_option maxHeartbeats 8000000 in
theorem wlink_ok (H : GH) (w : World) (u v : Value) (s t : Tr Vp) (hf : Fits w H) (hn : s.size + t.size < 1000000) (hs : TrW H u s) (ht : TrW H v t) :
    Calls Tryz.prog 52 #[u, v] w fun e w' => ∃ r H', e = .returned r ∧ Post w H none w' H' 0 0 ∧ TrW H' r (Tr.link kw s t) := by
  have hpre : Pre w H none 0 0 := Pre.none hf 0 0
  obtain ⟨bR, oR, cR, aB, cB, aK, cK, r1, rfl, hcR, hr1, hx1, hb1, hk1⟩ := hs.form
  obtain ⟨bS, oS, cS, aC, cC, aL, cL, r2, rfl, hcS, hr2, hx2, hb2, hk2⟩ := ht.form
  have hp1 := Tr.rank_lt s
  have hp2 := Tr.rank_lt t
  obtain ⟨_, _, _, _, hcs⟩ := hx1.cells
  obtain ⟨_, _, _, _, hct⟩ := hx2.cells
  cases hlt : El.lt (kw t.x) (kw s.x) with
  | false =>
    obtain ⟨rn, hrr⟩ : ∃ n, Hid (r1 + 1 = n) := ⟨_, show _ = _ from rfl⟩
    have e1 : IntKind.i64.wrap ((r1 : Int) + 1) = (rn : Int) := by have := hrr.out; have := hr1.out; rw [IntWalk.i64_in _ (by omega)]; omega
    have heq := Tr.link_ge kw hlt
    have hrn : Hid (Hid (rn = (⟨s.x, s.b, .push t s.k⟩ : Tr Vp).rank)) := by have h5 := hrr.out; have h6 := hr1.out; show rn = s.k.len + 1; unfold Tr.rank at h6; omega
    go_enter Tryz.func52, Tryz.ntmps52
    have h0 := St.start hpre
    refine wp_seq ?_
    repeat (first | simp only [List.nil_append] at h0 | simp only [List.cons_append] at h0 | simp only [List.set_cons_zero] at h0 | simp only [List.set_cons_succ] at h0 | simp only [List.eraseIdx_zero] at h0 | simp only [List.tail_cons] at h0 | simp only [List.eraseIdx_cons_zero] at h0 | simp only [List.eraseIdx_cons_succ] at h0 | simp only [List.setIfInBounds_toArray] at h0)
    refine wp_region_lit ?_
    refine wpList_plainQ rfl (fun K Q' hK => ?_); go_simp
    refine h0.k_alloc (fun w1 h1 => ?_)
    refine hK _ _ ?_; clear hK K; try clear Q'
    refine wpList_plainQ rfl (fun K Q' hK => ?_); go_simp
    refine h1.k_alloc (fun w2 h2 => ?_)
    refine hK _ _ ?_; clear hK K; try clear Q'
    refine wpList_plainQ rfl (fun K Q' hK => ?_); go_simp
    refine h2.k_alloc (fun w3 h3 => ?_)
    refine hK _ _ ?_; clear hK K; try clear Q'
    refine wpList_nil ?_
    show Code.wp _ _ _ _ _
    refine wp_seq ?_
    repeat (first | simp only [List.nil_append] at h3 | simp only [List.cons_append] at h3 | simp only [List.set_cons_zero] at h3 | simp only [List.set_cons_succ] at h3 | simp only [List.eraseIdx_zero] at h3 | simp only [List.tail_cons] at h3 | simp only [List.eraseIdx_cons_zero] at h3 | simp only [List.eraseIdx_cons_succ] at h3 | simp only [List.setIfInBounds_toArray] at h3)
    refine wp_region_lit ?_
    have c_0_0 := h3.cell 0 rfl 0 rfl
    have c_0_1 := h3.cell 0 rfl 1 rfl
    have c_0_2 := h3.cell 0 rfl 2 rfl
    have c_0_3 := h3.cell 0 rfl 3 rfl
    iterate 1 (refine wpList_plainQ rfl (fun K Q' hK => ?_); go_simp; refine hK _ _ ?_; clear hK K; try clear Q')
    clear c_0_0 c_0_1 c_0_2 c_0_3
    refine wpList_plainQ rfl (fun K Q' hK => ?_); go_simp
    refine h3.k_alloc (fun w4 h4 => ?_)
    refine hK _ _ ?_; clear hK K; try clear Q'
    have c_0 := h4.cell 3 rfl 0 rfl
    have f_0 := h4.free 3 rfl 0
    have c_1 := h4.cell 3 rfl 1 rfl
    have f_1 := h4.free 3 rfl 1
    have c_2 := h4.cell 3 rfl 2 rfl
    have f_2 := h4.free 3 rfl 2
    have c_3 := h4.cell 3 rfl 3 rfl
    have f_3 := h4.free 3 rfl 3
    refine wpList_plainQ rfl (fun K Q' hK => ?_); go_simp
    clear c_0 f_0 c_1 f_1 c_2 f_2 c_3 f_3
    refine (((h4.set (i := 3) rfl 0 _).set (i := 3) rfl 1 _).set (i := 3) rfl 2 _).k_set 3 rfl (fun w5 h5 => ?_)
    refine hK _ _ ?_; clear hK K; try clear Q'
    refine wpList_nil ?_
    show Code.wp _ _ _ _ _
    refine wp_seq ?_
    repeat (first | simp only [List.nil_append] at h5 | simp only [List.cons_append] at h5 | simp only [List.set_cons_zero] at h5 | simp only [List.set_cons_succ] at h5 | simp only [List.eraseIdx_zero] at h5 | simp only [List.tail_cons] at h5 | simp only [List.eraseIdx_cons_zero] at h5 | simp only [List.eraseIdx_cons_succ] at h5 | simp only [List.setIfInBounds_toArray] at h5)
    refine wp_region_lit ?_
    have c_1_0 := h5.cell 1 rfl 0 rfl
    have c_1_1 := h5.cell 1 rfl 1 rfl
    have c_1_2 := h5.cell 1 rfl 2 rfl
    have c_1_3 := h5.cell 1 rfl 3 rfl
    iterate 1 (refine wpList_plainQ rfl (fun K Q' hK => ?_); go_simp; refine hK _ _ ?_; clear hK K; try clear Q')
    clear c_1_0 c_1_1 c_1_2 c_1_3
    refine wpList_plainQ rfl (fun K Q' hK => ?_); go_simp
    refine h5.k_alloc (fun w6 h6 => ?_)
    refine hK _ _ ?_; clear hK K; try clear Q'
    have c_0 := h6.cell 4 rfl 0 rfl
    have f_0 := h6.free 4 rfl 0
    have c_1 := h6.cell 4 rfl 1 rfl
    have f_1 := h6.free 4 rfl 1
    have c_2 := h6.cell 4 rfl 2 rfl
    have f_2 := h6.free 4 rfl 2
    have c_3 := h6.cell 4 rfl 3 rfl
    have f_3 := h6.free 4 rfl 3
    refine wpList_plainQ rfl (fun K Q' hK => ?_); go_simp
    clear c_0 f_0 c_1 f_1 c_2 f_2 c_3 f_3
    refine (((h6.set (i := 4) rfl 0 _).set (i := 4) rfl 1 _).set (i := 4) rfl 2 _).k_set 4 rfl (fun w7 h7 => ?_)
    refine hK _ _ ?_; clear hK K; try clear Q'
    refine wpList_nil ?_
    show Code.wp _ _ _ _ _
    refine wp_seq ?_
    repeat (first | simp only [List.nil_append] at h7 | simp only [List.cons_append] at h7 | simp only [List.set_cons_zero] at h7 | simp only [List.set_cons_succ] at h7 | simp only [List.eraseIdx_zero] at h7 | simp only [List.tail_cons] at h7 | simp only [List.eraseIdx_cons_zero] at h7 | simp only [List.eraseIdx_cons_succ] at h7 | simp only [List.setIfInBounds_toArray] at h7)
    refine h7.region [0, 1] [(0, true), (1, true), (2, true), (3, true), (4, true), (5, true), (6, true), (7, true), (8, true), (9, true), (10, false), (11, true)] (by kernel_rfl) (by kernel_rfl) (fun w8 h8 => ?_)
    refine wpOrd_hide (fun _ _ d _ _ h => by cases d <;> exact h) (fun QR hQn hQp => ?_)
    simp only [ordOps, List.map_cons, List.map_nil, List.getD_cons_zero, List.getD_cons_succ]
    iterate 4 (refine wpOrd_quiet (v := ?_) rfl (fun _ _ _ => hQp _ _ _ _ _) ?_ ?_; rotate_left; (intro w' hS; have c_1_1 := hS.cell 1 rfl 1 rfl; (first | (go_simp; done) | (go_simp; with_reducible rfl))); simp only [Act.put, List.setIfInBounds_toArray, List.set_cons_zero, List.set_cons_succ])
    -- stops at: load (Go.Op.load 32 (Go.Operand.tmp 14)) slot 15
    iterate 1 (refine wpOrd_quiet (v := ?_) rfl (fun _ _ _ => hQp _ _ _ _ _) ?_ ?_; rotate_left; (intro w' hS; obtain ⟨q0, q1, q2, q3⟩ := hct.out _ hS.1; (first | (go_simp; done) | (go_simp; with_reducible rfl))); simp only [Act.put, List.setIfInBounds_toArray, List.set_cons_zero, List.set_cons_succ])
    iterate 4 (refine wpOrd_quiet (v := ?_) rfl (fun _ _ _ => hQp _ _ _ _ _) ?_ ?_; rotate_left; (intro w' hS; have c_0_1 := hS.cell 0 rfl 1 rfl; (first | (go_simp; done) | (go_simp; with_reducible rfl))); simp only [Act.put, List.setIfInBounds_toArray, List.set_cons_zero, List.set_cons_succ])
    -- stops at: load (Go.Op.load 32 (Go.Operand.tmp 19)) slot 20
    iterate 1 (refine wpOrd_quiet (v := ?_) rfl (fun _ _ _ => hQp _ _ _ _ _) ?_ ?_; rotate_left; (intro w' hS; obtain ⟨q0, q1, q2, q3⟩ := hcs.out _ hS.1; (first | (go_simp; done) | (go_simp; with_reducible rfl))); simp only [Act.put, List.setIfInBounds_toArray, List.set_cons_zero, List.set_cons_succ])
    -- stops at: eff:call (Go.Op.call {'callee': (Go.Callee.value (Go.Operand.func 26)), 'args': [(Go.Operand.tmp 15), (Go.Operand.tmp 20)], 'argTypes': [32, 32]}) slot 21
    refine wpOrd_effQ rfl (fun K Q' hK => ?_); go_simp
    refine (rless_ok H _ (kw t.x) (kw s.x) h8.fits).mono ?_
    rintro e wA ⟨rfl, hkA⟩
    rw [hlt]
    have h9 := h8.callk hkA
    refine hK _ _ (h9.sat' (GH.le_refl _) [0, 1] (by kernel_rfl)) ?_; clear hK K; try clear Q'
    iterate 1 (refine wpOrd_quiet (v := ?_) rfl (fun _ _ _ => hQp _ _ _ _ _) ?_ ?_; rotate_left; (intro w' hS; (first | (go_simp; done) | (go_simp; with_reducible rfl))); simp only [Act.put, List.setIfInBounds_toArray, List.set_cons_zero, List.set_cons_succ])
    refine wpOrd_nil (hQn _ _ ?_); clear hQn hQp QR
    show Code.wp _ _ _ _ _
    refine wp_seq ?_
    refine wp_seq ?_
    repeat (first | simp only [List.nil_append] at h9 | simp only [List.cons_append] at h9 | simp only [List.set_cons_zero] at h9 | simp only [List.set_cons_succ] at h9 | simp only [List.eraseIdx_zero] at h9 | simp only [List.tail_cons] at h9 | simp only [List.eraseIdx_cons_zero] at h9 | simp only [List.eraseIdx_cons_succ] at h9 | simp only [List.setIfInBounds_toArray] at h9)
    refine wp_region_lit ?_
    iterate 1 (refine wpList_plainQ rfl (fun K Q' hK => ?_); go_simp; refine hK _ _ ?_; clear hK K; try clear Q')
    refine wpList_nil ?_
    show Code.wp _ _ _ _ _
    -- stops at: cond
    refine wp_cond_false (rfl) ?_
    refine wp_skip ?_
    show Code.wp _ _ _ _ _
    refine wp_seq ?_
    refine wp_region_lit ?_
    have c_4_0 := h9.cell 4 rfl 0 rfl
    have c_4_1 := h9.cell 4 rfl 1 rfl
    have c_4_2 := h9.cell 4 rfl 2 rfl
    have c_4_3 := h9.cell 4 rfl 3 rfl
    iterate 1 (refine wpList_plainQ rfl (fun K Q' hK => ?_); go_simp; refine hK _ _ ?_; clear hK K; try clear Q')
    clear c_4_0 c_4_1 c_4_2 c_4_3
    refine wpList_plainQ rfl (fun K Q' hK => ?_); go_simp
    refine h9.k_alloc (fun w10 h10 => ?_)
    refine hK _ _ ?_; clear hK K; try clear Q'
    iterate 1 (refine wpList_plainQ rfl (fun K Q' hK => ?_); go_simp; refine hK _ _ ?_; clear hK K; try clear Q')
    refine wpList_nil ?_
    show Code.wp _ _ _ _ _
    refine wp_seq ?_
    repeat (first | simp only [List.nil_append] at h10 | simp only [List.cons_append] at h10 | simp only [List.set_cons_zero] at h10 | simp only [List.set_cons_succ] at h10 | simp only [List.eraseIdx_zero] at h10 | simp only [List.tail_cons] at h10 | simp only [List.eraseIdx_cons_zero] at h10 | simp only [List.eraseIdx_cons_succ] at h10 | simp only [List.setIfInBounds_toArray] at h10)
    refine wp_region_lit ?_
    have c_3_3 := h10.cell 3 rfl 3 rfl
    iterate 3 (refine wpList_plainQ rfl (fun K Q' hK => ?_); go_simp; refine hK _ _ ?_; clear hK K; try clear Q')
    clear c_3_3
    -- stops at: eff:Builtin.append (Go.Op.call {'callee': (Go.Callee.builtin Go.Builtin.append), 'args': [(Go.Operand.tmp 27), (Go.Operand.tmp 29)], 'argTypes': [33, 33]}) slot 30
    have hR := h10.rowOf 5 rfl 4 1 rfl (by unfold maxLen; omega)
    refine wpList_plainQ rfl (fun K Q' hK => ?_)
    obtain ⟨kcs, hq1, hq2⟩ := hk1
    have hkn : s.k.toL.length < 1000000 := by
      have h5 := s.k.len_le
      have h6 : s.size = 1 + (s.b.length + s.k.els.length) := by simp [Tr.size, Tr.els]; omega
      rw [RT.toL_length]
      omega
    refine hR.op_append_rep 0 rfl rfl infoTT rfl kcs rfl hq1 (TW.one hq2) (by omega) (by unfold maxLen; omega) (fun v1 wB hB => ?_)
    refine hK _ _ ?_; clear hK K; try clear Q'
    obtain ⟨aV, cV, rfl⟩ := hB.row_form 0 rfl
    obtain ⟨H6, h6, rA, leA⟩ := hB.settleRow 0 rfl
    iterate 1 (refine wpList_plainQ rfl (fun K Q' hK => ?_); go_simp; refine hK _ _ ?_; clear hK K; try clear Q')
    refine wpList_nil ?_
    show Code.wp _ _ _ _ _
    refine wp_seq ?_
    repeat (first | simp only [List.nil_append] at h6 | simp only [List.cons_append] at h6 | simp only [List.set_cons_zero] at h6 | simp only [List.set_cons_succ] at h6 | simp only [List.eraseIdx_zero] at h6 | simp only [List.tail_cons] at h6 | simp only [List.eraseIdx_cons_zero] at h6 | simp only [List.eraseIdx_cons_succ] at h6 | simp only [List.setIfInBounds_toArray] at h6)
    refine wp_region_lit ?_
    have c_3_0 := h6.cell 3 rfl 0 rfl
    have c_3_1 := h6.cell 3 rfl 1 rfl
    have c_3_2 := h6.cell 3 rfl 2 rfl
    iterate 9 (refine wpList_plainQ rfl (fun K Q' hK => ?_); go_simp; refine hK _ _ ?_; clear hK K; try clear Q')
    clear c_3_0 c_3_1 c_3_2
    have c_0 := h6.cell 2 rfl 0 rfl
    have f_0 := h6.free 2 rfl 0
    have c_1 := h6.cell 2 rfl 1 rfl
    have f_1 := h6.free 2 rfl 1
    have c_2 := h6.cell 2 rfl 2 rfl
    have f_2 := h6.free 2 rfl 2
    have c_3 := h6.cell 2 rfl 3 rfl
    have f_3 := h6.free 2 rfl 3
    refine wpList_plainQ rfl (fun K Q' hK => ?_); go_simp
    clear c_0 f_0 c_1 f_1 c_2 f_2 c_3 f_3
    refine (((h6.set (i := 2) rfl 0 _).set (i := 2) rfl 1 _).set (i := 2) rfl 2 _).k_set 2 rfl (fun w11 h11 => ?_)
    refine hK _ _ ?_; clear hK K; try clear Q'
    refine wpList_nil ?_
    show Code.wp _ _ _ _ _
    -- stops at: ret
    refine wp_ret ?_
    have r_2_0 := h11.cell 2 rfl 0 rfl
    have r_2_1 := h11.cell 2 rfl 1 rfl
    have r_2_2 := h11.cell 2 rfl 2 rfl
    have r_2_3 := h11.cell 2 rfl 3 rfl
    first | show bodyPost _ _ _ _ _ _ | (simp only [Exit.then]; show bodyPost _ _ _ _ _ _) | (simp only [Exit.inBlock]; show bodyPost _ _ _ _ _ _) | (simp only [Exit.inBlock, Exit.then]; show bodyPost _ _ _ _ _ _) | (simp only [Exit.noGoto, Exit.inBlock, Exit.then]; show bodyPost _ _ _ _ _ _)
    refine bodyPost_ret (v := ?_) ?_ rfl ?_
    rotate_left
    · simp only [results, Tryz.results52]; go_simp; with_reducible rfl
    clear r_2_0 r_2_1 r_2_2 r_2_3
    refine ⟨_, H6, rfl, h11.post, ?_⟩
    rw [heq]
    refine ⟨_, _, _, _, rfl, hrn.out, hx1.mono leA, hb1.mono leA, ?_⟩
    refine ⟨_, ?_, TW.push hr2 (hx2.mono leA) (hb2.mono leA) (hk2.mono leA) (hq2.mono leA)⟩
    show SliceRep H6 4 _ (_ + 1) _
    rw [Nat.add_comm _ 1]
    exact rA
  | true =>
    obtain ⟨rn, hrr⟩ : ∃ n, Hid (r2 + 1 = n) := ⟨_, show _ = _ from rfl⟩
    have e1 : IntKind.i64.wrap ((r2 : Int) + 1) = (rn : Int) := by have := hrr.out; have := hr2.out; rw [IntWalk.i64_in _ (by omega)]; omega
    have heq := Tr.link_lt kw hlt
    have hrn : Hid (Hid (rn = (⟨t.x, t.b, .push s t.k⟩ : Tr Vp).rank)) := by have h5 := hrr.out; have h6 := hr2.out; show rn = t.k.len + 1; unfold Tr.rank at h6; omega
    go_enter Tryz.func52, Tryz.ntmps52
    have h0 := St.start hpre
    refine wp_seq ?_
    repeat (first | simp only [List.nil_append] at h0 | simp only [List.cons_append] at h0 | simp only [List.set_cons_zero] at h0 | simp only [List.set_cons_succ] at h0 | simp only [List.eraseIdx_zero] at h0 | simp only [List.tail_cons] at h0 | simp only [List.eraseIdx_cons_zero] at h0 | simp only [List.eraseIdx_cons_succ] at h0 | simp only [List.setIfInBounds_toArray] at h0)
    refine wp_region_lit ?_
    refine wpList_plainQ rfl (fun K Q' hK => ?_); go_simp
    refine h0.k_alloc (fun w1 h1 => ?_)
    refine hK _ _ ?_; clear hK K; try clear Q'
    refine wpList_plainQ rfl (fun K Q' hK => ?_); go_simp
    refine h1.k_alloc (fun w2 h2 => ?_)
    refine hK _ _ ?_; clear hK K; try clear Q'
    refine wpList_plainQ rfl (fun K Q' hK => ?_); go_simp
    refine h2.k_alloc (fun w3 h3 => ?_)
    refine hK _ _ ?_; clear hK K; try clear Q'
    refine wpList_nil ?_
    show Code.wp _ _ _ _ _
    refine wp_seq ?_
    repeat (first | simp only [List.nil_append] at h3 | simp only [List.cons_append] at h3 | simp only [List.set_cons_zero] at h3 | simp only [List.set_cons_succ] at h3 | simp only [List.eraseIdx_zero] at h3 | simp only [List.tail_cons] at h3 | simp only [List.eraseIdx_cons_zero] at h3 | simp only [List.eraseIdx_cons_succ] at h3 | simp only [List.setIfInBounds_toArray] at h3)
    refine wp_region_lit ?_
    have c_0_0 := h3.cell 0 rfl 0 rfl
    have c_0_1 := h3.cell 0 rfl 1 rfl
    have c_0_2 := h3.cell 0 rfl 2 rfl
    have c_0_3 := h3.cell 0 rfl 3 rfl
    iterate 1 (refine wpList_plainQ rfl (fun K Q' hK => ?_); go_simp; refine hK _ _ ?_; clear hK K; try clear Q')
    clear c_0_0 c_0_1 c_0_2 c_0_3
    refine wpList_plainQ rfl (fun K Q' hK => ?_); go_simp
    refine h3.k_alloc (fun w4 h4 => ?_)
    refine hK _ _ ?_; clear hK K; try clear Q'
    have c_0 := h4.cell 3 rfl 0 rfl
    have f_0 := h4.free 3 rfl 0
    have c_1 := h4.cell 3 rfl 1 rfl
    have f_1 := h4.free 3 rfl 1
    have c_2 := h4.cell 3 rfl 2 rfl
    have f_2 := h4.free 3 rfl 2
    have c_3 := h4.cell 3 rfl 3 rfl
    have f_3 := h4.free 3 rfl 3
    refine wpList_plainQ rfl (fun K Q' hK => ?_); go_simp
    clear c_0 f_0 c_1 f_1 c_2 f_2 c_3 f_3
    refine (((h4.set (i := 3) rfl 0 _).set (i := 3) rfl 1 _).set (i := 3) rfl 2 _).k_set 3 rfl (fun w5 h5 => ?_)
    refine hK _ _ ?_; clear hK K; try clear Q'
    refine wpList_nil ?_
    show Code.wp _ _ _ _ _
    refine wp_seq ?_
    repeat (first | simp only [List.nil_append] at h5 | simp only [List.cons_append] at h5 | simp only [List.set_cons_zero] at h5 | simp only [List.set_cons_succ] at h5 | simp only [List.eraseIdx_zero] at h5 | simp only [List.tail_cons] at h5 | simp only [List.eraseIdx_cons_zero] at h5 | simp only [List.eraseIdx_cons_succ] at h5 | simp only [List.setIfInBounds_toArray] at h5)
    refine wp_region_lit ?_
    have c_1_0 := h5.cell 1 rfl 0 rfl
    have c_1_1 := h5.cell 1 rfl 1 rfl
    have c_1_2 := h5.cell 1 rfl 2 rfl
    have c_1_3 := h5.cell 1 rfl 3 rfl
    iterate 1 (refine wpList_plainQ rfl (fun K Q' hK => ?_); go_simp; refine hK _ _ ?_; clear hK K; try clear Q')
    clear c_1_0 c_1_1 c_1_2 c_1_3
    refine wpList_plainQ rfl (fun K Q' hK => ?_); go_simp
    refine h5.k_alloc (fun w6 h6 => ?_)
    refine hK _ _ ?_; clear hK K; try clear Q'
    have c_0 := h6.cell 4 rfl 0 rfl
    have f_0 := h6.free 4 rfl 0
    have c_1 := h6.cell 4 rfl 1 rfl
    have f_1 := h6.free 4 rfl 1
    have c_2 := h6.cell 4 rfl 2 rfl
    have f_2 := h6.free 4 rfl 2
    have c_3 := h6.cell 4 rfl 3 rfl
    have f_3 := h6.free 4 rfl 3
    refine wpList_plainQ rfl (fun K Q' hK => ?_); go_simp
    clear c_0 f_0 c_1 f_1 c_2 f_2 c_3 f_3
    refine (((h6.set (i := 4) rfl 0 _).set (i := 4) rfl 1 _).set (i := 4) rfl 2 _).k_set 4 rfl (fun w7 h7 => ?_)
    refine hK _ _ ?_; clear hK K; try clear Q'
    refine wpList_nil ?_
    show Code.wp _ _ _ _ _
    refine wp_seq ?_
    repeat (first | simp only [List.nil_append] at h7 | simp only [List.cons_append] at h7 | simp only [List.set_cons_zero] at h7 | simp only [List.set_cons_succ] at h7 | simp only [List.eraseIdx_zero] at h7 | simp only [List.tail_cons] at h7 | simp only [List.eraseIdx_cons_zero] at h7 | simp only [List.eraseIdx_cons_succ] at h7 | simp only [List.setIfInBounds_toArray] at h7)
    refine h7.region [0, 1] [(0, true), (1, true), (2, true), (3, true), (4, true), (5, true), (6, true), (7, true), (8, true), (9, true), (10, false), (11, true)] (by kernel_rfl) (by kernel_rfl) (fun w8 h8 => ?_)
    refine wpOrd_hide (fun _ _ d _ _ h => by cases d <;> exact h) (fun QR hQn hQp => ?_)
    simp only [ordOps, List.map_cons, List.map_nil, List.getD_cons_zero, List.getD_cons_succ]
    iterate 4 (refine wpOrd_quiet (v := ?_) rfl (fun _ _ _ => hQp _ _ _ _ _) ?_ ?_; rotate_left; (intro w' hS; have c_1_1 := hS.cell 1 rfl 1 rfl; (first | (go_simp; done) | (go_simp; with_reducible rfl))); simp only [Act.put, List.setIfInBounds_toArray, List.set_cons_zero, List.set_cons_succ])
    -- stops at: load (Go.Op.load 32 (Go.Operand.tmp 14)) slot 15
    iterate 1 (refine wpOrd_quiet (v := ?_) rfl (fun _ _ _ => hQp _ _ _ _ _) ?_ ?_; rotate_left; (intro w' hS; obtain ⟨q0, q1, q2, q3⟩ := hct.out _ hS.1; (first | (go_simp; done) | (go_simp; with_reducible rfl))); simp only [Act.put, List.setIfInBounds_toArray, List.set_cons_zero, List.set_cons_succ])
    iterate 4 (refine wpOrd_quiet (v := ?_) rfl (fun _ _ _ => hQp _ _ _ _ _) ?_ ?_; rotate_left; (intro w' hS; have c_0_1 := hS.cell 0 rfl 1 rfl; (first | (go_simp; done) | (go_simp; with_reducible rfl))); simp only [Act.put, List.setIfInBounds_toArray, List.set_cons_zero, List.set_cons_succ])
    -- stops at: load (Go.Op.load 32 (Go.Operand.tmp 19)) slot 20
    iterate 1 (refine wpOrd_quiet (v := ?_) rfl (fun _ _ _ => hQp _ _ _ _ _) ?_ ?_; rotate_left; (intro w' hS; obtain ⟨q0, q1, q2, q3⟩ := hcs.out _ hS.1; (first | (go_simp; done) | (go_simp; with_reducible rfl))); simp only [Act.put, List.setIfInBounds_toArray, List.set_cons_zero, List.set_cons_succ])
    -- stops at: eff:call (Go.Op.call {'callee': (Go.Callee.value (Go.Operand.func 26)), 'args': [(Go.Operand.tmp 15), (Go.Operand.tmp 20)], 'argTypes': [32, 32]}) slot 21
    refine wpOrd_effQ rfl (fun K Q' hK => ?_); go_simp
    refine (rless_ok H _ (kw t.x) (kw s.x) h8.fits).mono ?_
    rintro e wA ⟨rfl, hkA⟩
    rw [hlt]
    have h9 := h8.callk hkA
    refine hK _ _ (h9.sat' (GH.le_refl _) [0, 1] (by kernel_rfl)) ?_; clear hK K; try clear Q'
    iterate 1 (refine wpOrd_quiet (v := ?_) rfl (fun _ _ _ => hQp _ _ _ _ _) ?_ ?_; rotate_left; (intro w' hS; (first | (go_simp; done) | (go_simp; with_reducible rfl))); simp only [Act.put, List.setIfInBounds_toArray, List.set_cons_zero, List.set_cons_succ])
    refine wpOrd_nil (hQn _ _ ?_); clear hQn hQp QR
    show Code.wp _ _ _ _ _
    refine wp_seq ?_
    refine wp_seq ?_
    repeat (first | simp only [List.nil_append] at h9 | simp only [List.cons_append] at h9 | simp only [List.set_cons_zero] at h9 | simp only [List.set_cons_succ] at h9 | simp only [List.eraseIdx_zero] at h9 | simp only [List.tail_cons] at h9 | simp only [List.eraseIdx_cons_zero] at h9 | simp only [List.eraseIdx_cons_succ] at h9 | simp only [List.setIfInBounds_toArray] at h9)
    refine wp_region_lit ?_
    iterate 1 (refine wpList_plainQ rfl (fun K Q' hK => ?_); go_simp; refine hK _ _ ?_; clear hK K; try clear Q')
    refine wpList_nil ?_
    show Code.wp _ _ _ _ _
    -- stops at: cond
    refine wp_cond_true (rfl) ?_
    refine wp_seq ?_
    refine wp_region_lit ?_
    have c_1_0 := h9.cell 1 rfl 0 rfl
    have c_1_1 := h9.cell 1 rfl 1 rfl
    have c_1_2 := h9.cell 1 rfl 2 rfl
    have c_1_3 := h9.cell 1 rfl 3 rfl
    iterate 1 (refine wpList_plainQ rfl (fun K Q' hK => ?_); go_simp; refine hK _ _ ?_; clear hK K; try clear Q')
    clear c_1_0 c_1_1 c_1_2 c_1_3
    have c_0 := h9.cell 3 rfl 0 rfl
    have f_0 := h9.free 3 rfl 0
    have c_1 := h9.cell 3 rfl 1 rfl
    have f_1 := h9.free 3 rfl 1
    have c_2 := h9.cell 3 rfl 2 rfl
    have f_2 := h9.free 3 rfl 2
    have c_3 := h9.cell 3 rfl 3 rfl
    have f_3 := h9.free 3 rfl 3
    refine wpList_plainQ rfl (fun K Q' hK => ?_); go_simp
    clear c_0 f_0 c_1 f_1 c_2 f_2 c_3 f_3
    refine (((h9.set (i := 3) rfl 0 _).set (i := 3) rfl 1 _).set (i := 3) rfl 2 _).k_set 3 rfl (fun w10 h10 => ?_)
    refine hK _ _ ?_; clear hK K; try clear Q'
    refine wpList_nil ?_
    show Code.wp _ _ _ _ _
    repeat (first | simp only [List.nil_append] at h10 | simp only [List.cons_append] at h10 | simp only [List.set_cons_zero] at h10 | simp only [List.set_cons_succ] at h10 | simp only [List.eraseIdx_zero] at h10 | simp only [List.tail_cons] at h10 | simp only [List.eraseIdx_cons_zero] at h10 | simp only [List.eraseIdx_cons_succ] at h10 | simp only [List.setIfInBounds_toArray] at h10)
    refine wp_region_lit ?_
    have c_0_0 := h10.cell 0 rfl 0 rfl
    have c_0_1 := h10.cell 0 rfl 1 rfl
    have c_0_2 := h10.cell 0 rfl 2 rfl
    have c_0_3 := h10.cell 0 rfl 3 rfl
    iterate 1 (refine wpList_plainQ rfl (fun K Q' hK => ?_); go_simp; refine hK _ _ ?_; clear hK K; try clear Q')
    clear c_0_0 c_0_1 c_0_2 c_0_3
    have c_0 := h10.cell 4 rfl 0 rfl
    have f_0 := h10.free 4 rfl 0
    have c_1 := h10.cell 4 rfl 1 rfl
    have f_1 := h10.free 4 rfl 1
    have c_2 := h10.cell 4 rfl 2 rfl
    have f_2 := h10.free 4 rfl 2
    have c_3 := h10.cell 4 rfl 3 rfl
    have f_3 := h10.free 4 rfl 3
    refine wpList_plainQ rfl (fun K Q' hK => ?_); go_simp
    clear c_0 f_0 c_1 f_1 c_2 f_2 c_3 f_3
    refine (((h10.set (i := 4) rfl 0 _).set (i := 4) rfl 1 _).set (i := 4) rfl 2 _).k_set 4 rfl (fun w11 h11 => ?_)
    refine hK _ _ ?_; clear hK K; try clear Q'
    refine wpList_nil ?_
    show Code.wp _ _ _ _ _
    refine wp_seq ?_
    repeat (first | simp only [List.nil_append] at h11 | simp only [List.cons_append] at h11 | simp only [List.set_cons_zero] at h11 | simp only [List.set_cons_succ] at h11 | simp only [List.eraseIdx_zero] at h11 | simp only [List.tail_cons] at h11 | simp only [List.eraseIdx_cons_zero] at h11 | simp only [List.eraseIdx_cons_succ] at h11 | simp only [List.setIfInBounds_toArray] at h11)
    refine wp_region_lit ?_
    have c_4_0 := h11.cell 4 rfl 0 rfl
    have c_4_1 := h11.cell 4 rfl 1 rfl
    have c_4_2 := h11.cell 4 rfl 2 rfl
    have c_4_3 := h11.cell 4 rfl 3 rfl
    iterate 1 (refine wpList_plainQ rfl (fun K Q' hK => ?_); go_simp; refine hK _ _ ?_; clear hK K; try clear Q')
    clear c_4_0 c_4_1 c_4_2 c_4_3
    refine wpList_plainQ rfl (fun K Q' hK => ?_); go_simp
    refine h11.k_alloc (fun w12 h12 => ?_)
    refine hK _ _ ?_; clear hK K; try clear Q'
    iterate 1 (refine wpList_plainQ rfl (fun K Q' hK => ?_); go_simp; refine hK _ _ ?_; clear hK K; try clear Q')
    refine wpList_nil ?_
    show Code.wp _ _ _ _ _
    refine wp_seq ?_
    repeat (first | simp only [List.nil_append] at h12 | simp only [List.cons_append] at h12 | simp only [List.set_cons_zero] at h12 | simp only [List.set_cons_succ] at h12 | simp only [List.eraseIdx_zero] at h12 | simp only [List.tail_cons] at h12 | simp only [List.eraseIdx_cons_zero] at h12 | simp only [List.eraseIdx_cons_succ] at h12 | simp only [List.setIfInBounds_toArray] at h12)
    refine wp_region_lit ?_
    have c_3_3 := h12.cell 3 rfl 3 rfl
    iterate 3 (refine wpList_plainQ rfl (fun K Q' hK => ?_); go_simp; refine hK _ _ ?_; clear hK K; try clear Q')
    clear c_3_3
    -- stops at: eff:Builtin.append (Go.Op.call {'callee': (Go.Callee.builtin Go.Builtin.append), 'args': [(Go.Operand.tmp 27), (Go.Operand.tmp 29)], 'argTypes': [33, 33]}) slot 30
    -- stops at: eff:Builtin.append (Go.Op.call {'callee': (Go.Callee.builtin Go.Builtin.append), 'args': [(Go.Operand.tmp 27), (Go.Operand.tmp 29)], 'argTypes': [33, 33]}) slot 30
    have hR := h12.rowOf 5 rfl 4 1 rfl (by unfold maxLen; omega)
    refine wpList_plainQ rfl (fun K Q' hK => ?_)
    obtain ⟨kcs, hq1, hq2⟩ := hk2
    have hkn : t.k.toL.length < 1000000 := by
      have h5 := t.k.len_le
      have h6 : t.size = 1 + (t.b.length + t.k.els.length) := by simp [Tr.size, Tr.els]; omega
      rw [RT.toL_length]
      omega
    refine hR.op_append_rep 0 rfl rfl infoTT rfl kcs rfl hq1 (TW.one hq2) (by omega) (by unfold maxLen; omega) (fun v1 wB hB => ?_)
    refine hK _ _ ?_; clear hK K; try clear Q'
    obtain ⟨aV, cV, rfl⟩ := hB.row_form 0 rfl
    obtain ⟨H6, h6, rA, leA⟩ := hB.settleRow 0 rfl
    iterate 1 (refine wpList_plainQ rfl (fun K Q' hK => ?_); go_simp; refine hK _ _ ?_; clear hK K; try clear Q')
    refine wpList_nil ?_
    show Code.wp _ _ _ _ _
    refine wp_seq ?_
    repeat (first | simp only [List.nil_append] at h6 | simp only [List.cons_append] at h6 | simp only [List.set_cons_zero] at h6 | simp only [List.set_cons_succ] at h6 | simp only [List.eraseIdx_zero] at h6 | simp only [List.tail_cons] at h6 | simp only [List.eraseIdx_cons_zero] at h6 | simp only [List.eraseIdx_cons_succ] at h6 | simp only [List.setIfInBounds_toArray] at h6)
    refine wp_region_lit ?_
    have c_3_0 := h6.cell 3 rfl 0 rfl
    have c_3_1 := h6.cell 3 rfl 1 rfl
    have c_3_2 := h6.cell 3 rfl 2 rfl
    iterate 9 (refine wpList_plainQ rfl (fun K Q' hK => ?_); go_simp; refine hK _ _ ?_; clear hK K; try clear Q')
    clear c_3_0 c_3_1 c_3_2
    have c_0 := h6.cell 2 rfl 0 rfl
    have f_0 := h6.free 2 rfl 0
    have c_1 := h6.cell 2 rfl 1 rfl
    have f_1 := h6.free 2 rfl 1
    have c_2 := h6.cell 2 rfl 2 rfl
    have f_2 := h6.free 2 rfl 2
    have c_3 := h6.cell 2 rfl 3 rfl
    have f_3 := h6.free 2 rfl 3
    refine wpList_plainQ rfl (fun K Q' hK => ?_); go_simp
    clear c_0 f_0 c_1 f_1 c_2 f_2 c_3 f_3
    refine (((h6.set (i := 2) rfl 0 _).set (i := 2) rfl 1 _).set (i := 2) rfl 2 _).k_set 2 rfl (fun w13 h13 => ?_)
    refine hK _ _ ?_; clear hK K; try clear Q'
    refine wpList_nil ?_
    show Code.wp _ _ _ _ _
    -- stops at: ret
    refine wp_ret ?_
    have r_2_0 := h13.cell 2 rfl 0 rfl
    have r_2_1 := h13.cell 2 rfl 1 rfl
    have r_2_2 := h13.cell 2 rfl 2 rfl
    have r_2_3 := h13.cell 2 rfl 3 rfl
    first | show bodyPost _ _ _ _ _ _ | (simp only [Exit.then]; show bodyPost _ _ _ _ _ _) | (simp only [Exit.inBlock]; show bodyPost _ _ _ _ _ _) | (simp only [Exit.inBlock, Exit.then]; show bodyPost _ _ _ _ _ _) | (simp only [Exit.noGoto, Exit.inBlock, Exit.then]; show bodyPost _ _ _ _ _ _)
    refine bodyPost_ret (v := ?_) ?_ rfl ?_
    rotate_left
    · simp only [results, Tryz.results52]; go_simp; with_reducible rfl
    clear r_2_0 r_2_1 r_2_2 r_2_3
    refine ⟨_, H6, rfl, h13.post, ?_⟩
    rw [heq]
    refine ⟨_, _, _, _, rfl, hrn.out, hx2.mono leA, hb2.mono leA, ?_⟩
    refine ⟨_, ?_, TW.push hr1 (hx1.mono leA) (hb1.mono leA) (hk1.mono leA) (hq2.mono leA)⟩
    show SliceRep H6 4 _ (_ + 1) _
    rw [Nat.add_comm _ 1]
    exact rA
end Go.Proofs.YtkhjcmbppcimnaaGreatDoor
