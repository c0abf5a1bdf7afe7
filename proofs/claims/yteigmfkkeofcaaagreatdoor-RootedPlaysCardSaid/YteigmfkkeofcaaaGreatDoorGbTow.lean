/-
Slices of the call's own that grow (rows), slices that are settled, and what a loop over an iterator leaves alone.
-/
import Derived.Test.YteigmfkkeofcaaaGreatDoorGbSt
import Derived.RangeFuncNested
import Derived.OwnWalkIn
namespace Go.Proofs.YteigmfkkeofcaaaGreatDoor
open Go Go.RowKit
set_option linter.unusedVariables false

/-- An element type's row of the table. -/
structure ElemInfo (P : Program) (t e : TypeId) (z : Value) (size bytes : Nat) : Prop where
  under : P.underlying t = some (.slice e)
  info : ∃ i, P.info? e = some i ∧ i.zero = some z ∧ i.size = size ∧ i.bytes = bytes
  cells : z.cells.size = size
  pos : 0 < size

/-- A slice in the ghost heap: its elements' cells. -/
def SliceRep (H : GH) (size : Nat) (v : Value) (n : Nat) (xs : List Value) : Prop :=
  xs.length = n * size ∧ ((n = 0 ∧ ∃ a cap, v = .slice a 0 cap ∧ cap ≤ maxLen) ∨
    ∃ b off cap cs T f, v = .slice (some ⟨b, off, none⟩) n cap ∧ n ≤ cap ∧ cap ≤ maxLen ∧ H b = some (.cells cs T f) ∧ ∀ j u, xs[j]? = some u → cs[off + j]? = some u)
theorem SliceRep.mono {H H' : GH} {size n : Nat} {v : Value} {xs : List Value} (h : SliceRep H size v n xs) (hl : H.le H') : SliceRep H' size v n xs := by
  refine ⟨h.1, ?_⟩
  rcases h.2 with h | ⟨b, off, cap, cs, T, f, h1, h2, h3, h4, h5⟩
  · exact .inl h
  · exact .inr ⟨b, off, cap, cs, T, f, h1, h2, h3, hl _ _ h4, h5⟩
theorem SliceRep.nil (H : GH) (size : Nat) : SliceRep H size (.slice none 0 0) 0 [] := ⟨by simp, .inl ⟨rfl, none, 0, rfl, by unfold maxLen; omega⟩⟩

section
variable {w0 w w' : World} {H0 H H' : GH} {m : Option Nat} {c d c' d' : Int} {L : List (Nat × Obj)} {R : List Row}

/-- A block that a callee has made and handed over. -/
theorem St.callnew (h : St w0 H0 m c d w H L R) (hk : Keep none w w') {b : Nat} {o : Obj} (hb : w.heap.size ≤ b) (ho : w'.heap[b]? = some o) (hoc : o.isCells = true) : St w0 H0 m c d w' H (L ++ [(b, o)]) R := by
  have h1 := h.callk hk
  refine ⟨h1.pre, h1.keep, h1.le, h1.new, fun p hp => ?_, ?_, h1.rows, fun r hr p hp => ?_, h1.rowsR, fun p hp => ?_, h1.gc⟩
  rotate_right
  · rcases List.mem_append.1 hp with hp | hp
    · exact h.cells p hp
    · obtain rfl := List.mem_singleton.1 hp
      exact hoc
  · rcases List.mem_append.1 hp with hp | hp
    · exact h1.own p hp
    · obtain rfl := List.mem_singleton.1 hp
      exact ⟨ho, Nat.le_trans h.keep.size hb, h.fits.none hb, fun e => by have := blk_lt (h.pre.meter _ e.symm); simp only at this; omega⟩
  · refine List.pairwise_append.2 ⟨h1.nodup, List.pairwise_singleton _ _, fun p hp q hq => ?_⟩
    obtain rfl := List.mem_singleton.1 hq
    have := blk_lt (h.own p hp).1
    simp only; omega
  · rcases List.mem_append.1 hp with hp | hp
    · exact h1.rowsL r hr p hp
    · obtain rfl := List.mem_singleton.1 hp
      intro e
      have := ((h.rows r hr).1.lt _ e).2
      simp only at this; omega

/-- A block of one's own that the state had lost sight of. -/
theorem St.adopt (h : St w0 H0 m c d w H L R) {B : Nat} {o : Obj} (hB : w.heap[B]? = some o) (h1 : w0.heap.size ≤ B) (h2 : H B = none) (h3 : some B ≠ m) (h4 : ∀ p ∈ L, p.1 ≠ B) (h5 : ∀ r ∈ R, r.v.ownBlock ≠ some B) (hoc : o.isCells = true) :
    St w0 H0 m c d w H (L ++ [(B, o)]) R := by
  refine ⟨h.pre, h.keep, h.le, h.new, fun p hp => ?_, ?_, h.rows, fun r hr p hp => ?_, h.rowsR, fun p hp => ?_, h.gc⟩
  rotate_right
  · rcases List.mem_append.1 hp with hp | hp
    · exact h.cells p hp
    · obtain rfl := List.mem_singleton.1 hp
      exact hoc
  · rcases List.mem_append.1 hp with hp | hp
    · exact h.own p hp
    · obtain rfl := List.mem_singleton.1 hp
      exact ⟨hB, h1, h2, h3⟩
  · refine List.pairwise_append.2 ⟨h.nodup, List.pairwise_singleton _ _, fun p hp q hq => ?_⟩
    obtain rfl := List.mem_singleton.1 hq
    exact h4 p hp
  · rcases List.mem_append.1 hp with hp | hp
    · exact h.rowsL r hr p hp
    · obtain rfl := List.mem_singleton.1 hp
      exact h5 r hr

/-- A callee's row. -/
theorem St.callrow (h : St w0 H0 m c d w H L R) {r : Row} (hp : St w H none 0 0 w' H [] [r]) : St w0 H0 m c d w' H L (R ++ [r]) := by
  have h1 := h.callk hp.keep
  obtain ⟨hr1, hr2⟩ := hp.rows r (by simp)
  refine ⟨h1.pre, h1.keep, h1.le, h1.new, h1.own, h1.nodup, fun s hs => ?_, fun s hs p hp' => ?_, ?_, h1.cells, h1.gc⟩
  · rcases List.mem_append.1 hs with hs | hs
    · exact h1.rows s hs
    · obtain rfl := List.mem_singleton.1 hs
      refine ⟨⟨hr1.1, ?_⟩, fun g hg => ⟨(hr2 g hg).1, fun e => by have := blk_lt (h.pre.meter _ e.symm); have := (hr1.lt g hg).1; omega⟩⟩
      rcases hr1.2 with h2 | ⟨g, cap, cur, e1, e2, rest⟩
      · exact .inl h2
      · exact .inr ⟨g, cap, cur, e1, Nat.le_trans h.keep.size e2, rest⟩
  · rcases List.mem_append.1 hs with hs | hs
    · exact h1.rowsL s hs p hp'
    · obtain rfl := List.mem_singleton.1 hs
      intro e
      have := (hr1.lt _ e).1
      have := blk_lt (h.own p hp').1
      omega
  · refine List.pairwise_append.2 ⟨h1.rowsR, List.pairwise_singleton _ _, fun s hs t ht => ?_⟩
    obtain rfl := List.mem_singleton.1 ht
    intro g hg e
    have := (hr1.lt _ e).1
    have := ((h.rows s hs).1.lt g hg).2
    omega

/-- A row begins: nothing is there. -/
theorem St.row0 (h : St w0 H0 m c d w H L R) (e : TypeId) (size : Nat) : St w0 H0 m c d w H L (R ++ [⟨.slice none 0 0, e, size, 0, []⟩]) := by
  refine ⟨h.pre, h.keep, h.le, h.new, h.own, h.nodup, fun r hr => ?_, fun r hr p hp => ?_, ?_, h.cells, h.gc⟩
  · rcases List.mem_append.1 hr with hr | hr
    · exact h.rows r hr
    · obtain rfl := List.mem_singleton.1 hr
      exact ⟨World.ownsRow_nil _ _ _ _, fun g hg => by simp [Value.ownBlock] at hg⟩
  · rcases List.mem_append.1 hr with hr | hr
    · exact h.rowsL r hr p hp
    · obtain rfl := List.mem_singleton.1 hr
      simp [Value.ownBlock]
  · refine List.pairwise_append.2 ⟨h.rowsR, List.pairwise_singleton _ _, fun r _ s hs => ?_⟩
    obtain rfl := List.mem_singleton.1 hs
    intro g _
    simp [Value.ownBlock]

/-- A made block is a row: 'buildSlice'. -/
theorem St.rowOf (h : St w0 H0 m c d w H L R) (i : Nat) {b : Nat} {cs : Array Value} {e : TypeId} (hi : L[i]? = some (b, .cells cs e)) (size n : Nat) (hsz : cs.size = n * size) (hn : n ≤ maxLen) :
    St w0 H0 m c d w H (L.eraseIdx i) (R ++ [⟨.slice (some ⟨b, 0, none⟩) n n, e, size, n, cs.toList⟩]) := by
  have hbo := h.own _ (List.mem_of_getElem? hi)
  have hsub : ∀ p ∈ L.eraseIdx i, p ∈ L := fun p hp => (List.eraseIdx_sublist L i).subset hp
  refine ⟨h.pre, h.keep, h.le, h.new, fun p hp => h.own p (hsub p hp), h.nodup.sublist (List.eraseIdx_sublist L i), fun r hr => ?_, fun r hr p hp => ?_, ?_, fun p hp => h.cells p (hsub p hp), h.gc⟩
  · rcases List.mem_append.1 hr with hr | hr
    · exact h.rows r hr
    · obtain rfl := List.mem_singleton.1 hr
      refine ⟨⟨by simpa using hsz, .inr ⟨b, n, cs, rfl, hbo.2.1, hbo.1, Nat.le_refl _, hn, hsz, ?_⟩⟩, fun g hg => ?_⟩
      · exact List.take_of_length_le (by simp [hsz])
      · simp [Value.ownBlock] at hg; subst hg; exact hbo.2.2
  · rcases List.mem_append.1 hr with hr | hr
    · exact h.rowsL r hr p (hsub p hp)
    · obtain rfl := List.mem_singleton.1 hr
      obtain ⟨j, hj⟩ := List.getElem?_of_mem hp
      rw [List.getElem?_eraseIdx] at hj
      intro e2
      simp [Value.ownBlock] at e2
      split at hj
      · exact pairwise_ne_get (f := fun p : Nat × Obj => p.1) h.nodup hj hi (by omega) e2.symm
      · exact pairwise_ne_get (f := fun p : Nat × Obj => p.1) h.nodup hj hi (by omega) e2.symm
  · refine List.pairwise_append.2 ⟨h.rowsR, List.pairwise_singleton _ _, fun r hr s hs => ?_⟩
    obtain rfl := List.mem_singleton.1 hs
    intro g hg e2
    simp [Value.ownBlock] at e2
    exact h.rowsL r hr _ (List.mem_of_getElem? hi) (by rw [hg, ← e2])

theorem mem_set_cases {α : Type} {l : List α} {i : Nat} {x y : α} (h : y ∈ l.set i x) : y = x ∨ ∃ j, j ≠ i ∧ l[j]? = some y := by
  obtain ⟨j, hj⟩ := List.getElem?_of_mem h
  by_cases hij : i = j
  · subst hij
    rw [List.getElem?_set] at hj
    simp only [↓reduceIte] at hj
    split at hj
    · exact .inl (Option.some.inj hj).symm
    · cases hj
  · rw [List.getElem?_set_ne hij] at hj
    exact .inr ⟨j, Ne.symm hij, hj⟩

theorem pairwise_get {α : Type} {r : α → α → Prop} {l : List α} (h : l.Pairwise r) {i j : Nat} {x y : α} (hi : l[i]? = some x) (hj : l[j]? = some y) (hlt : i < j) : r x y := by
  obtain ⟨hi', rfl⟩ := List.getElem?_eq_some_iff.1 hi
  obtain ⟨hj', rfl⟩ := List.getElem?_eq_some_iff.1 hj
  exact List.pairwise_iff_getElem.1 h i j hi' hj' hlt

/-- A row has grown: whatever a law of the kit says of it. -/
theorem St.rowGrown (h : St w0 H0 m c d w H L R) {i : Nat} {v v' : Value} {e : TypeId} {size n n' : Nat} {xs xs' : List Value} (hi : R[i]? = some ⟨v, e, size, n, xs⟩)
    (hown : w'.ownsRow w0.heap.size e size v' n' xs') (hg : w.grownBy w' v.ownBlock) (hnew : ∀ g, v'.ownBlock = some g → v.ownBlock = some g ∨ w.heap.size ≤ g) :
    St w0 H0 m c d w' H L (R.set i ⟨v', e, size, n', xs'⟩) := by
  obtain ⟨hr1, hr2⟩ := h.rows _ (List.mem_of_getElem? hi)
  simp only at hr1 hr2
  have hkeep : ∀ k, k < w.heap.size → v.ownBlock ≠ some k → w'.heap[k]? = w.heap[k]? := fun k hk hne => hg.block k hk (fun e => hne e.symm)
  have hHne : ∀ {k : Nat} {o : Obj}, H k = some o → v.ownBlock ≠ some k := fun e e2 => by rw [(hr2 _ e2).1] at e; cases e
  have hnewH : ∀ g, v'.ownBlock = some g → H g = none ∧ some g ≠ m := fun g hg' => by
    rcases hnew g hg' with h1 | h1
    · exact hr2 g h1
    · exact ⟨h.fits.none h1, fun e => by have := blk_lt (h.pre.meter _ e.symm); omega⟩
  have hrr : ∀ {j : Nat} {r : Row}, j ≠ i → R[j]? = some r → ∀ g, r.v.ownBlock = some g → v.ownBlock ≠ some g := fun {j r} hne hj g hg' e => by
    rcases Nat.lt_or_gt_of_ne hne with h1 | h1
    · exact pairwise_get h.rowsR hj hi h1 g hg' e
    · exact pairwise_get h.rowsR hi hj h1 g e hg'
  refine ⟨⟨fun b o e => ?_, fun b e => ?_, h.pre.apart⟩, ⟨hg.os.trans h.keep.os, hg.tape.trans h.keep.tape, hg.output.trans h.keep.output, Nat.le_trans h.keep.size hg.size, fun k hk hm => ?_⟩, h.le, h.new, fun p hp => ?_, h.nodup, fun r hr => ?_, fun r hr p hp => ?_, ?_, h.cells, h.gc⟩
  · rw [hkeep b (h.fits.lt e) (hHne e)]; exact h.fits b o e
  · have := h.pre.meter b e
    rw [hkeep b (blk_lt this) (fun e2 => (hr2 _ e2).2 e.symm)]; exact this
  · rw [hkeep k (Nat.lt_of_lt_of_le hk h.keep.size) (fun e2 => by have := (hr1.lt _ e2).1; omega)]; exact h.keep.block k hk hm
  · have h1 := h.own p hp
    rw [hkeep _ (blk_lt h1.1) (h.rowsL _ (List.mem_of_getElem? hi) p hp)]; exact h1
  · rcases mem_set_cases hr with rfl | ⟨j, hne, hj⟩
    · exact ⟨hown, hnewH⟩
    · obtain ⟨h1, h2⟩ := h.rows _ (List.mem_of_getElem? hj)
      exact ⟨ownsRow_keep h1 (fun g hg' => hkeep g (h1.lt g hg').2 (hrr hne hj g hg')), h2⟩
  · rcases mem_set_cases hr with rfl | ⟨j, hne, hj⟩
    · intro e2
      rcases hnew _ e2 with h1 | h1
      · exact h.rowsL _ (List.mem_of_getElem? hi) p hp h1
      · have := blk_lt (h.own p hp).1; omega
    · exact h.rowsL _ (List.mem_of_getElem? hj) p hp
  · rw [List.pairwise_iff_getElem]
    intro a b ha hb hab
    rw [List.length_set] at ha hb
    have hset : ∀ (k : Nat) (hk : k < (R.set i ⟨v', e, size, n', xs'⟩).length), k ≠ i → ∃ r, R[k]? = some r ∧ (R.set i ⟨v', e, size, n', xs'⟩)[k] = r := fun k hk hne => by
      rw [List.length_set] at hk
      exact ⟨R[k], by simp [hk], by rw [List.getElem_set_ne (Ne.symm hne)]⟩
    by_cases hai : a = i
    · subst hai
      obtain ⟨r, hr, er⟩ := hset b (by simpa using hb) (by omega)
      rw [er, List.getElem_set_self]
      intro g hg' e2
      rcases hnew g hg' with h1 | h1
      · exact hrr (by omega) hr g e2 h1
      · have := ((h.rows _ (List.mem_of_getElem? hr)).1.lt g e2).2; omega
    · by_cases hbi : b = i
      · subst hbi
        obtain ⟨r, hr, er⟩ := hset a (by simpa using ha) hai
        rw [er, List.getElem_set_self]
        intro g hg' e2
        rcases hnew g e2 with h1 | h1
        · exact hrr hai hr g hg' h1
        · have := ((h.rows _ (List.mem_of_getElem? hr)).1.lt g hg').2; omega
      · obtain ⟨r, hr, er⟩ := hset a (by simpa using ha) hai
        obtain ⟨s, hs, es⟩ := hset b (by simpa using hb) hbi
        rw [er, es]
        exact pairwise_get h.rowsR hr hs hab

theorem KeepsOthers.grown {row : Option Nat} (hg : w.grownBy w' row) (hr : ∀ k, row = some k → ∃ o : Obj, w.heap[k]? = some o ∧ o.isCells = true) : KeepsOthers w w' :=
  KeepsOthers.of_grownBy hg fun k o e hk => by obtain ⟨o', h1, h2⟩ := hr k e; rw [hk] at h1; obtain rfl := Option.some.inj h1; exact h2

/-- The builtin append, onto a row of the call's own. -/
theorem St.run_append (h : St w0 H0 m c d w H L R) (i : Nat) {v : Value} {e : TypeId} {size n : Nat} {xs : List Value} (hi : R[i]? = some ⟨v, e, size, n, xs⟩)
    {P : Program} {t : TypeId} (ty : TypeId) {z : Value} {bytes : Nat} (hI : ElemInfo P t e z size bytes) (ad : Addr) (k cap : Nat) (news : List Value)
    (hl : news.length = k * size) (hnews : ∀ j u, news[j]? = some u → w.cell? (ad.add j) = some u) (h1 : ∀ u ∈ news, u.oneCell' = true) (hb : (n + k) * bytes ≤ 140737488355328) (h63 : n + k ≤ maxLen) :
    ∃ v' w', (Builtin.append_ #[t, t] ty #[v, .slice (some ad) k cap]).run P w = .ok v' w' ∧ St w0 H0 m c d w' H L (R.set i ⟨v', e, size, n + k, xs ++ news⟩) ∧ KeepsOthers w w' ∧ (v' = .slice none 0 0 ↔ v = .slice none 0 0 ∧ k = 0) := by
  obtain ⟨inf, hinf, hz, hsz, hby⟩ := hI.info
  obtain ⟨hr1, hr2⟩ := h.rows _ (List.mem_of_getElem? hi)
  simp only at hr1 hr2
  obtain ⟨v', w', hrun, r1, r2, r3⟩ := run_append_own (P := P) w w0.heap.size t ty e inf z size bytes hI.under hinf hz hsz hby hI.cells hI.pos v n xs hr1 ad k cap news hl hnews h1 h63 hb h.keep.size
  -- whence the new row: where it was, or beyond
  have hnew : ∀ g, v'.ownBlock = some g → v.ownBlock = some g ∨ w.heap.size ≤ g := by
    subst hsz
    subst hby
    intro g hg
    simp only [maxLen] at h63
    rcases hr1.2 with ⟨rfl, rfl⟩ | ⟨b, cp, cur, rfl, hbg, hgb, hnc, hcm, hcs, htake⟩
    · have hx : xs = [] := List.eq_nil_of_length_eq_zero (by simpa using hr1.1)
      subst hx
      by_cases hk : k = 0
      · rw [r3.2 ⟨rfl, hk⟩] at hg; simp [Value.ownBlock] at hg
      · have hr := run_append_nil (P := P) w t ty e inf z hI.under hinf hz ad k cap news hl hnews (by omega) (by omega) (by have hb' := hb; simp only [Nat.zero_add] at hb'; omega)
        rw [hrun] at hr
        obtain ⟨rfl, _⟩ := Result.ok.inj hr
        simp [Value.ownBlock] at hg
        exact .inr (by omega)
    · by_cases hroom : n + k ≤ cp
      · have hfit : n * inf.size + news.length ≤ cur.size := by rw [hl, hcs, ← Nat.add_mul]; exact Nat.mul_le_mul_right _ hroom
        have hr := run_append_room (P := P) w t ty e inf hI.under hinf b n cp cur hgb ad k cap news hl hnews h1 hroom hfit
        rw [hrun] at hr
        obtain ⟨rfl, _⟩ := Result.ok.inj hr
        exact .inl hg
      · have holds : ∀ j u, xs[j]? = some u → w.cell? ((⟨b, 0, none⟩ : Addr).add j) = some u := hr1.cells (g := b) rfl
        have hr := run_append_grow (P := P) w t ty e inf z hI.under hinf hz ⟨b, 0, none⟩ n cp xs hr1.1 holds ad k cap news hl hnews (by omega) (by omega) (growslice_fits (by omega) hb)
        rw [hrun] at hr
        obtain ⟨rfl, _⟩ := Result.ok.inj hr
        simp [Value.ownBlock] at hg
        exact .inr (by omega)
  refine ⟨v', w', hrun, h.rowGrown hi r1 r2 hnew, KeepsOthers.grown r2 (fun k hk => ?_), r3⟩
  rcases hr1.2 with ⟨rfl, _⟩ | ⟨g, cap, cur, rfl, _, hg, _⟩
  · simp [Value.ownBlock] at hk
  · simp [Value.ownBlock] at hk; subst hk; exact ⟨_, hg, rfl⟩

theorem St.take (h : St w0 H0 m c d w H L R) (k : Nat) : St w0 H0 m c d w H (L.take k) R := h.sub (List.take_sublist k L)
theorem St.row_some (h : St w0 H0 m c d w H L R) (i : Nat) {v : Value} {e : TypeId} {size n : Nat} {xs : List Value} (hi : R[i]? = some ⟨v, e, size, n, xs⟩) (hn : 0 < n) : ∃ g cap, v = .slice (some ⟨g, 0, none⟩) n cap := by
  rcases (h.rows _ (List.mem_of_getElem? hi)).1.2 with ⟨_, h2⟩ | ⟨g, cap, _, h2, _⟩
  · simp only at h2; omega
  · exact ⟨g, cap, h2⟩

/-- .. in a walk. -/
theorem St.op_append (h : St w0 H0 m c d w H L R) (i : Nat) {v : Value} {e : TypeId} {size n : Nat} {xs : List Value} (hi : R[i]? = some ⟨v, e, size, n, xs⟩)
    {P : Program} {o : Oper} {a : Act} {K : Act → World → Prop} {Q : Exit → Act → World → Prop} {s x : Operand} {t : TypeId} (ho : o.op = .call { callee := .builtin .append, args := #[s, x], argTypes := #[t, t] })
    {z : Value} {bytes : Nat} (hI : ElemInfo P t e z size bytes) (hs : a.eval s = v) {ad : Addr} {k cap : Nat} (news : List Value) (hx : a.eval x = .slice (some ad) k cap)
    (hl : news.length = k * size) (hnews : ∀ j u, news[j]? = some u → w.cell? (ad.add j) = some u) (h1 : ∀ u ∈ news, u.oneCell' = true) (hb : (n + k) * bytes ≤ 140737488355328) (h63 : n + k ≤ maxLen)
    (hk : ∀ v' w', St w0 H0 m c d w' H L (R.set i ⟨v', e, size, n + k, xs ++ news⟩) → KeepsOthers w w' → (v' = .slice none 0 0 ↔ v = .slice none 0 0 ∧ k = 0) → K (a.put o.dst v') w') : o.wp P a w K Q := by
  obtain ⟨v', w', hr, h2, h3, h4⟩ := h.run_append i hi o.type hI ad k cap news hl hnews h1 hb h63
  unfold Oper.wp execOp
  simp only [ho, resolve, invoke, builtin, Sem.run_bind, Sem.run_pure, Result.andThen_ok, List.map_toArray, List.map_cons, List.map_nil, hs, hx, hr]
  exact hk v' w' h2 h3 h4
theorem St.opIn_append (h : St w0 H0 m c d w H L R) (i : Nat) {v : Value} {e : TypeId} {size n : Nat} {xs : List Value} (hi : R[i]? = some ⟨v, e, size, n, xs⟩)
    {F : Fence} {fn : Nat} {P : Program} {o : Oper} {a : Act} {K : Act → World → Prop} {Q : Exit → Act → World → Prop} {s x : Operand} {t : TypeId} (ho : o.op = .call { callee := .builtin .append, args := #[s, x], argTypes := #[t, t] })
    {z : Value} {bytes : Nat} (hI : ElemInfo P t e z size bytes) (hs : a.eval s = v) {ad : Addr} {k cap : Nat} (news : List Value) (hx : a.eval x = .slice (some ad) k cap)
    (hl : news.length = k * size) (hnews : ∀ j u, news[j]? = some u → w.cell? (ad.add j) = some u) (h1 : ∀ u ∈ news, u.oneCell' = true) (hb : (n + k) * bytes ≤ 140737488355328) (h63 : n + k ≤ maxLen)
    (hk : ∀ v' w', St w0 H0 m c d w' H L (R.set i ⟨v', e, size, n + k, xs ++ news⟩) → KeepsOthers w w' → (v' = .slice none 0 0 ↔ v = .slice none 0 0 ∧ k = 0) → K (a.put o.dst v') w') : o.wpIn F fn P a w K Q := by
  obtain ⟨v', w', hr, h2, h3, h4⟩ := h.run_append i hi o.type hI ad k cap news hl hnews h1 hb h63
  unfold Oper.wpIn
  refine ⟨?_, ?_⟩
  · simp [Oper.about, ho, resolve, Target.leads, Sem.run_pure]
  · rw [Oper.semAt_plain F _ _ (by rw [ho]; intro c hc'; cases hc')]
    simp [execOp, ho, resolve, invoke, builtin, hs, hx, hr, Result.andThen]
    exact hk _ _ h2 h3 h4

/-- A row is settled: it reads as a slice for ever. -/
theorem St.settleRow (h : St w0 H0 m c d w H L R) (i : Nat) {v : Value} {e : TypeId} {size n : Nat} {xs : List Value} (hi : R[i]? = some ⟨v, e, size, n, xs⟩) :
    ∃ H', St w0 H0 m c d w H' L (R.eraseIdx i) ∧ SliceRep H' size v n xs ∧ H.le H' := by
  obtain ⟨hr1, hr2⟩ := h.rows _ (List.mem_of_getElem? hi)
  simp only at hr1 hr2
  rcases hr1.2 with ⟨rfl, rfl⟩ | ⟨g, cap, cur, rfl, hb, hg, hnc, hcm, hcs, htake⟩
  · exact ⟨H, h.subR (List.eraseIdx_sublist R i), ⟨hr1.1, .inl ⟨rfl, none, 0, rfl, by unfold maxLen; omega⟩⟩, GH.le_refl H⟩
  · have hgm := hr2 g rfl
    have hsub : ∀ r ∈ R.eraseIdx i, r ∈ R := fun p hp => (List.eraseIdx_sublist R i).subset hp
    have hneg : ∀ r ∈ R.eraseIdx i, ∀ g', r.v.ownBlock = some g' → g' ≠ g := fun r hr g' hg' e => by
      subst e
      obtain ⟨j, hj⟩ := List.getElem?_of_mem hr
      rw [List.getElem?_eraseIdx] at hj
      split at hj
      · exact pairwise_get h.rowsR hj hi (by omega) g' hg' rfl
      · exact pairwise_get h.rowsR hi hj (by omega) g' rfl hg'
    refine ⟨H.add g (.cells cur e (0, 0)), ⟨⟨fun k o' e2 => ?_, h.pre.meter, fun k e2 => ?_⟩, h.keep, h.le.trans (GH.le_add H _ hgm.1), fun k o' e2 => ?_, fun p hp => ?_, h.nodup, fun r hr => ?_, fun r hr p hp => h.rowsL r (hsub r hr) p hp, h.rowsR.sublist (List.eraseIdx_sublist R i), h.cells, fun k o' e2 => ?_⟩, ⟨hr1.1, .inr ⟨g, 0, cap, cur, e, (0, 0), rfl, hnc, hcm, GH.add_self _ _ _, fun j u hj => ?_⟩⟩, GH.le_add H _ hgm.1⟩
    · by_cases hk : k = g
      · subst hk; rw [GH.add_self] at e2; obtain rfl := Option.some.inj e2; exact hg
      · rw [GH.add_ne _ _ hk] at e2; exact h.fits k o' e2
    · rw [GH.add_ne _ _ (fun e3 => hgm.2 (by rw [e2, ← e3]))]; exact h.pre.apart k e2
    · by_cases hk : k = g
      · subst hk; exact .inr hb
      · rw [GH.add_ne _ _ hk] at e2; exact h.new k o' e2
    · obtain ⟨a1, a2, a3, a4⟩ := h.own p hp
      exact ⟨a1, a2, by rw [GH.add_ne _ _ (fun e3 => h.rowsL _ (List.mem_of_getElem? hi) p hp (by simp [Value.ownBlock, e3]))]; exact a3, a4⟩
    · obtain ⟨a1, a2⟩ := h.rows r (hsub r hr)
      exact ⟨a1, fun g' hg' => ⟨by rw [GH.add_ne _ _ (hneg r hr g' hg')]; exact (a2 g' hg').1, (a2 g' hg').2⟩⟩
    · by_cases hk : k = g
      · subst hk; rw [GH.add_self] at e2; obtain rfl := Option.some.inj e2; exact .inr rfl
      · rw [GH.add_ne _ _ hk] at e2; exact h.gc k o' e2
    · rw [← htake, List.getElem?_take] at hj
      split at hj
      · simpa using hj
      · cases hj

/-- What an iterator's own blocks do is nothing to the state. -/
theorem St.grown (h : St w0 H0 m c d w H L R) {row : Option Nat} {B : Nat} (hg : w.grownBy w' row) (hr : ∀ r, row = some r → B ≤ r ∧ ∃ o : Obj, w.heap[r]? = some o ∧ o.isCells = false)
    (hB : w0.heap.size ≤ B) (hH : ∀ b o, H0 b = some o → b < B) : St w0 H0 m c d w' H L R := by
  have hk : ∀ k o, w.heap[k]? = some o → (k < B ∨ o.isCells = true) → w'.heap[k]? = w.heap[k]? := fun k o hk ho => hg.block k (blk_lt hk) fun e => by
    obtain ⟨h1, o', h2, h3⟩ := hr k e.symm
    rw [hk] at h2; obtain rfl := Option.some.inj h2
    rcases ho with ho | ho
    · omega
    · rw [ho] at h3; cases h3
  refine ⟨⟨fun b o e => ?_, fun b e => ?_, h.pre.apart⟩, ⟨hg.os.trans h.keep.os, hg.tape.trans h.keep.tape, hg.output.trans h.keep.output, Nat.le_trans h.keep.size hg.size, fun k hk' hm => ?_⟩, h.le, h.new, fun p hp => ?_, h.nodup, fun r hr' => ?_, h.rowsL, h.rowsR, h.cells, h.gc⟩
  · have := h.fits b o e; rw [hk b o this ((h.gc b o e).imp (hH b o) id)]; exact this
  · have := h.pre.meter b e; rw [hk b _ this (.inr rfl)]; exact this
  · rw [hg.block k (Nat.lt_of_lt_of_le hk' h.keep.size) (fun e => by have := (hr k e.symm).1; omega)]; exact h.keep.block k hk' hm
  · have := h.own p hp; rw [hk _ _ this.1 (.inr (h.cells p hp))]; exact this
  · obtain ⟨h1, h2⟩ := h.rows r hr'
    refine ⟨?_, h2⟩
    refine ⟨h1.1, ?_⟩
    rcases h1.2 with hn | ⟨g, cap, cur, e1, e2, e3, rest⟩
    · exact .inl hn
    · exact .inr ⟨g, cap, cur, e1, e2, by rw [hk g _ e3 (.inr rfl)]; exact e3, rest⟩

theorem St.k_alloc' (h : St w0 H0 m c d w H L R) {K : Act → World → Prop} {a : Act} {cs : Array Value} {T : TypeId} (hk : ∀ w', St w0 H0 m c d w' H (L ++ [(w.heap.size, .cells cs T)]) R → KeepsOthers w w' → K a w') : K a (w.alloc (.cells cs T)) := hk _ (h.alloc _ rfl) (KeepsOthers.alloc _ _)
theorem St.k_set' (h : St w0 H0 m c d w H L R) (i : Nat) {b j : Nat} {cs : Array Value} {T : TypeId} {v : Value} {K : Act → World → Prop} {a : Act} (hi : L[i]? = some (b, .cells cs T))
    (hk : ∀ w', St w0 H0 m c d w' H (L.set i (b, .cells (cs.setIfInBounds j v) T)) R → KeepsOthers w w' → K a w') : K a (w.setCell ⟨b, j, none⟩ v) := hk _ (h.set hi j v) (KeepsOthers.setCell _ _ _)
theorem KeepsOthers.of_keep {m : Option Nat} {w w' : World} (h : Keep m w w') (hm : ∀ b, m = some b → ∃ o : Obj, w.heap[b]? = some o ∧ o.isCells = true) : KeepsOthers w w' :=
  ⟨h.size, fun k o hk ho => (h.block k (blk_lt hk) (fun e => by obtain ⟨o', h1, h2⟩ := hm k e.symm; rw [hk] at h1; obtain rfl := Option.some.inj h1; rw [ho] at h2; cases h2)).trans hk⟩
theorem KeepsOthers.of_keep0 {w w' : World} (h : Keep none w w') : KeepsOthers w w' := KeepsOthers.of_keep h (fun _ e => nomatch e)
end
end Go.Proofs.YteigmfkkeofcaaaGreatDoor
