/-
The state of a walk: what is settled for ever (a ghost heap), what is the call's own, a meter's two numbers, and what is kept.
-/
import Derived.WalkKit
import Derived.RangeFuncOwn
import Derived.Test.YteigmfkkeofcaaaGreatDoorGaOrd
namespace Go.Proofs.YteigmfkkeofcaaaGreatDoor
open Go Go.RowKit
set_option linter.unusedVariables false

/-! ### Blocks and cells -/
theorem blk_new (w : World) (o : Obj) : (w.alloc o).heap[w.heap.size]? = some o := by show (w.heap.push o)[w.heap.size]? = _; simp
theorem blk_lt {w : World} {b : Nat} {o : Obj} (h : w.heap[b]? = some o) : b < w.heap.size := (Array.getElem?_eq_some_iff.1 h).1
theorem blk_alloc {w : World} {b : Nat} {o : Obj} (o' : Obj) (h : w.heap[b]? = some o) : (w.alloc o').heap[b]? = some o := by
  rw [Below.heap_alloc _ _ _ (blk_lt h)]; exact h
theorem blk_cell {w : World} {b : Nat} {c : Array Value} {T : TypeId} {f : Nat × Nat} (h : w.heap[b]? = some (.cells c T f)) (i : Nat) : w.cell? ⟨b, i, none⟩ = c[i]? := by simp [World.cell?, h]
theorem blk_free {w : World} {b : Nat} {c : Array Value} {T : TypeId} (h : w.heap[b]? = some (.cells c T)) (i : Nat) : w.frozen? ⟨b, i, none⟩ = false := by simp [World.frozen?, h]
theorem blk_set {w : World} {b i : Nat} {c : Array Value} {T : TypeId} (v : Value) (h : w.heap[b]? = some (.cells c T)) : (w.setCell ⟨b, i, none⟩ v).heap[b]? = some (.cells (c.setIfInBounds i v) T) := by
  simp [World.setCell, Array.getElem?_modify, h]
theorem blk_set_ne {w : World} {b i : Nat} {b' : Nat} {o : Obj} (v : Value) (hne : b' ≠ b) (h : w.heap[b']? = some o) : (w.setCell ⟨b, i, none⟩ v).heap[b']? = some o := by
  rw [Below.heap_setCell _ _ _ _ hne]; exact h

/-! ### The ghost heap -/
def GH := Nat → Option Obj
def GH.le (H H' : GH) : Prop := ∀ b o, H b = some o → H' b = some o
theorem GH.le_refl (H : GH) : H.le H := fun _ _ h => h
theorem GH.le.trans {H H' H'' : GH} (h : H.le H') (k : H'.le H'') : H.le H'' := fun b o e => k b o (h b o e)
def GH.add (H : GH) (b : Nat) (o : Obj) : GH := fun k => if k = b then some o else H k
theorem GH.add_self (H : GH) (b : Nat) (o : Obj) : H.add b o b = some o := by simp [GH.add]
theorem GH.add_ne (H : GH) {b k : Nat} (o : Obj) (h : k ≠ b) : H.add b o k = H k := by simp [GH.add, h]
theorem GH.le_add (H : GH) {b : Nat} (o : Obj) (h : H b = none) : H.le (H.add b o) := fun k o' e => by
  by_cases hk : k = b
  · subst hk; rw [h] at e; cases e
  · rw [GH.add_ne H o hk]; exact e
def Fits (w : World) (H : GH) : Prop := ∀ b o, H b = some o → w.heap[b]? = some o
theorem Fits.lt {w : World} {H : GH} (h : Fits w H) {b : Nat} {o : Obj} (hb : H b = some o) : b < w.heap.size := blk_lt (h b o hb)
theorem Fits.le {w : World} {H H' : GH} (h : Fits w H') (hl : H.le H') : Fits w H := fun b o e => h b o (hl b o e)
theorem Fits.none {w : World} {H : GH} (h : Fits w H) {b : Nat} (hb : w.heap.size ≤ b) : H b = none := by
  cases e : H b with
  | none => rfl
  | some o => have := h.lt e; omega

/-! ### What a call keeps -/
structure Keep (m : Option Nat) (w w' : World) : Prop where
  os : w'.os = w.os
  tape : w'.tape = w.tape
  output : w'.output = w.output
  size : w.heap.size ≤ w'.heap.size
  block : ∀ k, k < w.heap.size → some k ≠ m → w'.heap[k]? = w.heap[k]?
theorem Keep.refl (m : Option Nat) (w : World) : Keep m w w := ⟨rfl, rfl, rfl, Nat.le_refl _, fun _ _ _ => rfl⟩
theorem Keep.trans {m : Option Nat} {a b c : World} (h : Keep m a b) (k : Keep m b c) : Keep m a c :=
  ⟨k.os.trans h.os, k.tape.trans h.tape, k.output.trans h.output, Nat.le_trans h.size k.size, fun i hi hm => (k.block i (Nat.lt_of_lt_of_le hi h.size) hm).trans (h.block i hi hm)⟩
theorem Keep.of_none {m : Option Nat} {a b : World} (h : Keep none a b) : Keep m a b := ⟨h.os, h.tape, h.output, h.size, fun k hk _ => h.block k hk (by simp)⟩
theorem Keep.blk {m : Option Nat} {w w' : World} (h : Keep m w w') {b : Nat} {o : Obj} (hb : w.heap[b]? = some o) (hm : some b ≠ m) : w'.heap[b]? = some o := by
  rw [h.block b (blk_lt hb) hm]; exact hb
theorem Keep.below {w w' : World} (h : Keep none w w') : Below w.heap.size w w' := ⟨h.os, h.tape, h.output, h.size, fun k hk => h.block k hk (by simp)⟩
theorem Keep.of_below {w w' : World} (h : Below w.heap.size w w') : Keep none w w' := ⟨h.os, h.tape, h.output, h.size, fun k hk _ => h.block k hk⟩
theorem Keep.of_grown {w w' : World} (h : w.grownBy w' none) : Keep none w w' := ⟨h.os, h.tape, h.output, h.size, fun k hk _ => h.block k hk (by simp)⟩

/-- A meter's block. -/
def meterT : TypeId :=
  66
def meterObj (c d : Int) : Obj := .cells #[.int .i64 (IntKind.i64.wrap c), .int .i64 (IntKind.i64.wrap d)] meterT

structure Pre (w : World) (H : GH) (m : Option Nat) (c d : Int) : Prop where
  fits : Fits w H
  meter : ∀ b, m = some b → w.heap[b]? = some (meterObj c d)
  apart : ∀ b, m = some b → H b = none
structure Post (w : World) (H : GH) (m : Option Nat) (w' : World) (H' : GH) (c d : Int) : Prop where
  keep : Keep m w w'
  le : H.le H'
  new : ∀ b o, H' b = some o → H b = some o ∨ w.heap.size ≤ b
  gc : ∀ b o, H' b = some o → H b = some o ∨ o.isCells = true
  pre : Pre w' H' m c d
theorem Pre.none {w : World} {H : GH} (h : Fits w H) (c d : Int) : Pre w H none c d := ⟨h, fun _ e => (nomatch e), fun _ e => (nomatch e)⟩

/-- A row that is being made: a slice of the call's own. -/
structure Row where
  v : Value
  e : TypeId
  size : Nat
  n : Nat
  xs : List Value

/-- The state of a walk. -/
structure St (w0 : World) (H0 : GH) (m : Option Nat) (c d : Int) (w : World) (H : GH) (L : List (Nat × Obj)) (R : List Row) : Prop where
  pre : Pre w H m c d
  keep : Keep m w0 w
  le : H0.le H
  new : ∀ b o, H b = some o → H0 b = some o ∨ w0.heap.size ≤ b
  own : ∀ p ∈ L, w.heap[p.1]? = some p.2 ∧ w0.heap.size ≤ p.1 ∧ H p.1 = none ∧ some p.1 ≠ m
  nodup : L.Pairwise (fun p q => p.1 ≠ q.1)
  rows : ∀ r ∈ R, w.ownsRow w0.heap.size r.e r.size r.v r.n r.xs ∧ ∀ g, r.v.ownBlock = some g → H g = none ∧ some g ≠ m
  rowsL : ∀ r ∈ R, ∀ p ∈ L, r.v.ownBlock ≠ some p.1
  rowsR : R.Pairwise (fun r s => ∀ g, r.v.ownBlock = some g → s.v.ownBlock ≠ some g)
  cells : ∀ p ∈ L, p.2.isCells = true
  gc : ∀ b o, H b = some o → H0 b = some o ∨ o.isCells = true

section
variable {w0 w w' : World} {H0 H H' : GH} {m : Option Nat} {c d c' d' : Int} {L : List (Nat × Obj)} {R : List Row}

theorem St.start (h : Pre w H m c d) : St w H m c d w H [] [] :=
  ⟨h, Keep.refl _ _, GH.le_refl _, fun _ _ h => .inl h, by simp, .nil, by simp, by simp, .nil, by simp, fun _ _ h => .inl h⟩
theorem St.post (h : St w0 H0 m c d w H L R) : Post w0 H0 m w H c d := ⟨h.keep, h.le, h.new, h.gc, h.pre⟩
theorem St.fits (h : St w0 H0 m c d w H L R) : Fits w H := h.pre.fits
theorem St.pre0 (h : St w0 H0 m c d w H L R) : Pre w H none 0 0 := Pre.none h.fits 0 0

theorem ownsRow_keep {base : Nat} {e : TypeId} {size n : Nat} {v : Value} {xs : List Value} (h : w.ownsRow base e size v n xs) (hk : ∀ g, v.ownBlock = some g → w'.heap[g]? = w.heap[g]?) : w'.ownsRow base e size v n xs := by
  refine ⟨h.1, ?_⟩
  rcases h.2 with hn | ⟨g, cap, cur, rfl, hb, hg, rest⟩
  · exact .inl hn
  · exact .inr ⟨g, cap, cur, rfl, hb, by rw [hk g rfl]; exact hg, rest⟩

/-- The world turns, blocks that are the call's own, or settled, or the meter's, do not. -/
theorem St.turn (h : St w0 H0 m c d w H L R) (hs : w.heap.size ≤ w'.heap.size) (ho : w'.os = w.os) (ht : w'.tape = w.tape) (hou : w'.output = w.output) (hk : ∀ k, k < w.heap.size → w'.heap[k]? = w.heap[k]?) :
    St w0 H0 m c d w' H L R := by
  refine ⟨⟨fun b o e => ?_, fun b e => ?_, h.pre.apart⟩, ⟨ho.trans h.keep.os, ht.trans h.keep.tape, hou.trans h.keep.output, Nat.le_trans h.keep.size hs, fun k hk' hm => ?_⟩, h.le, h.new, fun p hp => ?_, h.nodup, fun r hr => ?_, h.rowsL, h.rowsR, h.cells, h.gc⟩
  · rw [hk b (h.fits.lt e)]; exact h.fits b o e
  · have := h.pre.meter b e; rw [hk b (blk_lt this)]; exact this
  · rw [hk k (Nat.lt_of_lt_of_le hk' h.keep.size)]; exact h.keep.block k hk' hm
  · have := h.own p hp; rw [hk _ (blk_lt this.1)]; exact this
  · obtain ⟨h1, h2⟩ := h.rows r hr
    exact ⟨ownsRow_keep h1 (fun g hg => hk g (h1.lt g hg).2), h2⟩

theorem St.drew (h : St w0 H0 m c d w H L R) : St w0 H0 m c d w.drew H L R := h.turn (Nat.le_refl _) rfl rfl rfl fun _ _ => rfl

theorem St.alloc (h : St w0 H0 m c d w H L R) (o : Obj) (ho : o.isCells = true) : St w0 H0 m c d (w.alloc o) H (L ++ [(w.heap.size, o)]) R := by
  have h1 : St w0 H0 m c d (w.alloc o) H L R := h.turn (by simp) rfl rfl rfl fun k hk => Below.heap_alloc w o k hk
  have hm : some w.heap.size ≠ m := fun e => by have := blk_lt (h.pre.meter _ e.symm); omega
  refine ⟨h1.pre, h1.keep, h1.le, h1.new, fun p hp => ?_, ?_, h1.rows, fun r hr p hp => ?_, h1.rowsR, fun p hp => ?_, h1.gc⟩
  rotate_right
  · rcases List.mem_append.1 hp with hp | hp
    · exact h.cells p hp
    · obtain rfl := List.mem_singleton.1 hp
      exact ho
  · rcases List.mem_append.1 hp with hp | hp
    · exact h1.own p hp
    · obtain rfl := List.mem_singleton.1 hp
      exact ⟨blk_new w o, h.keep.size, h.fits.none (Nat.le_refl _), hm⟩
  · refine List.pairwise_append.2 ⟨h1.nodup, List.pairwise_singleton _ _, fun p hp q hq => ?_⟩
    obtain rfl := List.mem_singleton.1 hq
    have := blk_lt (h.own p hp).1
    exact Nat.ne_of_lt this
  · rcases List.mem_append.1 hp with hp | hp
    · exact h1.rowsL r hr p hp
    · obtain rfl := List.mem_singleton.1 hp
      intro e
      have := ((h.rows r hr).1.lt _ e).2
      simp at this

/-- One of the call's own blocks. -/
theorem St.at (h : St w0 H0 m c d w H L R) {i : Nat} {b : Nat} {o : Obj} (hi : L[i]? = some (b, o)) : w.heap[b]? = some o := (h.own _ (List.mem_of_getElem? hi)).1
theorem St.cell (h : St w0 H0 m c d w H L R) (i : Nat) {b : Nat} {cs : Array Value} {T : TypeId} {f : Nat × Nat} {v : Value} (hi : L[i]? = some (b, .cells cs T f)) (j : Nat) (hj : cs[j]? = some v) : w.cell? ⟨b, j, none⟩ = some v := by
  rw [blk_cell (h.at hi)]; exact hj
theorem St.free (h : St w0 H0 m c d w H L R) (i : Nat) {b : Nat} {cs : Array Value} {T : TypeId} (hi : L[i]? = some (b, .cells cs T)) (j : Nat) : w.frozen? ⟨b, j, none⟩ = false := blk_free (h.at hi) j
theorem St.gh (h : St w0 H0 m c d w H L R) {b : Nat} {cs : Array Value} {T : TypeId} {f : Nat × Nat} {v : Value} (hb : H b = some (.cells cs T f)) (j : Nat) (hj : cs[j]? = some v) : w.cell? ⟨b, j, none⟩ = some v := by
  rw [blk_cell (h.fits _ _ hb)]; exact hj

theorem pairwise_ne_get {α : Type} {f : α → Nat} {l : List α} (h : l.Pairwise (fun p q => f p ≠ f q)) {i j : Nat} {p q : α} (hi : l[i]? = some p) (hj : l[j]? = some q) (hne : i ≠ j) : f p ≠ f q := by
  obtain ⟨hi', hi⟩ := List.getElem?_eq_some_iff.1 hi
  obtain ⟨hj', hj⟩ := List.getElem?_eq_some_iff.1 hj
  have := List.pairwise_iff_getElem.1 h
  rcases Nat.lt_or_gt_of_ne hne with h1 | h1
  · have := this i j hi' hj' h1; rw [hi, hj] at this; exact this
  · have := this j i hj' hi' h1; rw [hi, hj] at this; exact this.symm

/-- One of the call's own blocks is written, or turned otherwise. -/
theorem St.put (h : St w0 H0 m c d w H L R) {i : Nat} {b : Nat} {o o' : Obj} (ho' : o'.isCells = true) (hi : L[i]? = some (b, o)) (hb : w'.heap[b]? = some o') (hs : w.heap.size ≤ w'.heap.size) (ho : w'.os = w.os) (ht : w'.tape = w.tape) (hou : w'.output = w.output)
    (hk : ∀ k, k < w.heap.size → k ≠ b → w'.heap[k]? = w.heap[k]?) : St w0 H0 m c d w' H (L.set i (b, o')) R := by
  have hbo := h.own _ (List.mem_of_getElem? hi)
  have hil : i < L.length := (List.getElem?_eq_some_iff.1 hi).1
  have hne : ∀ {k : Nat} {o : Obj}, H k = some o → k ≠ b := fun e e2 => by subst e2; rw [hbo.2.2.1] at e; cases e
  refine ⟨⟨fun k o e => ?_, fun k e => ?_, h.pre.apart⟩, ⟨ho.trans h.keep.os, ht.trans h.keep.tape, hou.trans h.keep.output, Nat.le_trans h.keep.size hs, fun k hk' hm => ?_⟩, h.le, h.new, fun p hp => ?_, ?_, fun r hr => ?_, fun r hr p hp => ?_, h.rowsR, fun p hp => ?_, h.gc⟩
  rotate_right
  · obtain ⟨j, hj⟩ := List.getElem?_of_mem hp
    by_cases hij : i = j
    · subst hij
      rw [List.getElem?_set_self hil] at hj
      obtain rfl := Option.some.inj hj
      exact ho'
    · rw [List.getElem?_set_ne hij] at hj
      exact h.cells p (List.mem_of_getElem? hj)
  · rw [hk k (h.fits.lt e) (hne e)]; exact h.fits k o e
  · have := h.pre.meter k e
    rw [hk k (blk_lt this) (fun e2 => hbo.2.2.2 (by rw [← e2]; exact e.symm))]; exact this
  · rw [hk k (Nat.lt_of_lt_of_le hk' h.keep.size) (by have := hbo.2.1; simp only at this; omega)]; exact h.keep.block k hk' hm
  · obtain ⟨j, hj⟩ := List.getElem?_of_mem hp
    by_cases hij : i = j
    · subst hij
      rw [List.getElem?_set_self hil] at hj
      obtain rfl := Option.some.inj hj
      exact ⟨hb, hbo.2⟩
    · rw [List.getElem?_set_ne hij] at hj
      have h1 := h.own _ (List.mem_of_getElem? hj)
      rw [hk _ (blk_lt h1.1) (pairwise_ne_get (f := fun p : Nat × Obj => p.1) h.nodup hj hi (Ne.symm hij))]
      exact h1
  · have e : (L.set i (b, o')).map (·.1) = L.map (·.1) := by
      apply List.ext_getElem?
      intro j
      simp only [List.getElem?_map]
      by_cases hij : i = j
      · subst hij; rw [List.getElem?_set_self hil, hi]; rfl
      · rw [List.getElem?_set_ne hij]
    have h1 : (L.map (·.1)).Pairwise (· ≠ ·) := List.pairwise_map.2 h.nodup
    rw [← e] at h1
    exact List.pairwise_map.1 h1
  · obtain ⟨h1, h2⟩ := h.rows r hr
    refine ⟨ownsRow_keep h1 (fun g hg => hk g (h1.lt g hg).2 ?_), h2⟩
    intro e
    subst e
    exact h.rowsL r hr _ (List.mem_of_getElem? hi) hg
  · obtain ⟨j, hj⟩ := List.getElem?_of_mem hp
    by_cases hij : i = j
    · subst hij
      rw [List.getElem?_set_self hil] at hj
      obtain rfl := Option.some.inj hj
      exact h.rowsL r hr (b, o) (List.mem_of_getElem? hi)
    · rw [List.getElem?_set_ne hij] at hj
      exact h.rowsL r hr p (List.mem_of_getElem? hj)

theorem St.set (h : St w0 H0 m c d w H L R) {i : Nat} {b : Nat} {cs : Array Value} {T : TypeId} (hi : L[i]? = some (b, .cells cs T)) (j : Nat) (v : Value) :
    St w0 H0 m c d (w.setCell ⟨b, j, none⟩ v) H (L.set i (b, .cells (cs.setIfInBounds j v) T)) R :=
  h.put rfl hi (blk_set v (h.at hi)) (by simp) rfl rfl rfl fun k _ hne => Below.heap_setCell _ _ _ _ hne

/-- A call that was handed the meter. -/
theorem St.call (h : St w0 H0 m c d w H L R) (hp : Post w H m w' H' c' d') : St w0 H0 m c' d' w' H' L R := by
  have hno : ∀ {b : Nat}, b < w.heap.size → H b = none → H' b = none := fun hb hn => by
    cases e : H' _ with
    | none => rfl
    | some o => rcases hp.new _ _ e with h1 | h1
                · rw [hn] at h1; cases h1
                · omega
  refine ⟨hp.pre, h.keep.trans hp.keep, h.le.trans hp.le, fun b o e => ?_, fun p hp' => ?_, h.nodup, fun r hr => ?_, h.rowsL, h.rowsR, h.cells, fun b o e => (hp.gc b o e).elim (h.gc b o) .inr⟩
  · rcases hp.new b o e with h1 | h1
    · exact h.new b o h1
    · exact .inr (Nat.le_trans h.keep.size h1)
  · obtain ⟨h1, h2, h3, h4⟩ := h.own p hp'
    exact ⟨hp.keep.blk h1 h4, h2, hno (blk_lt h1) h3, h4⟩
  · obtain ⟨h1, h2⟩ := h.rows r hr
    refine ⟨ownsRow_keep h1 (fun g hg => hp.keep.block g (h1.lt g hg).2 (h2 g hg).2), fun g hg => ⟨hno (h1.lt g hg).2 (h2 g hg).1, (h2 g hg).2⟩⟩

/-- A call that was handed none. -/
theorem Post.of_none (hp : Post w H none w' H' c' d') (h : Pre w H m c d) : Post w H m w' H' c d := by
  refine ⟨hp.keep.of_none, hp.le, hp.new, hp.gc, ⟨hp.pre.fits, fun b e => hp.keep.blk (h.meter b e) (by simp), fun b e => ?_⟩⟩
  cases e2 : H' b with
  | none => rfl
  | some o => rcases hp.new _ _ e2 with h1 | h1
              · rw [h.apart b e] at h1; cases h1
              · have := blk_lt (h.meter b e); omega
theorem St.call0 (h : St w0 H0 m c d w H L R) (hp : Post w H none w' H' c' d') : St w0 H0 m c d w' H' L R := h.call (hp.of_none h.pre)
theorem Post.of_keep (h : Fits w H) (hk : Keep none w w') : Post w H none w' H 0 0 :=
  ⟨hk, GH.le_refl _, fun _ _ h => .inl h, fun _ _ h => .inl h, Pre.none (fun b o e => hk.blk (h b o e) (by simp)) 0 0⟩
theorem St.callk (h : St w0 H0 m c d w H L R) (hk : Keep none w w') : St w0 H0 m c d w' H L R := h.call0 (Post.of_keep h.fits hk)

/-- A call that was handed a meter of the call's own. -/
theorem St.pre_at (h : St w0 H0 m c d w H L R) {i b : Nat} (hi : L[i]? = some (b, meterObj c' d')) : Pre w H (some b) c' d' :=
  ⟨h.fits, fun k e => by obtain rfl := Option.some.inj e; exact h.at hi, fun k e => by obtain rfl := Option.some.inj e; exact (h.own _ (List.mem_of_getElem? hi)).2.2.1⟩
theorem St.call_at (h : St w0 H0 m c d w H L R) {i b : Nat} {o : Obj} (hi : L[i]? = some (b, o)) (hp : Post w H (some b) w' H' c' d') : St w0 H0 m c d w' H' (L.set i (b, meterObj c' d')) R := by
  have h1 : St w0 H0 m c d w' H (L.set i (b, meterObj c' d')) R :=
    h.put rfl hi (hp.pre.meter b rfl) hp.keep.size hp.keep.os hp.keep.tape hp.keep.output fun k hk hne => hp.keep.block k hk (by simpa using hne)
  have hno : ∀ {b : Nat}, b < w.heap.size → H b = none → H' b = none := fun hb hn => by
    cases e : H' _ with
    | none => rfl
    | some o => rcases hp.new _ _ e with h1 | h1
                · rw [hn] at h1; cases h1
                · omega
  have hlt : ∀ p ∈ L.set i (b, meterObj c' d'), p.1 < w.heap.size := fun p hp' => by
    obtain ⟨j, hj⟩ := List.getElem?_of_mem hp'
    have hil : i < L.length := (List.getElem?_eq_some_iff.1 hi).1
    by_cases hij : i = j
    · subst hij
      rw [List.getElem?_set_self hil] at hj
      obtain rfl := Option.some.inj hj
      exact blk_lt (h.at hi)
    · rw [List.getElem?_set_ne hij] at hj
      exact blk_lt (h.own _ (List.mem_of_getElem? hj)).1
  refine ⟨⟨hp.pre.fits, h1.pre.meter, fun k e => hno (blk_lt (h.pre.meter k e)) (h.pre.apart k e)⟩, h1.keep, h.le.trans hp.le, fun k o e => ?_, fun p hp' => ?_, h1.nodup, fun r hr => ⟨(h1.rows r hr).1, fun g hg => ⟨hno ((h.rows r hr).1.lt g hg).2 ((h.rows r hr).2 g hg).1, ((h.rows r hr).2 g hg).2⟩⟩, h1.rowsL, h1.rowsR, h1.cells, fun b o e => (hp.gc b o e).elim (h.gc b o) .inr⟩
  · rcases hp.new k o e with h2 | h2
    · exact h.new k o h2
    · exact .inr (Nat.le_trans h.keep.size h2)
  · obtain ⟨a1, a2, a3, a4⟩ := h1.own p hp'
    exact ⟨a1, a2, hno (hlt p hp') a3, a4⟩

/-- One of the call's own blocks is settled. -/
theorem St.settle (h : St w0 H0 m c d w H L R) (i : Nat) {b : Nat} {o : Obj} (hi : L[i]? = some (b, o)) : St w0 H0 m c d w (H.add b o) (L.eraseIdx i) R := by
  have hbo := h.own _ (List.mem_of_getElem? hi)
  have hsub : ∀ p ∈ L.eraseIdx i, p ∈ L := fun p hp => (List.eraseIdx_sublist L i).subset hp
  have hneb : ∀ p ∈ L.eraseIdx i, p.1 ≠ b := fun p hp => by
    obtain ⟨j, hj⟩ := List.getElem?_of_mem hp
    rw [List.getElem?_eraseIdx] at hj
    split at hj
    · exact pairwise_ne_get (f := fun p : Nat × Obj => p.1) h.nodup hj hi (by omega)
    · exact pairwise_ne_get (f := fun p : Nat × Obj => p.1) h.nodup hj hi (by omega)
  refine ⟨⟨fun k o' e => ?_, h.pre.meter, fun k e => ?_⟩, h.keep, h.le.trans (GH.le_add H o hbo.2.2.1), fun k o' e => ?_, fun p hp => ?_, h.nodup.sublist (List.eraseIdx_sublist L i), fun r hr => ?_, fun r hr p hp => h.rowsL r hr p (hsub p hp), h.rowsR, fun p hp => h.cells p (hsub p hp), fun k o' e => ?_⟩
  rotate_right
  · by_cases hk : k = b
    · subst hk; rw [GH.add_self] at e; obtain rfl := Option.some.inj e; exact .inr (h.cells _ (List.mem_of_getElem? hi))
    · rw [GH.add_ne _ _ hk] at e; exact h.gc k o' e
  · by_cases hk : k = b
    · subst hk; rw [GH.add_self] at e; obtain rfl := Option.some.inj e; exact hbo.1
    · rw [GH.add_ne _ _ hk] at e; exact h.fits k o' e
  · rw [GH.add_ne _ _ (fun e2 => hbo.2.2.2 (by rw [e, ← e2]))]; exact h.pre.apart k e
  · by_cases hk : k = b
    · subst hk; exact .inr hbo.2.1
    · rw [GH.add_ne _ _ hk] at e; exact h.new k o' e
  · obtain ⟨a1, a2, a3, a4⟩ := h.own p (hsub p hp)
    exact ⟨a1, a2, by rw [GH.add_ne _ _ (hneb p hp)]; exact a3, a4⟩
  · obtain ⟨h1, h2⟩ := h.rows r hr
    refine ⟨h1, fun g hg => ⟨?_, (h2 g hg).2⟩⟩
    rw [GH.add_ne _ _ (fun e => h.rowsL r hr _ (List.mem_of_getElem? hi) (by rw [hg, e]))]; exact (h2 g hg).1

/-- Some of the call's own blocks are let go. -/
theorem St.sub (h : St w0 H0 m c d w H L R) {L' : List (Nat × Obj)} (hs : L'.Sublist L) : St w0 H0 m c d w H L' R :=
  ⟨h.pre, h.keep, h.le, h.new, fun p hp => h.own p (hs.subset hp), h.nodup.sublist hs, h.rows, fun r hr p hp => h.rowsL r hr p (hs.subset hp), h.rowsR, fun p hp => h.cells p (hs.subset hp), h.gc⟩
theorem St.subR (h : St w0 H0 m c d w H L R) {R' : List Row} (hs : R'.Sublist R) : St w0 H0 m c d w H L R' :=
  ⟨h.pre, h.keep, h.le, h.new, h.own, h.nodup, fun r hr => h.rows r (hs.subset hr), fun r hr p hp => h.rowsL r (hs.subset hr) p hp, h.rowsR.sublist hs, h.cells, h.gc⟩

/-! ### In a walk -/
theorem St.k_alloc (h : St w0 H0 m c d w H L R) {K : Act → World → Prop} {a : Act} {cs : Array Value} {T : TypeId} (hk : ∀ w', St w0 H0 m c d w' H (L ++ [(w.heap.size, .cells cs T)]) R → K a w') : K a (w.alloc (.cells cs T)) := hk _ (h.alloc _ rfl)
theorem St.k_set (h : St w0 H0 m c d w H L R) (i : Nat) {b j : Nat} {cs : Array Value} {T : TypeId} {v : Value} {K : Act → World → Prop} {a : Act} (hi : L[i]? = some (b, .cells cs T))
    (hk : ∀ w', St w0 H0 m c d w' H (L.set i (b, .cells (cs.setIfInBounds j v) T)) R → K a w') : K a (w.setCell ⟨b, j, none⟩ v) := hk _ (h.set hi j v)

/-- What is known of a world while a drawn region goes. -/
def Sat (w : World) (H : GH) (L : List (Nat × Obj)) : Prop := Fits w H ∧ ∀ p ∈ L, w.heap[p.1]? = some p.2
def sel (L : List (Nat × Obj)) (idx : List Nat) : List (Nat × Obj) := idx.filterMap (L[·]?)
theorem St.sat (h : St w0 H0 m c d w H' L R) (hl : H.le H') (idx : List Nat) : Sat w H (sel L idx) :=
  ⟨h.fits.le hl, fun p hp => by
    obtain ⟨i, _, hi⟩ := List.mem_filterMap.1 hp
    exact (h.own p (List.mem_of_getElem? hi)).1⟩
theorem St.sat' (h : St w0 H0 m c d w H' L R) (hl : H.le H') (idx : List Nat) {S : List (Nat × Obj)} (he : sel L idx = S) : Sat w H S := he ▸ h.sat hl idx
theorem Sat.cell (h : Sat w H L) (i : Nat) {b : Nat} {cs : Array Value} {T : TypeId} {f : Nat × Nat} {v : Value} (hi : L[i]? = some (b, .cells cs T f)) (j : Nat) (hj : cs[j]? = some v) : w.cell? ⟨b, j, none⟩ = some v := by
  rw [blk_cell (h.2 _ (List.mem_of_getElem? hi))]; exact hj
theorem Sat.gh (h : Sat w H L) {b : Nat} {cs : Array Value} {T : TypeId} {f : Nat × Nat} {v : Value} (hb : H b = some (.cells cs T f)) (j : Nat) (hj : cs[j]? = some v) : w.cell? ⟨b, j, none⟩ = some v := by
  rw [blk_cell (h.1 _ _ hb)]; exact hj

/-- A region that draws its order. -/
theorem St.region {P : Program} {Q : Exit → Act → World → Prop} {id : Nat} {a : Act} {l : List Oper} (h : St w0 H0 m c d w H L R) (idx : List Nat) (r : List (Nat × Bool)) (hm : P.follows .mixedOrders = true)
    (hb : (Region.noSelect l.toArray && decide (r.length = l.toArray.size) && ordB l.toArray r (Array.replicate l.toArray.size false)) = true)
    (hk : ∀ w', St w0 H0 m c d w' H L R → wpOrd P l.toArray Q (fun w' => Sat w' H (sel L idx)) (ordOps l r) a w') : (Code.region id l.toArray true).wp P Q a w :=
  wp_region_ord _ r hm hb (h.drew.sat (GH.le_refl _) idx) (hk _ h.drew)
end
end Go.Proofs.YteigmfkkeofcaaaGreatDoor
