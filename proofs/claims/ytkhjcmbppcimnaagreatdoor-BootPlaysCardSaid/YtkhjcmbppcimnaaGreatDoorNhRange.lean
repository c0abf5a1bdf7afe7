/-
A loop over an iterator that writes memory of its own, and whose body goes on each time: one walk of the body, one of the iterator.
-/
import Derived.Test.YtkhjcmbppcimnaaGreatDoorGbTow
import Derived.RangeFuncNested
import Derived.WalkSmall
namespace Go.Proofs.YtkhjcmbppcimnaaGreatDoor
open Go Go.RowKit
set_option linter.unusedVariables false

/-- All below is as it was. -/
structure SameBelow (B : Nat) (A A' : World) : Prop where
  os : A'.os = A.os
  tape : A'.tape = A.tape
  output : A'.output = A.output
  block : ∀ k, k < B → A'.heap[k]? = A.heap[k]?
theorem SameBelow.refl (B : Nat) (A : World) : SameBelow B A A := ⟨rfl, rfl, rfl, fun _ _ => rfl⟩
theorem SameBelow.trans {B : Nat} {A A' A'' : World} (h : SameBelow B A A') (k : SameBelow B A' A'') : SameBelow B A A'' :=
  ⟨k.os.trans h.os, k.tape.trans h.tape, k.output.trans h.output, fun i hi => (k.block i hi).trans (h.block i hi)⟩
theorem SameBelow.less {B B' : Nat} {A A' : World} (h : SameBelow B A A') (hl : B' ≤ B) : SameBelow B' A A' := ⟨h.os, h.tape, h.output, fun k hk => h.block k (by omega)⟩
theorem SameBelow.alloc (A : World) (o : Obj) {B : Nat} (hB : B ≤ A.heap.size) : SameBelow B A (A.alloc o) := ⟨rfl, rfl, rfl, fun k hk => Below.heap_alloc A o k (by omega)⟩
theorem SameBelow.putObj (A : World) {l B : Nat} (o : Obj) (hl : B ≤ l) : SameBelow B A (A.putObj l o) := ⟨rfl, rfl, rfl, fun k hk => World.putObj_heap_other (by omega)⟩
/-- All from there on is as it was. -/
structure SameFrom (B : Nat) (A A' : World) : Prop where
  size : A.heap.size ≤ A'.heap.size
  block : ∀ k o, B ≤ k → A.heap[k]? = some o → A'.heap[k]? = some o
theorem SameFrom.refl (B : Nat) (A : World) : SameFrom B A A := ⟨Nat.le_refl _, fun _ _ _ h => h⟩
theorem SameFrom.trans {B : Nat} {A A' A'' : World} (h : SameFrom B A A') (k : SameFrom B A' A'') : SameFrom B A A'' := ⟨Nat.le_trans h.size k.size, fun i o hi e => k.block i o hi (h.block i o hi e)⟩
theorem SameFrom.more {B B' : Nat} {A A' : World} (h : SameFrom B A A') (hl : B ≤ B') : SameFrom B' A A' := ⟨h.size, fun k o hk e => h.block k o (by omega) e⟩
theorem SameFrom.putObj (A : World) {l B : Nat} (o : Obj) (hl : l < B) : SameFrom B A (A.putObj l o) := ⟨by simp, fun k o' hk e => (World.putObj_heap_other (by omega)).trans e⟩

/-! ### The least number of which a thing is true: what a loop counts down -/
theorem least_ex {p : Nat → Prop} (h : ∃ n, p n) : ∃ n, p n ∧ ∀ m, p m → n ≤ m := by
  obtain ⟨n, hn⟩ := h
  induction n using Nat.strongRecOn with
  | _ n ih =>
    by_cases hm : ∃ m, m < n ∧ p m
    · obtain ⟨m, h1, h2⟩ := hm
      exact ih m h1 h2
    · exact ⟨n, hn, fun m hp => by
        rcases Nat.lt_or_ge m n with h1 | h1
        · exact (hm ⟨m, h1, hp⟩).elim
        · exact h1⟩
open Classical in
noncomputable def leastOf (p : Nat → Prop) : Nat := if h : ∃ n, p n then Classical.choose (least_ex h) else 0
theorem leastOf_spec {p : Nat → Prop} (h : ∃ n, p n) : ∃ n, p n ∧ leastOf p = n := by
  refine ⟨leastOf p, ?_, rfl⟩
  unfold leastOf
  rw [dif_pos h]
  exact (Classical.choose_spec (least_ex h)).1
theorem leastOf_le {p : Nat → Prop} {n : Nat} (hn : p n) : leastOf p ≤ n := by
  have h : ∃ n, p n := ⟨n, hn⟩
  unfold leastOf
  rw [dif_pos h]
  exact (Classical.choose_spec (least_ex h)).2 n hn

variable {F : Fence} {n : Nat} {P : Program}
theorem wpIn_range_count {g : Operand} {t : Tmp} {assign body : Code} {Q : Exit → Act → World → Prop} {a : Act} {w : World}
    (hro : F.round = none) (h1 : 1 ≤ n) {gf : Nat} {lb : Array Value} (hg : a.eval g = .func (.func gf) #[] lb) (hFg : F.fn gf) (eg : ∀ args w, (callFunc gf args).run P w = .ok (.enter gf args) w)
    {N : Nat} (I : Nat → World → Prop) (P0 : World → Prop) (hP : ∀ k A, I k A → P0 A) (hI : ∀ k A A', I k A → SameBelow w.heap.size A A' → I k A') (h0 : I 0 w)
    (hseq : ∀ (l : Nat) (J : Nat → World → Prop) (W : World), SameBelow w.heap.size w W → (∀ k A A', J k A → SameBelow W.heap.size A A' → J k A') →
      (∀ k (x : Value) A, J k A → k < N → YieldAt F (n - 1 - 1) P l #[x] A fun e A' => e = .returned (.bool true) ∧ J (k + 1) A' ∧ SameFrom W.heap.size A A') →
      (∀ k A, J k A → P0 A) → J 0 W → CallsIn F (n - 1) P gf (#[.func (.yield l) #[] #[]] ++ lb) W fun e A' => (∃ v, e = .returned v) ∧ J N A')
    (a1 : Value → Act)
    (hassign : ∀ (l : Nat) (x : Value) (A : World) (K : Act → World → Prop), K (a1 x) A → assign.wpIn (F.inRound l) (n - 1 - 1) P (Exit.then K (fun _ _ _ => False)) { tmps := a.tmps.setIfInBounds t x, defers := [] } A)
    (hbody : ∀ (l k : Nat) (x : Value) (A : World), I k A → k < N → body.wpIn (F.inRound l) (n - 1 - 1) P (fun e _ A' => e = .normal ∧ I (k + 1) A' ∧ SameFrom w.heap.size A A') (a1 x) A)
    (hdone : ∀ (D : Nat) (A : World), w.heap.size ≤ D → I N A → A.heap[D]? = some (.deferred (some [])) → Q .normal { a with defers := { target := .collected D, args := #[] } :: a.defers } A) :
    (Code.rangeFunc g #[t] assign body).wpIn F n P Q a w := by
  refine wpIn_rangeFunc fun fn hfn => ?_
  rw [hro]
  obtain ⟨rec, hrec⟩ : ∃ rec : LoopState → Option Code → Loop, rec = fun st pe => { state := st, pending := pe, fn, tmps := a.tmps, params := #[t], assign, body, defers := w.heap.size } := ⟨_, rfl⟩
  obtain ⟨W1, hW1⟩ : ∃ W1, (w.alloc (.deferred (some []))).alloc (.loop (rec .ready none)) = W1 := ⟨_, rfl⟩
  have hsz : W1.heap.size = w.heap.size + 2 := by rw [← hW1]; simp
  have hL1 : W1.heap[w.heap.size + 1]? = some (.loop (rec .ready none)) := by
    rw [← hW1]
    have := World.alloc_heap_new (w.alloc (.deferred (some []))) (.loop (rec .ready none))
    rwa [World.size_alloc] at this
  have hD1 : W1.heap[w.heap.size]? = some (.deferred (some [])) := by
    rw [← hW1]
    exact (Below.heap_alloc _ _ _ (by simp)).trans (World.alloc_heap_new w _)
  have hb1 : SameBelow w.heap.size w W1 := by
    rw [← hW1]
    exact (SameBelow.alloc w _ (Nat.le_refl _)).trans (SameBelow.alloc _ _ (by simp))
  refine ⟨w.heap.size + 1, [{ target := .collected w.heap.size, args := #[] }], W1, { target := .fn (.func gf) lb, args := #[.func (.yield (w.heap.size + 1)) #[] #[]] }, W1, gf,
    #[.func (.yield (w.heap.size + 1)) #[] #[]] ++ lb, W1, ?_, ?_, ?_, ?_, fun _ => h1, ?_⟩
  · rw [← hW1, hrec]; exact run_enterLoop_outer _ _ _ _ _
  · simp only [resolve, hg]
    simp [go_sem]
  · intro f' hf'
    simp [Target.leads] at hf'
    subst hf'
    exact hFg
  · simp [invoke, go_sem, eg]
  · refine (hseq (w.heap.size + 1) (fun k A => I k A ∧ A.heap[w.heap.size + 1]? = some (.loop (rec .ready none)) ∧ A.heap[w.heap.size]? = some (.deferred (some []))) W1 hb1 ?_ ?_ (fun k A h => hP k A h.1) ⟨hI 0 w W1 h0 hb1, hL1, hD1⟩).mono ?_
    · rintro k A A' ⟨h2, h3, h4⟩ hs
      exact ⟨hI k A A' h2 (hs.less (by omega)), (hs.block _ (by omega)).trans h3, (hs.block _ (by omega)).trans h4⟩
    · rintro k x A ⟨hi, hl, hd⟩ hk
      have hy := run_yield (P := P) (args := #[x]) hl (by rw [hrec]; rfl)
      rw [hrec] at hy
      refine ⟨fn, _, assign, body, hy, roundIn_of_wpIn hfn ?_⟩
      have e : (#[t].zip #[x]).foldl (fun t (p, v) => t.setIfInBounds p v) a.tmps = a.tmps.setIfInBounds t x := by simp
      rw [e]
      refine hassign _ x A _ ?_
      have hlt : w.heap.size + 1 < A.heap.size := (Array.getElem?_eq_some_iff.1 hl).1
      refine ⟨_, run_beginRound hl (by rw [hrec]), ?_⟩
      have hl2 : (A.putObj (w.heap.size + 1) (.loop { rec .ready none with state := .busy })).heap[w.heap.size + 1]? = some (.loop { rec .ready none with state := .busy }) := World.putObj_heap_same hlt
      have hd2 : (A.putObj (w.heap.size + 1) (.loop { rec .ready none with state := .busy })).heap[w.heap.size]? = some (.deferred (some [])) := (World.putObj_heap_other (by omega)).trans hd
      refine wpIn_mono (hbody _ k x _ (hI k A _ hi (SameBelow.putObj A _ (by omega))) hk) ?_
      rintro e a3 A3 ⟨rfl, hi3, hs3⟩
      have hl3 := hs3.block _ _ (by omega) hl2
      have hd3 := hs3.block _ _ (Nat.le_refl _) hd2
      have hr := run_endRound (P := P) none hl3
      rw [hrec] at hr
      refine ⟨_, _, hr, rfl, ⟨hI _ _ _ hi3 (SameBelow.putObj _ _ (by omega)), ?_, ?_⟩, ?_⟩
      · rw [hrec]; exact World.putObj_heap_same (Array.getElem?_eq_some_iff.1 hl3).1
      · exact (World.putObj_heap_other (by omega)).trans hd3
      · exact ((SameFrom.putObj A _ (by omega)).trans (hs3.more (by omega))).trans (SameFrom.putObj _ _ (by omega))
    · rintro e A ⟨⟨v, rfl⟩, hi, hl, hd⟩
      refine ⟨none, A.putObj (w.heap.size + 1) (.loop { rec .ready none with state := .exhausted }), ?_, hdone w.heap.size _ (Nat.le_refl _) (hI _ _ _ hi (SameBelow.putObj _ _ (by omega))) ((World.putObj_heap_other (by omega)).trans hd)⟩
      have := run_endLoop (P := P) hl (by rw [hrec]; simp)
      rw [hrec] at this ⊢
      exact this

/-! ### An iterator's own state, begun anew behind each round -/
def cut (B : Nat) (A : World) : World := { A with heap := A.heap.extract 0 B }
theorem cut_size {B : Nat} {A : World} (h : B ≤ A.heap.size) : (cut B A).heap.size = B := by simp [cut]; omega
theorem cut_get {B k : Nat} {A : World} (h : k < B) : (cut B A).heap[k]? = A.heap[k]? := by
  simp [cut, Array.getElem?_extract]
  omega
section
variable {w0 w A : World} {H : GH} {L L' : List (Nat × Obj)} {R R' : List Row} {B : Nat}
theorem St.rebase (h : St w0 H none 0 0 w H L R) (hB : w0.heap.size = B) (hs : SameFrom B w A) (hf : Fits A H) : St (cut B A) H none 0 0 A H L R := by
  have hle : B ≤ A.heap.size := by rw [← hB]; exact Nat.le_trans h.keep.size hs.size
  have hsz := cut_size hle
  refine ⟨Pre.none hf 0 0, ⟨rfl, rfl, rfl, by rw [hsz]; exact hle, fun k hk _ => (cut_get (by omega)).symm⟩, GH.le_refl H, fun _ _ e => .inl e, fun p hp => ?_, h.nodup, fun r hr => ?_, h.rowsL, h.rowsR, h.cells, fun _ _ e => .inl e⟩
  · obtain ⟨h1, h2, h3, h4⟩ := h.own p hp
    exact ⟨hs.block _ _ (by omega) h1, by omega, h3, h4⟩
  · obtain ⟨h1, h2⟩ := h.rows r hr
    rw [hsz, ← hB]
    refine ⟨ownsRow_keep h1 (fun g hg => ?_), h2⟩
    have hl := h1.lt g hg
    obtain ⟨o, ho⟩ : ∃ o, w.heap[g]? = some o := ⟨w.heap[g]'hl.2, by simp⟩
    rw [ho]
    exact hs.block _ _ (by omega) ho
theorem St.same (h : St w0 H none 0 0 w H L R) (h' : St w0 H none 0 0 A H L' R') : SameBelow w0.heap.size w A :=
  ⟨h'.keep.os.trans h.keep.os.symm, h'.keep.tape.trans h.keep.tape.symm, h'.keep.output.trans h.keep.output.symm, fun k hk => (h'.keep.block k hk (by simp)).trans (h.keep.block k hk (by simp)).symm⟩
/-- A row's last thing is let go. -/
theorem St.rowPop (h : St w0 H none 0 0 w H L R) (i : Nat) {g n cap size : Nat} {e : TypeId} {xs last : List Value} (hi : R[i]? = some ⟨.slice (some ⟨g, 0, none⟩) (n + 1) cap, e, size, n + 1, xs ++ last⟩) (hx : xs.length = n * size) :
    St w0 H none 0 0 w H L (R.set i ⟨.slice (some ⟨g, 0, none⟩) n cap, e, size, n, xs⟩) :=
  h.rowGrown hi (ownsRow_pop hx (h.rows _ (List.mem_of_getElem? hi)).1) ⟨rfl, rfl, rfl, Nat.le_refl _, fun _ _ _ => rfl⟩ fun _ hg => .inl hg
theorem St.rowCap (h : St w0 H none 0 0 w H L R) (i : Nat) {g n cap size : Nat} {e : TypeId} {xs : List Value} (hi : R[i]? = some ⟨.slice (some ⟨g, 0, none⟩) n cap, e, size, n, xs⟩) : n ≤ cap ∧ cap ≤ maxLen := by
  rcases (h.rows _ (List.mem_of_getElem? hi)).1.2 with ⟨hv, _⟩ | ⟨g', cap', cur, hv, h1, h2, h3, h4, _⟩
  · cases hv
  · simp only [Value.slice.injEq] at hv
    obtain ⟨_, _, rfl⟩ := hv
    exact ⟨h3, h4⟩
theorem cut_self (A : World) : cut A.heap.size A = A := by simp [cut]
/-- A state whose own blocks all lie below is a state of every world that is the same below. -/
theorem St.below (h : St w0 H none 0 0 w H L []) (hw : w0.heap.size ≤ B) (hL : ∀ p ∈ L, p.1 < B) (hH : ∀ b o, H b = some o → b < B) (hs : SameBelow B w A) : St w0 H none 0 0 A H L [] := by
  have hsz : w0.heap.size ≤ A.heap.size := by
    rcases Nat.eq_zero_or_pos w0.heap.size with e | e
    · omega
    · have hkk := h.keep.size
      have hk := hs.block (w0.heap.size - 1) (by omega)
      have h1 : w.heap[w0.heap.size - 1]? = some (w.heap[w0.heap.size - 1]'(by omega)) := by simp
      rw [h1] at hk
      have := (Array.getElem?_eq_some_iff.1 hk).1
      omega
  refine ⟨Pre.none (fun b o e => ?_) 0 0, ⟨hs.os.trans h.keep.os, hs.tape.trans h.keep.tape, hs.output.trans h.keep.output, hsz, fun k hk hm => (hs.block k (by omega)).trans (h.keep.block k hk hm)⟩, h.le, h.new, fun p hp => ?_, h.nodup, fun r hr => by simp at hr, fun r hr => by simp at hr, List.Pairwise.nil, h.cells, h.gc⟩
  · exact (hs.block b (hH b o e)).trans (h.fits b o e)
  · obtain ⟨h1, h2, h3, h4⟩ := h.own p hp
    exact ⟨(hs.block _ (hL p hp)).trans h1, h2, h3, h4⟩
end
end Go.Proofs.YtkhjcmbppcimnaaGreatDoor
