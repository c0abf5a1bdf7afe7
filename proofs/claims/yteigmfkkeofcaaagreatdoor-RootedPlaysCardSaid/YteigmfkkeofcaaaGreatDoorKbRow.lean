/-
A row grows by a slice, whatever the slice's length.
-/
import Derived.Test.YteigmfkkeofcaaaGreatDoorGbUon
import Derived.Deep.Upon
namespace Go.Proofs.YteigmfkkeofcaaaGreatDoor
open Go Go.RowKit
set_option linter.unusedVariables false
section
variable {w0 w w' : World} {H0 H H' : GH} {m : Option Nat} {c d c' d' : Int} {L : List (Nat × Obj)} {R : List Row}

theorem St.op_append_rep (h : St w0 H0 m c d w H L R) (i : Nat) {v : Value} {e : TypeId} {size n : Nat} {xs : List Value} (hi : R[i]? = some ⟨v, e, size, n, xs⟩)
    {P : Program} {o : Oper} {a : Act} {K : Act → World → Prop} {Q : Exit → Act → World → Prop} {s x : Operand} {t : TypeId} (ho : o.op = .call { callee := .builtin .append, args := #[s, x], argTypes := #[t, t] })
    {z : Value} {bytes : Nat} (hI : ElemInfo P t e z size bytes) (hs : a.eval s = v) {u : Value} {k : Nat} (news : List Value) (hx : a.eval x = u) (hr : SliceRep H size u k news)
    (h1 : ∀ u ∈ news, u.oneCell' = true) (hb : (n + k) * bytes ≤ 140737488355328) (h63 : n + k ≤ maxLen)
    (hk : ∀ v' w', St w0 H0 m c d w' H L (R.set i ⟨v', e, size, n + k, xs ++ news⟩) → K (a.put o.dst v') w') : o.wp P a w K Q := by
  by_cases hz : k = 0
  · subst hz
    obtain ⟨al, cl, rfl, _⟩ := hr.nil_or
    have hn : news = [] := List.eq_nil_of_length_eq_zero (by simpa using hr.1)
    subst hn
    obtain ⟨inf, hinf, hz, hsz, hby⟩ := hI.info
    obtain ⟨hr1, hr2⟩ := h.rows _ (List.mem_of_getElem? hi)
    simp only at hr1 hr2
    obtain ⟨base, cp, rfl, hcp⟩ : ∃ base cp, v = .slice base n cp ∧ n ≤ cp := by
      rcases hr1.2 with ⟨rfl, rfl⟩ | ⟨g, cap, cur, rfl, _, _, hnc, _⟩
      · exact ⟨none, 0, rfl, by omega⟩
      · exact ⟨_, cap, rfl, hnc⟩
    have hsrc : Src P inf.size t (.slice al 0 cl) 0 [] w := by
      cases al with
      | none => exact Src.ofNil w hI.under cl
      | some ad => exact Src.ofSlice w hI.under ad 0 cl [] (by simp) (fun j u hj => by simp at hj) (fun _ h => by cases h)
    have hrun := run_append_nothing w t t o.type e inf hI.under hinf base n cp hcp _ hsrc
    have hset : R.set i ⟨.slice base n cp, e, size, n + 0, xs ++ []⟩ = R := by
      rw [List.append_nil, Nat.add_zero]
      exact List.ext_getElem? fun j => by
        by_cases hj : i = j
        · subst hj; rw [List.getElem?_set_self (List.getElem?_eq_some_iff.1 hi).1, hi]
        · rw [List.getElem?_set_ne hj]
    have := hk (.slice base n cp) w (by rw [hset]; exact h)
    unfold Oper.wp execOp
    simp only [ho, resolve, invoke, builtin, Sem.run_bind, Sem.run_pure, Result.andThen_ok, List.map_toArray, List.map_cons, List.map_nil, hs, hx, hrun]
    exact this
  · obtain ⟨b, off, cap, rfl, _, _⟩ := hr.ne_nil (by omega)
    exact h.op_append i hi ho hI hs news hx hr.1 (fun j u hj => by
      have e := hr.cell h.fits j hj
      unfold Addr.add
      split
      · rename_i h0; subst h0; exact e
      · exact e) h1 hb h63 (fun v' w' hS _ _ => hk v' w' hS)

/-- An element of a row of the call's own. -/
theorem St.rowcell (h : St w0 H0 m c d w H L R) (i : Nat) {g n cap size : Nat} {e : TypeId} {xs : List Value} (hi : R[i]? = some ⟨.slice (some ⟨g, 0, none⟩) n cap, e, size, n, xs⟩) (j : Nat) {u : Value} (hj : xs[j]? = some u) : w.cell? ⟨g, j, none⟩ = some u := by
  have hr := (h.rows _ (List.mem_of_getElem? hi)).1
  have e := hr.cells (g := g) rfl j u hj
  unfold Addr.add at e
  split at e
  · rename_i h0; subst h0; exact e
  · simpa using e

theorem St.rowfree (h : St w0 H0 m c d w H L R) (i : Nat) {g n cap size : Nat} {e : TypeId} {xs : List Value} (hi : R[i]? = some ⟨.slice (some ⟨g, 0, none⟩) n cap, e, size, n, xs⟩) (j : Nat) : w.frozen? ⟨g, j, none⟩ = false := by
  rcases (h.rows _ (List.mem_of_getElem? hi)).1.2 with ⟨hv, _⟩ | ⟨g', cap', cur, hv, _, hg, _⟩
  · cases hv
  · simp only [Value.slice.injEq, Option.some.injEq, Addr.mk.injEq] at hv
    obtain ⟨⟨rfl, _⟩, _⟩ := hv
    exact blk_free hg j

/-- .. is set. -/
theorem St.setRow (h : St w0 H0 m c d w H L R) (i : Nat) {g n cap size : Nat} {e : TypeId} {xs : List Value} (hi : R[i]? = some ⟨.slice (some ⟨g, 0, none⟩) n cap, e, size, n, xs⟩) (j : Nat) (u : Value) :
    St w0 H0 m c d (w.setCell ⟨g, j, none⟩ u) H L (R.set i ⟨.slice (some ⟨g, 0, none⟩) n cap, e, size, n, xs.set j u⟩) := by
  have hr := (h.rows _ (List.mem_of_getElem? hi)).1
  refine h.rowGrown hi ?_ ?_ (fun g hg => .inl hg)
  · refine ⟨by rw [List.length_set]; exact hr.1, .inr ?_⟩
    rcases hr.2 with ⟨hv, _⟩ | ⟨g', cap', cur, hv, h1, h2, h3, h4, h5, h6⟩
    · cases hv
    · simp only [Value.slice.injEq, Option.some.injEq, Addr.mk.injEq] at hv
      obtain ⟨⟨rfl, _⟩, _, rfl⟩ := hv
      refine ⟨g, cap, cur.setIfInBounds j u, rfl, h1, blk_set u h2, h3, h4, by simpa using h5, ?_⟩
      rw [Array.toList_setIfInBounds, List.take_set]
      exact congrArg (·.set j u) h6
  · exact ⟨rfl, rfl, rfl, (KeepsWalks.setCell w _ u).size, fun k _ hk => Below.heap_setCell _ _ _ k (fun e => hk (by rw [e]; rfl))⟩
end
end Go.Proofs.YteigmfkkeofcaaaGreatDoor
