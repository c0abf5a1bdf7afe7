/-
Rows of trees of the call's own, turned round, and without one; what is read of such a row by a callee.
-/
import Derived.Test.YteigmfkkeofcaaaGreatDoorOcRank
import Derived.Test.YteigmfkkeofcaaaGreatDoorKbRow
import Derived.Shelf.SlicesE.Delete
import Derived.Shelf.SlicesE.Reverse
import Derived.Lib.OwnBridge
namespace Go.Proofs.YteigmfkkeofcaaaGreatDoor
open Go Go.RowKit Go.Sort
set_option linter.unusedVariables false

/-- A callee that was lent a row: what it saw as settled is the call's own again. -/
theorem Post.peek {w w' : World} {H H1 H2 : GH} {m : Option Nat} {c d c' d' : Int} (hp : Post w H1 m w' H2 c' d') (hl : H.le H1) (ha : ∀ b, m = some b → H b = none) : Post w H m w' H c' d' :=
  ⟨hp.keep, GH.le_refl _, fun _ _ e => .inl e, fun _ _ e => .inl e, ⟨hp.pre.fits.le (hl.trans hp.le), hp.pre.meter, ha⟩⟩
section
variable {w0 w : World} {H0 H : GH} {m : Option Nat} {c d : Int} {L : List (Nat × Obj)} {R : List Row}
theorem St.putRow (h : St w0 H0 m c d w H L R) (i : Nat) {g n cap k q : Nat} {e : TypeId} {zs ys : List (Option Addr)} (hi : R[i]? = some ⟨.slice (some ⟨g, 0, none⟩) n cap, e, 1, n, zs.map .pointer⟩) (hy : ys.length = n) (hk : k ≤ n) :
    St w0 H0 m c d (putRow Value.pointer (Sort.ahead w q) g 0 ys.toArray) H L (R.set i ⟨.slice (some ⟨g, 0, none⟩) k cap, e, 1, k, (ys.take k).map .pointer⟩) := by
  refine h.rowGrown hi (Lib.ownsRow_putRow (h.rows _ (List.mem_of_getElem? hi)).1 hy hk) ?_ (fun g hg => .inl hg)
  refine ⟨rfl, rfl, rfl, by simp [Sort.putRow, mapBlock, Sort.ahead], fun k _ hne => ?_⟩
  have : g ≠ k := fun e => hne (by rw [e]; rfl)
  simp [Sort.putRow, mapBlock, Sort.ahead, Array.getElem?_modify, this]
theorem reverse_ok (h : St w0 H0 m c d w H L R) (i : Nat) {v : Value} {ks : List (Option Addr)} (hn : ks.length < 1000000) (hi : R[i]? = some ⟨v, 94, 1, ks.length, ks.map .pointer⟩) :
    Calls Tryz.prog 62 #[v] w fun e w' => (∃ u, e = .returned u) ∧ St w0 H0 m c d w' H L (R.set i ⟨v, 94, 1, ks.length, ks.reverse.map .pointer⟩) := by
  have hr : w.ownsRow w0.heap.size 94 1 v ks.length (ks.map .pointer) := (h.rows _ (List.mem_of_getElem? hi)).1
  by_cases hv : v = .slice none 0 0
  · have hk : ks = [] := by
      rcases hr.2 with ⟨_, e2⟩ | ⟨g, cap, cur, e, _⟩
      · exact List.eq_nil_of_length_eq_zero e2
      · have e' : v = _ := e
        rw [hv] at e'; cases e'
    subst hk hv
    refine (AnyE.slices_Reverse_empty Tryz.slRev none 0 w).mono ?_
    rintro e w' ⟨rfl, rfl⟩
    refine ⟨⟨_, rfl⟩, ?_⟩
    have : R.set i ⟨.slice none 0 0, 94, 1, ([] : List (Option Addr)).length, ([] : List (Option Addr)).reverse.map .pointer⟩ = R := List.ext_getElem? fun j => by
      by_cases hj : i = j
      · subst hj; rw [List.getElem?_set_self (List.getElem?_eq_some_iff.1 hi).1, hi]; rfl
      · rw [List.getElem?_set_ne hj]
    rw [this]
    exact h
  · obtain ⟨g, cap, rfl, _, _, _, _, _, hH⟩ := Lib.holds_of_ownsRow hr hv
    have := AnyE.slices_Reverse Tryz.slRev Value.pointer (fun _ => rfl) g 0 cap ks w hH (by omega)
    refine this.mono ?_
    rintro e w' ⟨rfl, q, rfl⟩
    refine ⟨⟨_, rfl⟩, ?_⟩
    have h1 := h.putRow i (q := q) (k := ks.length) (ys := ks.reverse) hi (by simp) (Nat.le_refl _)
    rw [List.take_of_length_le (by simp)] at h1
    exact h1
theorem delete_ok (h : St w0 H0 m c d w H L R) (i : Nat) {v : Value} {ks : List (Option Addr)} (j j1 : Nat) (hj1 : Hid (j1 = j + 1)) (hn : ks.length < 1000000) (hj : j < ks.length) (hi : R[i]? = some ⟨v, 94, 1, ks.length, ks.map .pointer⟩) :
    Calls Tryz.prog 63 #[v, .int .i64 (j : Int), .int .i64 (j1 : Int)] w fun e w' => ∃ u, e = .returned u ∧ St w0 H0 m c d w' H L (R.set i ⟨u, 94, 1, (ks.eraseIdx j).length, (ks.eraseIdx j).map .pointer⟩) := by
  obtain rfl : j1 = j + 1 := hj1.out
  have hr : w.ownsRow w0.heap.size 94 1 v ks.length (ks.map .pointer) := (h.rows _ (List.mem_of_getElem? hi)).1
  have hv : v ≠ .slice none 0 0 := fun hv => by
    rcases hr.2 with ⟨_, e2⟩ | ⟨g, cap, cur, e, _⟩
    · have e2' : ks.length = 0 := e2
      omega
    · have e' : v = _ := e
      rw [hv] at e'; cases e'
  obtain ⟨i0, hi0, hz0, hz1, hz2⟩ := infoTr.info
  obtain ⟨g, cap, rfl, _, _, hcap, hmax, _, hH⟩ := Lib.holds_of_ownsRow hr hv
  have := AnyE.slices_Delete Tryz.slDel Value.pointer (fun _ => rfl) none (fun w => Tryz.zeroValue94 w) i0 hi0 hz1 g 0 cap j (j + 1) ks.toArray w hH (by simpa using hcap) (by unfold maxLen at hmax; omega) (by omega) (by simp; omega)
  refine this.mono ?_
  rintro e w' ⟨rfl, q, rfl⟩
  refine ⟨_, rfl, ?_⟩
  have hl : (ks.eraseIdx j).length = ks.length - 1 := by rw [List.length_eraseIdx]; simp [hj]
  have h1 := h.putRow i (q := q) (k := ks.length - 1) (ys := ks.take j ++ ks.drop (j + 1) ++ List.replicate 1 none) hi (by simp; omega) (by omega)
  have e2 : (ks.take j ++ ks.drop (j + 1) ++ List.replicate 1 none).take (ks.length - 1) = ks.eraseIdx j := by
    rw [List.eraseIdx_eq_take_drop_succ, List.take_append_of_le_length (by simp; omega), List.take_of_length_le (by simp; omega)]
  rw [e2] at h1
  rw [hl]
  have e3 : j + 1 - j = 1 := by omega
  simp only [List.size_toArray, e3]
  exact h1
end
end Go.Proofs.YteigmfkkeofcaaaGreatDoor
