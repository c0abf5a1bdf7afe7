/-
Texts joined.
-/
import Derived.Test.YteigmfkkeofcaaaGreatDoorNcText
namespace Go.Proofs.YteigmfkkeofcaaaGreatDoor
open Go Go.RowKit
set_option linter.unusedVariables false

theorem St.row_form {w0 w : World} {H0 H : GH} {m : Option Nat} {c d : Int} {L : List (Nat × Obj)} {R : List Row} (h : St w0 H0 m c d w H L R) (i : Nat) {v : Value} {e : TypeId} {size n : Nat} {xs : List Value} (hi : R[i]? = some ⟨v, e, size, n, xs⟩) : ∃ a cap, v = .slice a n cap := by
  rcases (h.rows _ (List.mem_of_getElem? hi)).1.2 with ⟨h1, h2⟩ | ⟨g, cap, cur, h1, _⟩
  · have h1' : v = .slice none 0 0 := h1
    have h2' : n = 0 := h2
    exact ⟨none, 0, by rw [h1', h2']⟩
  · exact ⟨_, _, h1⟩
theorem einfoS : ElemInfo Tryz.prog 124 9 (.string ⟨#[]⟩) 1 16 :=
  ⟨Tryz.underlying124, info_parts (by kernel_rfl), rfl, by decide⟩
/-- A string as a cell. -/
abbrev strV (s : List UInt8) : Value := .string ⟨s.toArray⟩
theorem join_ok (H : GH) (w : World) (b o n c : Nat) (xs : List (List UInt8)) (sep : List UInt8) (hf : Fits w H) (hr : SliceRep H 1 (.slice (some ⟨b, o, none⟩) n c) n (xs.map strV)) (hn : n = xs.length) (h0 : 0 < n) (hN : n ≤ 100000000) (hl : (Lib.join xs sep).length ≤ 140737488355328) :
    Calls Tryz.prog 70 #[.slice (some ⟨b, o, none⟩) n c, .string ⟨sep.toArray⟩] w fun e w' => e = .returned (.string ⟨(Lib.join xs sep).toArray⟩) ∧ Keep none w w' := by
  have hxs : (xs.map fun s => (⟨s.toArray⟩ : ByteArray)).map (·.data.toList) = xs := by
    rw [List.map_map]
    conv => rhs; rw [← List.map_id xs]
    exact List.map_congr_left fun _ _ => rfl
  obtain ⟨_, _, _, e, hc, hm⟩ := hr.ne_nil h0
  simp only [Value.slice.injEq, Option.some.injEq, Addr.mk.injEq, true_and] at e
  obtain ⟨_, rfl⟩ := e
  have hb : b < w.heap.size := by
    rcases hr.2 with ⟨h, _⟩ | ⟨b', off', cap', cs, T, f, h1, h2, h3, h4, h5⟩
    · omega
    · simp only [Value.slice.injEq, Option.some.injEq, Addr.mk.injEq] at h1
      obtain ⟨⟨rfl, _⟩, _⟩ := h1
      exact hf.lt h4
  subst hn
  have key := Tryz.strings_Join b o c (xs.map fun s => (⟨s.toArray⟩ : ByteArray)) ⟨sep.toArray⟩ w (fun j x hj => by
    rw [List.getElem?_map] at hj
    obtain ⟨s, hs, rfl⟩ := Option.map_eq_some_iff.1 hj
    exact hr.cell hf j (by rw [List.getElem?_map, hs]; rfl)) hb (by simp; omega) (by simpa using hc) (by rw [hxs]; exact hl)
  rw [List.length_map, hxs] at key
  exact key.mono fun e w' ⟨h1, h2⟩ => ⟨h1, Keep.of_below h2⟩
theorem toList_mk (l : List UInt8) : (ByteArray.mk l.toArray).data.toList = l := rfl

end Go.Proofs.YteigmfkkeofcaaaGreatDoor
