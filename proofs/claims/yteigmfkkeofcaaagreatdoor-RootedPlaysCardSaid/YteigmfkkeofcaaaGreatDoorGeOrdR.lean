/-
A region that draws its order and reads rows of the call's own.
-/
import Derived.Test.YteigmfkkeofcaaaGreatDoorGdOrdS
import Derived.Test.YteigmfkkeofcaaaGreatDoorGcOrd2
import Derived.Test.YteigmfkkeofcaaaGreatDoorKbRow
namespace Go.Proofs.YteigmfkkeofcaaaGreatDoor
open Go Go.RowKit
set_option linter.unusedVariables false

/-- What is known of a world while such a region goes: blocks, and rows. -/
def SatR (B : Nat) (w : World) (H : GH) (L : List (Nat × Obj)) (R : List Row) : Prop := Sat w H L ∧ ∀ r ∈ R, w.ownsRow B r.e r.size r.v r.n r.xs
def selR (R : List Row) (idx : List Nat) : List Row := idx.filterMap (R[·]?)
section
variable {w0 w : World} {H0 H H' : GH} {m : Option Nat} {c d : Int} {L : List (Nat × Obj)} {R : List Row}
theorem St.satR (h : St w0 H0 m c d w H' L R) (hl : H.le H') (idx ir : List Nat) : SatR w0.heap.size w H (sel L idx) (selR R ir) :=
  ⟨h.sat hl idx, fun r hr => by
    obtain ⟨i, _, hi⟩ := List.mem_filterMap.1 hr
    exact (h.rows r (List.mem_of_getElem? hi)).1⟩
theorem St.satR' (h : St w0 H0 m c d w H' L R) (hl : H.le H') (idx ir : List Nat) {S : List (Nat × Obj)} {T : List Row} (he : sel L idx = S) (ht : selR R ir = T) : SatR w0.heap.size w H S T := he ▸ ht ▸ h.satR hl idx ir
theorem SatR.fits {B : Nat} (h : SatR B w H L R) : Fits w H := h.1.1
theorem SatR.cell {B : Nat} (h : SatR B w H L R) (i : Nat) {b : Nat} {cs : Array Value} {T : TypeId} {f : Nat × Nat} {v : Value} (hi : L[i]? = some (b, .cells cs T f)) (j : Nat) (hj : cs[j]? = some v) : w.cell? ⟨b, j, none⟩ = some v := h.1.cell i hi j hj
theorem SatR.gh {B : Nat} (h : SatR B w H L R) {b : Nat} {cs : Array Value} {T : TypeId} {f : Nat × Nat} {v : Value} (hb : H b = some (.cells cs T f)) (j : Nat) (hj : cs[j]? = some v) : w.cell? ⟨b, j, none⟩ = some v := h.1.gh hb j hj
theorem SatR.rowcell {B : Nat} (h : SatR B w H L R) (i : Nat) {g n cap size : Nat} {e : TypeId} {xs : List Value} (hi : R[i]? = some ⟨.slice (some ⟨g, 0, none⟩) n cap, e, size, n, xs⟩) (j : Nat) {u : Value} (hj : xs[j]? = some u) : w.cell? ⟨g, j, none⟩ = some u := by
  have hr := h.2 _ (List.mem_of_getElem? hi)
  have e := hr.cells (g := g) rfl j u hj
  unfold Addr.add at e
  split at e
  · rename_i h0; subst h0; exact e
  · simpa using e
theorem St.regionR {P : Program} {Q : Exit → Act → World → Prop} {id : Nat} {a : Act} {l : List Oper} (h : St w0 H0 m c d w H L R) (idx ir : List Nat) (r : List (Nat × Bool)) (hm : P.follows .mixedOrders = true)
    (hb : (Region.noSelect l.toArray && decide (r.length = l.toArray.size) && ordB l.toArray r (Array.replicate l.toArray.size false)) = true)
    (hk : ∀ w', St w0 H0 m c d w' H L R → wpOrd P l.toArray Q (fun w' => SatR w0.heap.size w' H (sel L idx) (selR R ir)) (ordOps l r) a w') : (Code.region id l.toArray true).wp P Q a w :=
  wp_region_ord _ r hm hb (h.drew.satR (GH.le_refl _) idx ir) (hk _ h.drew)
/-- .. by a tree of orders. -/
theorem St.regionTR {P : Program} {Q : Exit → Act → World → Prop} {id : Nat} {a : Act} {l : List Oper} (h : St w0 H0 m c d w H L R) (idx ir : List Nat) (t : OT) (hm : P.follows .mixedOrders = true)
    (hb : (Region.noSelect l.toArray && decide (t.len = l.toArray.size) && ordT l.toArray t none (Array.replicate l.toArray.size false)) = true)
    (hk : ∀ w', St w0 H0 m c d w' H L R → wpT P l.toArray Q (fun w' => SatR w0.heap.size w' H (sel L idx) (selR R ir)) (t.ops l) a w') : (Code.region id l.toArray true).wp P Q a w := by
  simp only [Bool.and_eq_true, decide_eq_true_eq] at hb
  refine wp_region_held (S := fun w' => SatR w0.heap.size w' H (sel L idx) (selR R ir)) hm ?_
  have := (wpAnyH_of_tree hb.1.1 t _ a w.drew (h.drew.satR (GH.le_refl _) idx ir) (hk _ h.drew)).1 hb.2
  rw [hb.1.2] at this
  exact this
end
end Go.Proofs.YteigmfkkeofcaaaGreatDoor
