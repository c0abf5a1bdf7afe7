/-
What the listed tables hold when the call begins, for every law of this seat.
-/
import Derived.Test.YtenhjgdflgcjnaaDoorRows
import Derived.Test.YtenhjgdflgcjnaaDoorNcText
import Derived.Test.YtenhjgdflgcjnaaDoorLaOpen
import Derived.ProofKit
import Derived.LaidMore
import Derived.OpenShut
import Derived.Stop.Joined
import Derived.Lib.LaidTab
namespace Go.Proofs.YtenhjgdflgcjnaaDoor
open Go Go.ChangeShapes Go.WideShapes Go.ChangeAt Go.RowKit
set_option linter.unusedVariables false

theorem own : ownKnob Tryd.prog.godebug = none := by kernel_rfl
theorem laidOut : laidOutB Tryd.prog = true := by kernel_rfl
def laid3 : List (String × DataW Unit) := [("math/bits.deBruijn32tab", Rows.laid_math_bits_deBruijn32tab), ("math/bits.deBruijn64tab", Rows.laid_math_bits_deBruijn64tab), ("internal/strconv.uint64pow10", Rows.laid_internal_strconv_uint64pow10)]
theorem door_met (os : Os) (args : Array Value) : laidMetH Tryd.prog laid3 ((World.doorLaid Tryd.prog 24 os).forCall (fun _ _ => 0) ⟨#[], args, []⟩).memory :=
  laidMetH_of_parts3 (fuel := 8) (laidMet_of_run' 8 (by kernel_rfl) (by kernel_rfl)) (by kernel_rfl) (by kernel_rfl)
theorem tabH_whole {W : World} (h : Lib.TabIs Tryd.prog W "internal/strconv.uint64pow10" .u64 Lib.pow10Tab) : TabH (wholeGH W) := by
  unfold Lib.TabIs World.var? at h
  obtain ⟨g, hg, h⟩ := Option.bind_eq_some_iff.1 h
  split at h
  · rename_i cs T f hb
    obtain rfl := Option.some.inj h
    exact ⟨g, T, f, hg, hb⟩
  · cases h
theorem tabH_of_laid {W : World} (h : laidMetH Tryd.prog laid3 W) : TabH (wholeGH W) := by
  rw [MakeChecks.laidMetH_plain _ _ _ (by kernel_rfl)] at h
  obtain ⟨ps, ⟨_, _, _, _, _, _, _, _, _, _, ⟨_, _, _, _, _, _, _, _, _, _, ⟨g2, t2, cs2, f2, p2, q2, hg2, ht2, hv2, hd2, _, _⟩, _⟩, _⟩, _⟩ := h
  have gN : Tryd.prog.globalNamed "internal/strconv.uint64pow10" = some 1 := by kernel_rfl
  have tN : (Tryd.prog.globals[1]?).map (·.type) = some 147 := by kernel_rfl
  obtain rfl := Option.some.inj (gN.symm.trans hg2)
  obtain rfl := Option.some.inj (tN.symm.trans ht2)
  refine tabH_whole ?_
  unfold Lib.TabIs
  have e := Lib.cells_of_tab (k := .u64) (zs := Lib.pow10Tab) Tryd.underlying147 Tryd.underlying139 (by kernel_rfl) (by kernel_rfl) hd2
  rw [hv2, ← e]
end Go.Proofs.YtenhjgdflgcjnaaDoor
