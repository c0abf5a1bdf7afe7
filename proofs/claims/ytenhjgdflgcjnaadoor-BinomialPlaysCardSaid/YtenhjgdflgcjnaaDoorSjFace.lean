/-
The document's binomial heaps, as every heap of the document is spoken of.
-/
import Derived.Test.YtenhjgdflgcjnaaDoorSiPop
import Derived.Test.YtenhjgdflgcjnaaDoorQbPlain
namespace Go.Proofs.YtenhjgdflgcjnaaDoor
open Go Go.RowKit
set_option linter.unusedVariables false

/-- A heap of the document, as cells. -/
def WvR (H : GH) (cs : List Value) (t : Hp) : Prop := ∃ q, cs = [q] ∧ RsV H q t
theorem WvR.mono {H H' : GH} {cs : List Value} {t : Hp} (h : WvR H cs t) (hl : H.le H') : WvR H' cs t := by
  obtain ⟨q, h1, h2⟩ := h
  exact ⟨q, h1, h2.mono hl⟩
theorem WvR.form {H : GH} {cs : List Value} {t : Hp} (h : WvR H cs t) : ∃ (a : Option Addr) (n c : Nat), cs = [.slice a n c] := by
  obtain ⟨q, rfl, h2⟩ := h
  obtain ⟨a, c, rfl, _, _⟩ := h2.form
  exact ⟨a, _, c, rfl⟩
theorem WvR.nil (H : GH) : WvR H [.slice none 0 0] Hp.nil := ⟨_, rfl, RsV.nil H⟩
theorem Hp.minC_le (t : Hp) : Hp.minC t ≤ Hp.size t := by have := Rw.length_le t; show List.length t - 1 ≤ Rw.size t; omega
theorem infoW : ElemInfo Tryd.prog 47 46 (.agg #[.slice none 0 0]) 1 24 :=
  ⟨Tryd.underlying47, info_parts (by kernel_rfl), rfl, by decide⟩
section
variable {w : World} {H : GH} {cs ds : List Value} {s t : Hp}
theorem winsert_ok (x : El) (hf : Fits w H) (hn : Hp.size t < 800000) (h : WvR H cs t) :
    Calls Tryd.prog 16 #[elV x, .agg cs.toArray] w fun e w' => ∃ ds H', e = .returned (.tuple #[.agg ds.toArray, .int .i64 (Hp.insC x t + Hp.insD x t : Nat)]) ∧ Post w H none w' H' 0 0 ∧ WvR H' ds (Hp.insert x t) := by
  obtain ⟨q, rfl, h2⟩ := h
  refine (r7insert_ok H w x q t hf (by have : Rw.size t < 800000 := hn; omega) h2).mono fun e w' ⟨r, H', h3, h4, h5⟩ => ⟨[r], H', ?_, h4, r, rfl, h5⟩
  rw [h3, show Hp.insC x t + Hp.insD x t = 2 * Rw.putN kf (Tr.leaf x) t + 1 by unfold Hp.insC Hp.insD; omega]
theorem wpop_ok (hf : Fits w H) (hn : Hp.size t < 800000) (h : WvR H cs t) :
    Calls Tryd.prog 19 #[.agg cs.toArray] w fun e w' => ∃ ds H', e = .returned (.tuple #[.agg ds.toArray, .int .i64 (Hp.popC t + Hp.popD t : Nat)]) ∧ Post w H none w' H' 0 0 ∧ WvR H' ds (Hp.pop t) := by
  obtain ⟨q, rfl, h2⟩ := h
  exact (r7pop_ok H w q t hf (by have : Rw.size t < 800000 := hn; omega) h2).mono fun e w' ⟨r, H', h3, h4, h5⟩ => ⟨[r], H', h3, h4, r, rfl, h5⟩
end
section
variable {w : World} {H : GH} {cs ds : List Value} {s t : Hp}
theorem wmeld_ok (hf : Fits w H) (hn : Hp.size s + Hp.size t < 800000) (h : WvR H cs s) (k : WvR H ds t) :
    Calls Tryd.prog 18 #[.agg cs.toArray, .agg ds.toArray] w fun e w' => ∃ es H', e = .returned (.tuple #[.agg es.toArray, .int .i64 (Hp.meldC s t + Hp.meldD s t : Nat)]) ∧ Post w H none w' H' 0 0 ∧ WvR H' es (Hp.meld s t) := by
  obtain ⟨q, rfl, h2⟩ := h
  obtain ⟨p, rfl, k2⟩ := k
  refine (r7meld_ok H w q p s t hf (by have : Rw.size s + Rw.size t < 800000 := hn; omega) h2 k2).mono fun e w' ⟨r, H', h3, h4, h5⟩ => ⟨[r], H', ?_, h4, r, rfl, h5⟩
  rw [h3, show Hp.meldC s t + Hp.meldD s t = 2 * Rw.meldN kf s t by unfold Hp.meldC Hp.meldD; omega]
theorem wmin_ok (hf : Fits w H) (hn : Hp.size t < 800000) (h : WvR H cs t) :
    Calls Tryd.prog 20 #[.agg cs.toArray] w fun e w' => e = .returned (.tuple #[elV ((Hp.min? t).getD (0, 0)), .int .i64 (Hp.minC t : Nat)]) ∧ Keep none w w' := by
  obtain ⟨q, rfl, h2⟩ := h
  exact r7min_ok H w q t hf (by have : Rw.size t < 800000 := hn; omega) h2
theorem wsize_ok (hf : Fits w H) (hn : Hp.size t < 800000) (h : WvR H cs t) :
    Calls Tryd.prog 14 #[.agg cs.toArray] w fun e w' => e = .returned (.int .i64 (Hp.size t : Nat)) ∧ Keep none w w' := by
  obtain ⟨q, rfl, h2⟩ := h
  exact r7size_ok H w q t hf (by have : Rw.size t < 800000 := hn; omega) h2
theorem wshow_ok (hf : Fits w H) (hn : Hp.size t < 800000) (hfit : ∀ a ∈ Hp.els t, El.fits a) (h : WvR H cs t) :
    Calls Tryd.prog 22 #[.agg cs.toArray] w fun e w' => e = .returned (.string ⟨(Hp.text t).toArray⟩) ∧ Keep none w w' := by
  obtain ⟨q, rfl, h2⟩ := h
  exact r7show_ok H w q t hf (by have : Rw.size t < 800000 := hn; omega) hfit h2
end
end Go.Proofs.YtenhjgdflgcjnaaDoor
