/-
The document's pairing heaps, as every heap of the document is spoken of.
-/
import Derived.Test.YtnimanhoegbicaaDoorScRef08
import Derived.Test.YtnimanhoegbicaaDoorQbPlain
namespace Go.Proofs.YtnimanhoegbicaaDoor
open Go Go.RowKit
set_option linter.unusedVariables false

/-- The cells of a block of the call's own, as what is appended. -/
theorem St.newsAt {w0 w : World} {H0 H : GH} {m : Option Nat} {c d : Int} {L : List (Nat × Obj)} {R : List Row} (h : St w0 H0 m c d w H L R) (i : Nat) {b : Nat} {cs : Array Value} {T : TypeId} {f : Nat × Nat} (hi : L[i]? = some (b, .cells cs T f)) :
    ∀ j u, cs.toList[j]? = some u → w.cell? ((⟨b, 0, none⟩ : Addr).add j) = some u := fun j u hj => by
  have hj' : cs[j]? = some u := by simpa using hj
  have e := h.cell i hi j hj'
  unfold Addr.add
  split
  · rename_i h0; subst h0; exact e
  · simpa using e
/-- A heap of the document, as cells. -/
def WvR (H : GH) (cs : List Value) (t : Hp) : Prop := RefR H t (.agg cs.toArray)
theorem WvR.mono {H H' : GH} {cs : List Value} {t : Hp} (h : WvR H cs t) (hl : H.le H') : WvR H' cs t := RefR.mono h hl
theorem WvR.form {H : GH} {cs : List Value} {t : Hp} (h : WvR H cs t) : ∃ (p i : Int) (a : Option Addr) (n c : Nat) (k : Int), cs = [.int .i64 p, .int .i64 i, .slice a n c, .int .i64 k] := by
  obtain ⟨a, n, c, sz, x, e, _, _⟩ := RefR.form h
  refine ⟨x.1, x.2, a, n, c, (sz : Int), ?_⟩
  have := congrArg (fun v => match v with | .agg xs => xs.toList | _ => []) e
  simpa using this
theorem WvR.nil (H : GH) : WvR H [.int .i64 0, .int .i64 0, .slice none 0 0, .int .i64 0] Hp.nil := RefR.nil H
theorem Hp.minC_le (t : Hp) : Hp.minC t ≤ Hp.size t := Nat.zero_le _
theorem infoW : ElemInfo Tryd.prog 33 35 (.agg #[.int .i64 0, .int .i64 0, .slice none 0 0, .int .i64 0]) 4 48 :=
  ⟨Tryd.underlying33, info_parts (by kernel_rfl), rfl, by decide⟩
theorem RefR.agg {H : GH} {t : PT} {v : Value} (h : RefR H t v) : ∃ cs : List Value, v = .agg cs.toArray := by
  obtain ⟨a, n, c, sz, x, rfl, _, _⟩ := RefR.form h
  exact ⟨[.int .i64 x.1, .int .i64 x.2, .slice a n c, .int .i64 (sz : Int)], rfl⟩
section
variable {w : World} {H : GH} {cs ds : List Value} {s t : Hp}
theorem winsert_ok (x : El) (hf : Fits w H) (hn : Hp.size t < 800000) (h : WvR H cs t) :
    Calls Tryd.prog 9 #[elV x, .agg cs.toArray] w fun e w' => ∃ ds H', e = .returned (.tuple #[.agg ds.toArray, .int .i64 (Hp.insC x t + Hp.insD x t : Nat)]) ∧ Post w H none w' H' 0 0 ∧ WvR H' ds (Hp.insert x t) :=
  (refinsert_ok H w x t _ hf (by have : PT.size t < 800000 := hn; omega) h).mono fun e w' ⟨r, H', h3, h4, h5⟩ => by
    obtain ⟨ds, rfl⟩ := h5.agg
    refine ⟨ds, H', ?_, h4, h5⟩
    rw [h3, show Hp.insC x t + Hp.insD x t = 1 + 2 * PT.meldN (.node x .nil .nil) t by unfold Hp.insC Hp.insD; omega]
theorem wmeld_ok (hf : Fits w H) (hn : Hp.size s + Hp.size t < 800000) (h : WvR H cs s) (k : WvR H ds t) :
    Calls Tryd.prog 11 #[.agg cs.toArray, .agg ds.toArray] w fun e w' => ∃ es H', e = .returned (.tuple #[.agg es.toArray, .int .i64 (Hp.meldC s t + Hp.meldD s t : Nat)]) ∧ Post w H none w' H' 0 0 ∧ WvR H' es (Hp.meld s t) :=
  (refmeld_ok H w s t _ _ hf (by have : PT.size s + PT.size t < 800000 := hn; omega) h k).mono fun e w' ⟨r, H', h3, h4, h5⟩ => by
    obtain ⟨es, rfl⟩ := h5.agg
    refine ⟨es, H', ?_, h4, h5⟩
    rw [h3, show Hp.meldC s t + Hp.meldD s t = 2 * PT.meldN s t by unfold Hp.meldC Hp.meldD; omega]
theorem wpop_ok (hf : Fits w H) (hn : Hp.size t < 800000) (h : WvR H cs t) :
    Calls Tryd.prog 13 #[.agg cs.toArray] w fun e w' => ∃ ds H', e = .returned (.tuple #[.agg ds.toArray, .int .i64 (Hp.popC t + Hp.popD t : Nat)]) ∧ Post w H none w' H' 0 0 ∧ WvR H' ds (Hp.pop t) :=
  (refpop_ok H w t _ hf (by have : PT.size t < 800000 := hn; omega) h).mono fun e w' ⟨r, H', h3, h4, h5⟩ => by
    obtain ⟨ds, rfl⟩ := h5.agg
    refine ⟨ds, H', ?_, h4, h5⟩
    rw [h3, show Hp.popC t + Hp.popD t = 2 * PT.popN t by unfold Hp.popC Hp.popD; omega]
theorem wmin_ok (hf : Fits w H) (hn : Hp.size t < 800000) (h : WvR H cs t) :
    Calls Tryd.prog 17 #[.agg cs.toArray] w fun e w' => e = .returned (.tuple #[elV ((Hp.min? t).getD (0, 0)), .int .i64 (Hp.minC t : Nat)]) ∧ Keep none w w' := refmin_ok H w t _ hf h
theorem wsize_ok (hf : Fits w H) (hn : Hp.size t < 800000) (h : WvR H cs t) :
    Calls Tryd.prog 7 #[.agg cs.toArray] w fun e w' => e = .returned (.int .i64 (Hp.size t : Nat)) ∧ Keep none w w' := refsize_ok H w t _ hf h
set_option maxRecDepth 100000 in
theorem wshow_ok (hf : Fits w H) (hn : Hp.size t < 800000) (hfit : ∀ a ∈ Hp.els t, El.fits a) (h : WvR H cs t) :
    Calls Tryd.prog 19 #[.agg cs.toArray] w fun e w' => e = .returned (.string ⟨(Hp.text t).toArray⟩) ∧ Keep none w w' := by
  rcases id h with ⟨rfl, hv⟩ | ⟨x, k, kv, kcs, sz, rfl, _⟩
  · have hpre : Pre w H none 0 0 := Pre.none hf 0 0
    rw [hv]
    go_enter Tryd.func19, Tryd.ntmps19
    have h0 := St.start hpre
    refine wp_seq ?_
    refine wp_region_lit ?_
    refine wpList_plain rfl (fun K hK => ?_); go_simp
    refine h0.k_alloc (fun w1 h1 => ?_)
    refine hK _ _ ?_; clear hK K
    iterate 1 (refine wpList_plain rfl (fun K hK => ?_); go_simp; refine hK _ _ ?_; clear hK K)
    refine wpList_nil ?_
    show Code.wp _ _ _ _ _
    refine wp_seq ?_
    refine wp_seq ?_
    refine wp_region_lit ?_
    have c_0_3 := h1.cell 0 rfl 3 rfl
    iterate 3 (refine wpList_plain rfl (fun K hK => ?_); go_simp; refine hK _ _ ?_; clear hK K)
    clear c_0_3
    refine wpList_nil ?_
    show Code.wp _ _ _ _ _
    -- stops at: cond
    refine wp_cond_true (rfl) ?_
    refine wp_seq ?_
    refine wp_region_lit ?_
    iterate 1 (refine wpList_plain rfl (fun K hK => ?_); go_simp; refine hK _ _ ?_; clear hK K)
    refine wpList_nil ?_
    show Code.wp _ _ _ _ _
    -- stops at: ret
    refine wp_ret ?_
    go_ret
    exact ⟨rfl, h1.post.keep⟩
  · exact refshow_all (.node x k .nil) x k (by simp [PT.toL]) H w _ hf hfit (by have : PT.size (.node x k .nil) < 800000 := hn; omega) h
end
end Go.Proofs.YtnimanhoegbicaaDoor
