/-
Trees with ranks in memory: a copy of the trees below one, and of what stands beside a root.
-/
import Derived.Test.YteigmfkkeofcaaaGreatDoorObRank
import Derived.Test.YteigmfkkeofcaaaGreatDoorNsShelf
import Derived.Shelf.SlicesE.Clone
namespace Go.Proofs.YteigmfkkeofcaaaGreatDoor
open Go Go.RowKit
set_option linter.unusedVariables false

/-- What a callee has made for its caller: one row. -/
theorem St.ofOwns {w w' : World} {H : GH} {e : TypeId} {size n : Nat} {v : Value} {xs : List Value} (hf : Fits w H) (hb : Below w.heap.size w w') (ho : w'.ownsRow w.heap.size e size v n xs) : St w H none 0 0 w' H [] [⟨v, e, size, n, xs⟩] := by
  have h0 := (St.start (Pre.none hf 0 0)).callk (Keep.of_below hb)
  refine ⟨h0.pre, h0.keep, h0.le, h0.new, by simp, .nil, fun r hr => ?_, by simp, List.pairwise_singleton _ _, by simp, h0.gc⟩
  obtain rfl := List.mem_singleton.1 hr
  exact ⟨ho, fun g hg => ⟨hf.none (ho.lt g hg).1, by simp⟩⟩
theorem St.base {w0 w : World} {H0 H : GH} {c d : Int} {L : List (Nat × Obj)} {R : List Row} (h : St w0 H0 none c d w H L R) : St w0 H0 none c d w H0 L R := by
  have hno : ∀ {b : Nat}, H b = none → H0 b = none := fun {b} hn => by
    cases e : H0 b with
    | none => rfl
    | some o => rw [h.le _ _ e] at hn; cases hn
  refine ⟨Pre.none (h.fits.le h.le) c d, h.keep, GH.le_refl _, fun _ _ e => .inl e, fun p hp => ?_, h.nodup, fun r hr => ?_, h.rowsL, h.rowsR, h.cells, fun _ _ e => .inl e⟩
  · obtain ⟨h1, h2, h3, h4⟩ := h.own p hp
    exact ⟨h1, h2, hno h3, h4⟩
  · obtain ⟨h1, h2⟩ := h.rows r hr
    exact ⟨h1, fun g hg => ⟨hno (h2 g hg).1, (h2 g hg).2⟩⟩
theorem clone_ok (H : GH) (w : World) (n : Nat) (a : Option Addr) (cp : Nat) (xs : List Value) (hn : n < 1000000) (h1 : ∀ u ∈ xs, u.oneCell' = true) (hf : Fits w H) (hk : SlR H 1 (.slice a n cp) n xs) :
    Calls Tryz.prog 86 #[.slice a n cp] w fun e w' => ∃ v', e = .returned v' ∧ St w H none 0 0 w' H [] [⟨v', 94, 1, n, xs⟩] := by
  by_cases h0 : n = 0
  · have e := hk.2 h0
    simp only [Value.slice.injEq] at e
    obtain ⟨rfl, _, rfl⟩ := e
    have hx : xs = [] := List.eq_nil_of_length_eq_zero (by rw [hk.1.1, h0])
    subst hx h0
    refine (AnyE.slices_Clone_nil Tryz.slClone 0 0 w).mono ?_
    rintro e w' ⟨rfl, rfl⟩
    exact ⟨_, rfl, St.ofOwns hf (Below.refl _ _) (World.ownsRow_nil _ _ _ _)⟩
  · obtain ⟨b, off, cap, e, hc, hm⟩ := hk.1.ne_nil (by omega)
    rw [e] at hk ⊢
    obtain ⟨i0, hi, hz0, hz1, hz2⟩ := infoTr.info
    refine (AnyE.slices_Clone Tryz.slClone i0 (.pointer none) 1 8 hi hz0 hz1 hz2 rfl (by omega) (fun w => Tryz.sizeOf94 w) b off n cap xs w hk.1.1 (by unfold maxLen; omega) (by omega) (fun j u hj => hk.1.cell hf j hj) h1).mono ?_
    rintro e w' ⟨v', rfl, ho, _, hb⟩
    exact ⟨_, rfl, St.ofOwns hf hb ho⟩

theorem ptr_one (ks : List (Option Addr)) : ∀ u ∈ ks.map Value.pointer, u.oneCell' = true := by
  intro u hu
  obtain ⟨p, _, rfl⟩ := List.mem_map.1 hu
  rfl
set_option maxRecDepth 100000 in
theorem kids_ok (H : GH) (w : World) (p : Option Addr) (t : Tr El) (hn : t.size < 1000000) (hf : Fits w H) (ht : TrR H p t) :
    Calls Tryz.prog 61 #[.pointer p] w fun e w' => ∃ v ks, e = .returned v ∧ St w H none 0 0 w' H [] [⟨v, 94, 1, ks.length, ks.map .pointer⟩] ∧ RowR H ks t.k.toL := by
  have hpre : Pre w H none 0 0 := Pre.none hf 0 0
  have hls := Tr.rank_lt t
  obtain ⟨bp, aB, cB, aK, cK, rs, ss, ks, rfl, hrs, hss, hbp, sb, sk, sx, st⟩ := ht.open
  have lks : ks.length < 1000000 := by have := st.length; unfold Tr.rank at hls; omega
  go_enter Tryz.func61, Tryz.ntmps61
  have h0 := St.start hpre
  refine wp_seq ?_
  refine wp_region_lit ?_
  iterate 1 (refine wpList_plainQ rfl (fun K Q' hK => ?_); go_simp; refine hK _ _ ?_; clear hK K; try clear Q')
  refine wpList_nil ?_
  show Code.wp _ _ _ _ _
  refine wp_seq ?_
  refine wp_seq ?_
  refine wp_region_lit ?_
  iterate 2 (refine wpList_plainQ rfl (fun K Q' hK => ?_); go_simp; refine hK _ _ ?_; clear hK K; try clear Q')
  refine wpList_nil ?_
  show Code.wp _ _ _ _ _
  -- stops at: cond
  refine wp_cond_false (rfl) ?_
  refine wp_skip ?_
  show Code.wp _ _ _ _ _
  refine wp_seq ?_
  refine wp_region_lit ?_
  have c_hbp_4 := h0.gh hbp 4 rfl
  iterate 4 (refine wpList_plainQ rfl (fun K Q' hK => ?_); go_simp; refine hK _ _ ?_; clear hK K; try clear Q')
  clear c_hbp_4
  -- stops at: eff:call (Go.Op.call {'callee': (Go.Callee.value (Go.Operand.func 86)), 'args': [(Go.Operand.tmp 8)], 'argTypes': [107]}) slot 9
  refine wpList_plainQ rfl (fun K Q' hK => ?_); go_simp
  refine (clone_ok H _ _ _ _ (ks.map .pointer) lks (ptr_one ks) h0.fits sk).mono ?_
  rintro e wB ⟨v, rfl, hpB⟩
  have hR := h0.callrow hpB
  refine hK _ _ ?_; clear hK K; try clear Q'
  iterate 1 (refine wpList_plainQ rfl (fun K Q' hK => ?_); go_simp; refine hK _ _ ?_; clear hK K; try clear Q')
  refine wpList_nil ?_
  show Code.wp _ _ _ _ _
  -- stops at: ret
  refine wp_ret ?_
  go_ret
  exact ⟨v, ks, rfl, hR, st.row⟩
end Go.Proofs.YteigmfkkeofcaaaGreatDoor
