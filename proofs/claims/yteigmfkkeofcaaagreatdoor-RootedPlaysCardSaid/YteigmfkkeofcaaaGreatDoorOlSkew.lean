/-
Skew heaps: how many things there are; all of them.
-/
import Derived.Test.YteigmfkkeofcaaaGreatDoorOkSkew
import Derived.Test.YteigmfkkeofcaaaGreatDoorNdJoin
namespace Go.Proofs.YteigmfkkeofcaaaGreatDoor
open Go Go.RowKit
set_option linter.unusedVariables false

set_option maxRecDepth 100000 in
set_option maxHeartbeats 4000000 in
theorem sksize_ok (H : GH) (w : World) (p : Option Addr) (l : List (Tr El)) (hf : Fits w H) (hn : Rw.size l < 1000000) (hl : LsR H p l) :
    Calls Tryz.prog 39 #[hV p] w fun e w' => ∃ H', e = .returned (.int .i64 (Rw.size l : Nat)) ∧ Post w H none w' H' 0 0 := by
  have hpre : Pre w H none 0 0 := Pre.none hf 0 0
  obtain ⟨ps, hcons, hrow⟩ := hl
  have hlb : ps.length < 1000000 := by have := hrow.1; have := Rw.length_le l; omega
  obtain ⟨nn, hnn⟩ : ∃ nn, Hid (ps.length = nn) := ⟨_, show _ = _ from rfl⟩
  have hnb : nn < 1000000 := by have := hnn.out; omega
  go_enter Tryz.func39, Tryz.ntmps39
  have h0 := St.start hpre
  refine wp_seq ?_
  refine wp_region_lit ?_
  refine wpList_plainQ rfl (fun K Q' hK => ?_); go_simp
  refine h0.k_alloc (fun w1 h1 => ?_)
  refine hK _ _ ?_; clear hK K; try clear Q'
  iterate 1 (refine wpList_plainQ rfl (fun K Q' hK => ?_); go_simp; refine hK _ _ ?_; clear hK K; try clear Q')
  refine wpList_nil ?_
  show Code.wp _ _ _ _ _
  refine wp_seq ?_
  refine wp_region_lit ?_
  iterate 1 (refine wpList_plainQ rfl (fun K Q' hK => ?_); go_simp; refine hK _ _ ?_; clear hK K; try clear Q')
  refine wpList_nil ?_
  show Code.wp _ _ _ _ _
  refine wp_seq ?_
  refine wp_seq ?_
  refine wp_region_lit ?_
  have c_0_0 := h1.cell 0 rfl 0 rfl
  iterate 2 (refine wpList_plainQ rfl (fun K Q' hK => ?_); go_simp; refine hK _ _ ?_; clear hK K; try clear Q')
  clear c_0_0
  -- stops at: eff:call (Go.Op.call {'callee': (Go.Callee.value (Go.Operand.func 54)), 'args': [(Go.Operand.tmp 7)], 'argTypes': [71]}) slot 8
  refine wpList_plainQ rfl (fun K Q' hK => ?_); go_simp
  refine (CTr.all_ok H _ p ps hlb h1.fits hcons).mono ?_
  rintro e wB ⟨v, rfl, hpB⟩
  obtain ⟨H5, h55, rA, leA⟩ := (h1.callrow hpB).settleRow 0 rfl
  rw [hnn.out] at rA
  obtain ⟨aA, cA, rfl, _, _⟩ := rA.nil_or
  refine hK _ _ ?_; clear hK K; try clear Q'
  iterate 2 (refine wpList_plainQ rfl (fun K Q' hK => ?_); go_simp; refine hK _ _ ?_; clear hK K; try clear Q')
  refine wpList_nil ?_
  show Code.wp _ _ _ _ _
  refine wp_block ?_
  -- stops at: loop
  go_loopw [3, 10] (fun v3 v10 wr => ∃ j : Nat, j ≤ nn ∧ v3 = .int .i64 (Rw.size (l.take j) : Nat) ∧ v10 = .int .i64 j ∧ St w H none 0 0 wr H5 [(w.heap.size, .cells #[.pointer p] 73)] []) (fun _ v10 _ => nn - (intOf v10).toNat)
  case atStart => exact ⟨0, by omega, by simp [Rw.size, Rw.els], rfl, h55⟩
  case round =>
    obtain ⟨j, hj, rfl, rfl, hs⟩ := hrel
    by_cases hlt : j < nn
    · obtain ⟨b9, o9, cap9, e9, _⟩ := rA.ne_nil (by omega)
      simp only [Value.slice.injEq, true_and] at e9
      obtain ⟨rfl, rfl⟩ := e9
      obtain ⟨pj, hpj⟩ : ∃ pj, ps[j]? = some pj := ⟨ps[j]'(by have := hnn.out; omega), by simp⟩
      obtain ⟨tj, htj⟩ : ∃ tj, l[j]? = some tj := ⟨l[j]'(by have := hnn.out; have := hrow.1; omega), by simp⟩
      have trj := hrow.2 _ _ _ hpj htj
      have gj : (ps.map Value.pointer)[j]? = some (.pointer pj) := by simp [hpj]
      have e8 : IntKind.i64.wrap ((j : Int) + 1) = (j : Int) + 1 := IntWalk.i64_in _ (by omega)
      have hst := sumSz_take l j tj htj
      have hsm := size_take_le l (j + 1)
      obtain ⟨s0, hs0⟩ : ∃ s0, Hid (Rw.size (l.take j) = s0) := ⟨_, show _ = _ from rfl⟩
      obtain ⟨s1, hs1⟩ : ∃ s1, Hid (tj.size = s1) := ⟨_, show _ = _ from rfl⟩
      obtain ⟨s2, hs2⟩ : ∃ s2, Hid (Rw.size (l.take (j + 1)) = s2) := ⟨_, show _ = _ from rfl⟩
      have e7 : IntKind.i64.wrap ((s0 : Int) + (s1 : Int)) = (s2 : Int) := by have := hs0.out; have := hs1.out; have := hs2.out; rw [IntWalk.i64_in _ (by omega)]; omega
      rw [hs0.out]
      clear hst hsm
      refine wp_seq ?_
      refine wp_region_lit ?_
      iterate 1 (refine wpList_plainQ rfl (fun K Q' hK => ?_); go_simp; refine hK _ _ ?_; clear hK K; try clear Q')
      refine wpList_nil ?_
      show Code.wp _ _ _ _ _
      refine wp_seq ?_
      -- stops at: cond
      refine wp_cond_true (rfl) ?_
      refine wp_skip ?_
      show Code.wp _ _ _ _ _
      refine wp_seq ?_
      refine wp_block ?_
      refine wp_seq ?_
      refine wp_region_lit ?_
      iterate 1 (refine wpList_plainQ rfl (fun K Q' hK => ?_); go_simp; refine hK _ _ ?_; clear hK K; try clear Q')
      -- stops at: load (Go.Op.load 94 (Go.Operand.tmp 12)) slot 13
      have ce := rA.cell hs.fits _ gj
      iterate 1 (refine wpList_plainQ rfl (fun K Q' hK => ?_); go_simp; refine hK _ _ ?_; clear hK K; try clear Q')
      clear ce
      iterate 1 (refine wpList_plainQ rfl (fun K Q' hK => ?_); go_simp; refine hK _ _ ?_; clear hK K; try clear Q')
      refine wpList_nil ?_
      show Code.wp _ _ _ _ _
      refine wp_region_lit ?_
      iterate 2 (refine wpList_plainQ rfl (fun K Q' hK => ?_); go_simp; refine hK _ _ ?_; clear hK K; try clear Q')
      -- stops at: eff:call (Go.Op.call {'callee': (Go.Callee.value (Go.Operand.func 73)), 'args': [(Go.Operand.tmp 15)], 'argTypes': [94]}) slot 16
      refine wpList_plainQ rfl (fun K Q' hK => ?_); go_simp
      refine (size_ok H5 _ pj tj hs.fits (trj.mono leA)).mono ?_
      rintro e wC ⟨rfl, hkC⟩
      rw [hs1.out]
      have h3 := hs.callk hkC
      refine hK _ _ ?_; clear hK K; try clear Q'
      iterate 2 (refine wpList_plainQ rfl (fun K Q' hK => ?_); go_simp; refine hK _ _ ?_; clear hK K; try clear Q')
      refine wpList_nil ?_
      show Code.wp _ _ _ _ _
      refine wp_region_lit ?_
      iterate 2 (refine wpList_plainQ rfl (fun K Q' hK => ?_); go_simp; refine hK _ _ ?_; clear hK K; try clear Q')
      refine wpList_nil ?_
      -- stops at: end ('roundend',)
      show _ ∧ _
      go_roundw
      case rel => exact ⟨j + 1, by omega, by rw [hs2.out], by simp, h3⟩
      case measure => simp [intOf]; omega
    · obtain rfl : j = nn := by omega
      refine wp_seq ?_
      refine wp_region_lit ?_
      iterate 1 (refine wpList_plainQ rfl (fun K Q' hK => ?_); go_simp; refine hK _ _ ?_; clear hK K; try clear Q')
      refine wpList_nil ?_
      show Code.wp _ _ _ _ _
      refine wp_seq ?_
      -- stops at: cond
      refine wp_cond_false (rfl) ?_
      refine wp_exit ?_
      show Code.wp _ _ _ _ _
      refine wp_seq ?_
      refine wp_region_lit ?_
      iterate 2 (refine wpList_plainQ rfl (fun K Q' hK => ?_); go_simp; refine hK _ _ ?_; clear hK K; try clear Q')
      refine wpList_nil ?_
      show Code.wp _ _ _ _ _
      -- stops at: ret
      refine wp_ret ?_
      go_ret
      refine ⟨H5, ?_, hs.post⟩
      rw [← hnn.out, hrow.1, List.take_length]
      rfl

theorem flatMap_take_le' (l : List (Tr El)) (i : Nat) : (Rw.els (l.take i)).length ≤ (Rw.els l).length := size_take_le l i
theorem Rw.mem_size' {l : List (Tr El)} {t : Tr El} (h : t ∈ l) : t.els.length ≤ (Rw.els l).length := by
  obtain ⟨i, hi⟩ := List.getElem?_of_mem h
  exact size_mem hi
theorem Rw.toL_els' {t : RT El} : Rw.els t.toL = t.els := Rw.toL_els t
/-- What was settled since is forgotten. -/
theorem St.lower {w0 w : World} {H0 H H' : GH} {c d : Int} {L : List (Nat × Obj)} {R : List Row} (h : St w0 H0 none c d w H' L R) (hl : H.le H') (h0 : H0.le H) : St w0 H0 none c d w H L R := by
  have hno : ∀ {b : Nat}, H' b = none → H b = none := fun {b} hn => by
    cases e : H b with
    | none => rfl
    | some o => rw [hl _ _ e] at hn; cases hn
  refine ⟨Pre.none (h.fits.le hl) c d, h.keep, h0, fun b o e => h.new b o (hl b o e), fun p hp => ?_, h.nodup, fun r hr => ?_, h.rowsL, h.rowsR, h.cells, fun b o e => h.gc b o (hl b o e)⟩
  · obtain ⟨h1, h2, h3, h4⟩ := h.own p hp
    exact ⟨h1, h2, hno h3, h4⟩
  · obtain ⟨h1, h2⟩ := h.rows r hr
    exact ⟨h1, fun g hg => ⟨hno (h2 g hg).1, (h2 g hg).2⟩⟩

end Go.Proofs.YteigmfkkeofcaaaGreatDoor
