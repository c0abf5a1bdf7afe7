/-
Acts: what a script's rows are; few of them.
-/
import Derived.Test.YteigmfkkeofcaaaGreatDoorQbPlain
import Derived.Test.YteigmfkkeofcaaaGreatDoorGeOrdR
namespace Go.Proofs.YteigmfkkeofcaaaGreatDoor
open Go Go.RowKit
set_option linter.unusedVariables false

/-- An act: its kind, two places, an element, elements. -/
structure Play where
  kind : Nat
  at_ : Nat
  to_ : Nat
  x : El
  v : Value
  l : List El
def Play.cells (a : Play) : List Value := [.int .u8 a.kind, .int .u8 a.at_, .int .u8 a.to_, .int .i64 a.x.1, .int .i64 a.x.2, a.v]
def Play.ok (H : GH) (a : Play) : Prop := a.kind ≤ 255 ∧ a.at_ ≤ 255 ∧ a.to_ ≤ 255 ∧ a.x.fits ∧ ElRep H a.v a.l ∧ ∀ y ∈ a.l, El.fits y
theorem Play.ok.mono {H H' : GH} {a : Play} (h : a.ok H) (hl : H.le H') : a.ok H' := ⟨h.1, h.2.1, h.2.2.1, h.2.2.2.1, h.2.2.2.2.1.mono hl, h.2.2.2.2.2⟩
abbrev PlayRep (H : GH) (v : Value) (ls : List Play) : Prop := SliceRep H 6 v ls.length (ls.flatMap Play.cells) ∧ ∀ a ∈ ls, a.ok H
theorem play_get (ls : List Play) (k : Nat) (a : Play) (h : ls[k]? = some a) (i : Nat) (hi : i < 6) : (ls.flatMap Play.cells)[k * 6 + i]? = a.cells[i]? := by
  induction ls generalizing k with
  | nil => simp at h
  | cons b ls ih =>
    rw [List.flatMap_cons]
    cases k with
    | zero =>
      simp only [List.getElem?_cons_zero, Option.some.injEq] at h
      subst h
      rw [List.getElem?_append_left (by simp [Play.cells]; omega)]
      simp
    | succ k =>
      rw [List.getElem?_append_right (by simp [Play.cells]; omega)]
      have : (k + 1) * 6 + i - b.cells.length = k * 6 + i := by simp [Play.cells]; omega
      rw [this]
      exact ih k (by simpa using h)
/-- Are they few? -/
def fewB (ls : List Play) : Bool := ls.all (fun a => decide (a.l.length ≤ 40)) && decide (ls.length ≤ 30)
theorem fewB_of {ls : List Play} (h : fewB ls = true) : ls.length ≤ 30 ∧ ∀ a ∈ ls, a.l.length ≤ 40 := by
  simp only [fewB, Bool.and_eq_true, List.all_eq_true, decide_eq_true_eq] at h
  exact ⟨h.2, h.1⟩

set_option maxRecDepth 100000 in
set_option maxHeartbeats 2000000 in
theorem few_ok (H : GH) (w : World) (v : Value) (ls : List Play) (hf : Fits w H) (hr : PlayRep H v ls) :
    Calls Tryz.prog 5 #[v] w fun e w' => e = .returned (.bool (fewB ls)) ∧ Keep none w w' := by
  have hpre : Pre w H none 0 0 := Pre.none hf 0 0
  obtain ⟨hs, hok⟩ := hr
  obtain ⟨b, cap2, rfl, hd1, hd2⟩ := hs.nil_or
  have hd3 : ls.length ≤ 9223372036854775807 := by unfold maxLen at hd2; omega
  clear hd2
  go_enter Tryz.func5, Tryz.ntmps5
  have h0 := St.start hpre
  refine wp_seq ?_
  refine wp_region_lit ?_
  iterate 1 (refine wpList_plainQ rfl (fun K Q' hK => ?_); go_simp; refine hK _ _ ?_; clear hK K; try clear Q')
  refine wpList_nil ?_
  show Code.wp _ _ _ _ _
  refine wp_seq ?_
  refine wp_seq ?_
  refine wp_region_lit ?_
  iterate 1 (refine wpList_plainQ rfl (fun K Q' hK => ?_); go_simp; refine hK _ _ ?_; clear hK K; try clear Q')
  refine wpList_nil ?_
  show Code.wp _ _ _ _ _
  refine wp_block ?_
  -- stops at: loop
  go_loopw [3] (fun v3 wr => ∃ k : Nat, k ≤ ls.length ∧ v3 = .int .i64 k ∧ (∀ a ∈ ls.take k, a.l.length ≤ 40) ∧ St w H none 0 0 wr H [] []) (fun v3 _ => ls.length - (intOf v3).toNat)
  case atStart => exact ⟨0, by omega, rfl, by simp, h0⟩
  case round =>
    obtain ⟨k, hk, rfl, hall, hs1⟩ := hrel
    by_cases hlt : k < ls.length
    · obtain ⟨bl, ol, _, e1, _⟩ := hs.ne_nil (by omega)
      simp only [Value.slice.injEq, true_and] at e1
      obtain ⟨rfl, rfl⟩ := e1
      have hg : ls[k]? = some ls[k] := by simp [hlt]
      obtain ⟨a0, ha0⟩ : ∃ pl, Hid (ls[k] = pl) := ⟨ls[k], show _ = _ from rfl⟩
      rw [ha0.out] at hg
      obtain ⟨_, _, _, _, hal, _⟩ := hok _ (List.mem_of_getElem? hg)
      obtain ⟨al, cl, hav, _, _⟩ := hal.nil_or
      have cl5 : Hid (∀ W', Fits W' H → W'.cell? ⟨bl, ol + k * 6 + 5, none⟩ = some (.slice al a0.l.length cl)) := fun W' hF => by
        rw [Nat.add_assoc]; exact hs.cell hF (k * 6 + 5) (by rw [play_get ls k _ hg 5 (by omega)]; simp [Play.cells, hav])
      obtain ⟨nl, hnl⟩ : ∃ n, Hid (a0.l.length = n) := ⟨_, show _ = _ from rfl⟩
      rw [hnl.out] at cl5
      have e5 : IntKind.i64.wrap ((k : Int) + 1) = (k : Int) + 1 := IntWalk.i64_in _ (by omega)
      have htk : Hid (ls.take (k + 1) = ls.take k ++ [a0]) := by show _ = _; rw [List.take_add_one, hg]; rfl
      clear hav
      by_cases h40 : nl ≤ 40
      · have d1 : decide ((40 : Int) < (nl : Int)) = false := decide_eq_false (by omega)
        refine wp_seq ?_
        refine wp_seq ?_
        refine wp_region_lit ?_
        iterate 4 (refine wpList_plainQ rfl (fun K Q' hK => ?_); go_simp; refine hK _ _ ?_; clear hK K; try clear Q')
        refine wpList_nil ?_
        show Code.wp _ _ _ _ _
        -- stops at: cond
        refine wp_cond_true (rfl) ?_
        refine wp_skip ?_
        show Code.wp _ _ _ _ _
        refine wp_seq ?_
        refine wp_block ?_
        refine wp_seq ?_
        refine wp_region_lit ?_
        iterate 4 (refine wpList_plainQ rfl (fun K Q' hK => ?_); go_simp; refine hK _ _ ?_; clear hK K; try clear Q')
        -- stops at: load (Go.Op.load 39 (Go.Operand.tmp 13)) slot 14
        have ce := cl5.out _ hs1.fits
        iterate 1 (refine wpList_plainQ rfl (fun K Q' hK => ?_); go_simp; refine hK _ _ ?_; clear hK K; try clear Q')
        clear ce
        iterate 2 (refine wpList_plainQ rfl (fun K Q' hK => ?_); go_simp; refine hK _ _ ?_; clear hK K; try clear Q')
        refine wpList_nil ?_
        show Code.wp _ _ _ _ _
        -- stops at: cond
        refine wp_cond_false (rfl) ?_
        refine wp_skip ?_
        show Code.wp _ _ _ _ _
        refine wp_region_lit ?_
        iterate 3 (refine wpList_plainQ rfl (fun K Q' hK => ?_); go_simp; refine hK _ _ ?_; clear hK K; try clear Q')
        refine wpList_nil ?_
        -- stops at: end ('roundend',)
        show _ ∧ _
        go_roundw
        case rel =>
          refine ⟨k + 1, by omega, by simp, ?_, hs1⟩
          rw [htk.out]
          intro a ha
          rcases List.mem_append.1 ha with ha | ha
          · exact hall a ha
          · obtain rfl := List.mem_singleton.1 ha
            rw [hnl.out]; exact h40
        case measure => simp [intOf]; omega
      · have d1 : decide ((40 : Int) < (nl : Int)) = true := decide_eq_true (by omega)
        have hfew : fewB ls = false := by
          cases hfw : fewB ls with
          | false => rfl
          | true => exact absurd ((fewB_of hfw).2 a0 (List.mem_of_getElem? hg)) (by rw [hnl.out]; exact h40)
        refine wp_seq ?_
        refine wp_seq ?_
        refine wp_region_lit ?_
        iterate 4 (refine wpList_plainQ rfl (fun K Q' hK => ?_); go_simp; refine hK _ _ ?_; clear hK K; try clear Q')
        refine wpList_nil ?_
        show Code.wp _ _ _ _ _
        -- stops at: cond
        refine wp_cond_true (rfl) ?_
        refine wp_skip ?_
        show Code.wp _ _ _ _ _
        refine wp_seq ?_
        refine wp_block ?_
        refine wp_seq ?_
        refine wp_region_lit ?_
        iterate 4 (refine wpList_plainQ rfl (fun K Q' hK => ?_); go_simp; refine hK _ _ ?_; clear hK K; try clear Q')
        -- stops at: load (Go.Op.load 39 (Go.Operand.tmp 13)) slot 14
        have ce := cl5.out _ hs1.fits
        iterate 1 (refine wpList_plainQ rfl (fun K Q' hK => ?_); go_simp; refine hK _ _ ?_; clear hK K; try clear Q')
        clear ce
        iterate 2 (refine wpList_plainQ rfl (fun K Q' hK => ?_); go_simp; refine hK _ _ ?_; clear hK K; try clear Q')
        refine wpList_nil ?_
        show Code.wp _ _ _ _ _
        -- stops at: cond
        refine wp_cond_true (rfl) ?_
        refine wp_seq ?_
        refine wp_region_lit ?_
        iterate 1 (refine wpList_plainQ rfl (fun K Q' hK => ?_); go_simp; refine hK _ _ ?_; clear hK K; try clear Q')
        refine wpList_nil ?_
        show Code.wp _ _ _ _ _
        -- stops at: ret
        refine wp_ret ?_
        go_ret
        exact ⟨by rw [hfew]; rfl, hs1.post.keep⟩
    · obtain rfl : k = ls.length := by omega
      rw [List.take_length] at hall
      have hfew : fewB ls = decide (ls.length ≤ 30) := by
        unfold fewB
        rw [show ls.all (fun a => decide (a.l.length ≤ 40)) = true from List.all_eq_true.2 fun a ha => decide_eq_true (hall a ha)]
        rfl
      refine wp_seq ?_
      refine wp_seq ?_
      refine wp_region_lit ?_
      iterate 4 (refine wpList_plainQ rfl (fun K Q' hK => ?_); go_simp; refine hK _ _ ?_; clear hK K; try clear Q')
      refine wpList_nil ?_
      show Code.wp _ _ _ _ _
      -- stops at: cond
      refine wp_cond_false (rfl) ?_
      refine wp_exit ?_
      show Code.wp _ _ _ _ _
      refine wp_seq ?_
      refine wp_region_lit ?_
      iterate 4 (refine wpList_plainQ rfl (fun K Q' hK => ?_); go_simp; refine hK _ _ ?_; clear hK K; try clear Q')
      refine wpList_nil ?_
      show Code.wp _ _ _ _ _
      -- stops at: ret
      refine wp_ret ?_
      go_ret
      exact ⟨by rw [hfew]; simp; omega, hs1.post.keep⟩
end Go.Proofs.YteigmfkkeofcaaaGreatDoor
