/-
The order of elements, and a meter's steps: each of these functions does what its name says.
-/
import Derived.Test.YteigmfkkeofcaaaGreatDoorKaQ
import Derived.Test.YteigmfkkeofcaaaGreatDoorMaSet
import Derived.Test.YteigmfkkeofcaaaGreatDoorRows
import Derived.Laws.LoneSync
namespace Go.Proofs.YteigmfkkeofcaaaGreatDoor
open Go Go.RowKit
set_option linter.unusedVariables false

/-- An element as a value. -/
abbrev elV (a : El) : Value := .agg #[.int .i64 a.1, .int .i64 a.2]
/-- .. and as cells. -/
def elC (a : El) : List Value := [.int .i64 a.1, .int .i64 a.2]
/-- A row of elements. -/
abbrev ElRep (H : GH) (v : Value) (l : List El) : Prop := SliceRep H 2 v l.length (l.flatMap elC)
theorem elC_length (l : List El) : (l.flatMap elC).length = l.length * 2 := by
  induction l with
  | nil => rfl
  | cons a l ih => simp [List.flatMap_cons, elC] at *; omega
theorem elC_get (l : List El) (k : Nat) (a : El) (h : l[k]? = some a) (i : Nat) (hi : i < 2) : (l.flatMap elC)[k * 2 + i]? = (elC a)[i]? := by
  induction l generalizing k with
  | nil => simp at h
  | cons b l ih =>
    rw [List.flatMap_cons]
    cases k with
    | zero =>
      simp only [List.getElem?_cons_zero, Option.some.injEq] at h
      subst h
      rw [List.getElem?_append_left (by simp [elC]; omega)]
      simp
    | succ k =>
      rw [List.getElem?_append_right (by simp [elC]; omega)]
      have : (k + 1) * 2 + i - (elC b).length = k * 2 + i := by simp [elC]; omega
      rw [this]
      exact ih k (by simpa using h)
/-- An element's cells in memory. -/
theorem elRep_cells {H : GH} {b off n cap : Nat} {l : List El} (h : SliceRep H 2 (.slice (some ⟨b, off, none⟩) n cap) n (l.flatMap elC)) {k : Nat} {a : El} (hk : l[k]? = some a) :
    Hid (∀ W, Fits W H → W.cell? ⟨b, off + k * 2, none⟩ = some (.int .i64 a.1)) ∧ Hid (∀ W, Fits W H → W.cell? ⟨b, off + k * 2 + 1, none⟩ = some (.int .i64 a.2)) := by
  refine ⟨fun W hF => ?_, fun W hF => ?_⟩
  · have := h.cell hF (k * 2) (by have := elC_get l k a hk 0 (by omega); simpa [elC] using this)
    exact this
  · have := h.cell hF (k * 2 + 1) (by have := elC_get l k a hk 1 (by omega); simpa [elC] using this)
    exact this

set_option maxRecDepth 100000 in
set_option maxHeartbeats 1000000 in
theorem rless_ok (H : GH) (w : World) (a b : El) (hf : Fits w H) :
    Calls Tryz.prog 26 #[elV a, elV b] w fun e w' => e = .returned (.bool (El.lt a b)) ∧ Keep none w w' := by
  have hpre : Pre w H none 0 0 := Pre.none hf 0 0
  by_cases h1 : a.1 < b.1
  · have d1 : decide (a.1 < b.1) = true := decide_eq_true h1
    have hr : El.lt a b = true := by simp [El.lt, h1]
    clear h1
    go_enter Tryz.func26, Tryz.ntmps26
    have h0 := St.start hpre
    refine wp_seq ?_
    refine wp_region_lit ?_
    refine wpList_plainQ rfl (fun K Q' hK => ?_); go_simp
    refine h0.k_alloc (fun w1 h1 => ?_)
    refine hK _ _ ?_; clear hK K; try clear Q'
    refine wpList_plainQ rfl (fun K Q' hK => ?_); go_simp
    refine h1.k_alloc (fun w2 h2 => ?_)
    refine hK _ _ ?_; clear hK K; try clear Q'
    iterate 1 (refine wpList_plainQ rfl (fun K Q' hK => ?_); go_simp; refine hK _ _ ?_; clear hK K; try clear Q')
    refine wpList_nil ?_
    show Code.wp _ _ _ _ _
    refine wp_seq ?_
    refine wp_region_lit ?_
    have c_0_0 := h2.cell 0 rfl 0 rfl
    have c_1_0 := h2.cell 1 rfl 0 rfl
    iterate 6 (refine wpList_plainQ rfl (fun K Q' hK => ?_); go_simp; refine hK _ _ ?_; clear hK K; try clear Q')
    clear c_0_0 c_1_0
    have c_0_0 := h2.cell 0 rfl 0 rfl
    have c_1_0 := h2.cell 1 rfl 0 rfl
    first | go_skip | (iterate 6 (refine wpList_stepQ (o := { dst := _, op := _, type := _, pos := _, after := _, guard := some (5, false) }) (fun K Q' hK => ?_); go_simp; refine hK _ _ ?_; clear hK K; try clear Q')) | skip
    clear c_0_0 c_1_0
    have c_0_1 := h2.cell 0 rfl 1 rfl
    have c_1_1 := h2.cell 1 rfl 1 rfl
    first | go_skip | (iterate 5 (refine wpList_stepQ (o := { dst := _, op := _, type := _, pos := _, after := _, guard := some (11, true) }) (fun K Q' hK => ?_); go_simp; refine hK _ _ ?_; clear hK K; try clear Q')) | skip
    clear c_0_1 c_1_1
    first | go_skip | (iterate 1 (refine wpList_stepQ (o := { dst := _, op := _, type := _, pos := _, after := _, guard := some (5, false) }) (fun K Q' hK => ?_); go_simp; refine hK _ _ ?_; clear hK K; try clear Q')) | skip
    iterate 2 (refine wpList_plainQ rfl (fun K Q' hK => ?_); go_simp; refine hK _ _ ?_; clear hK K; try clear Q')
    refine wpList_nil ?_
    show Code.wp _ _ _ _ _
    -- stops at: ret
    refine wp_ret ?_
    go_ret
    exact ⟨by rw [hr]; rfl, h2.post.keep⟩
  · have d1 : decide (a.1 < b.1) = false := decide_eq_false h1
    by_cases h2 : a.1 = b.1
    · have d2 : (a.1 == b.1) = true := by simp [h2]
      have hr : El.lt a b = decide (a.2 < b.2) := by simp [El.lt, h2]
      clear h1 h2
      go_enter Tryz.func26, Tryz.ntmps26
      have h0 := St.start hpre
      refine wp_seq ?_
      refine wp_region_lit ?_
      refine wpList_plainQ rfl (fun K Q' hK => ?_); go_simp
      refine h0.k_alloc (fun w1 h1 => ?_)
      refine hK _ _ ?_; clear hK K; try clear Q'
      refine wpList_plainQ rfl (fun K Q' hK => ?_); go_simp
      refine h1.k_alloc (fun w2 h2 => ?_)
      refine hK _ _ ?_; clear hK K; try clear Q'
      iterate 1 (refine wpList_plainQ rfl (fun K Q' hK => ?_); go_simp; refine hK _ _ ?_; clear hK K; try clear Q')
      refine wpList_nil ?_
      show Code.wp _ _ _ _ _
      refine wp_seq ?_
      refine wp_region_lit ?_
      have c_0_0 := h2.cell 0 rfl 0 rfl
      have c_1_0 := h2.cell 1 rfl 0 rfl
      iterate 6 (refine wpList_plainQ rfl (fun K Q' hK => ?_); go_simp; refine hK _ _ ?_; clear hK K; try clear Q')
      clear c_0_0 c_1_0
      have c_0_0 := h2.cell 0 rfl 0 rfl
      have c_1_0 := h2.cell 1 rfl 0 rfl
      first | go_skip | (iterate 6 (refine wpList_stepQ (o := { dst := _, op := _, type := _, pos := _, after := _, guard := some (5, false) }) (fun K Q' hK => ?_); go_simp; refine hK _ _ ?_; clear hK K; try clear Q')) | skip
      clear c_0_0 c_1_0
      have c_0_1 := h2.cell 0 rfl 1 rfl
      have c_1_1 := h2.cell 1 rfl 1 rfl
      first | go_skip | (iterate 5 (refine wpList_stepQ (o := { dst := _, op := _, type := _, pos := _, after := _, guard := some (11, true) }) (fun K Q' hK => ?_); go_simp; refine hK _ _ ?_; clear hK K; try clear Q')) | skip
      clear c_0_1 c_1_1
      first | go_skip | (iterate 1 (refine wpList_stepQ (o := { dst := _, op := _, type := _, pos := _, after := _, guard := some (5, false) }) (fun K Q' hK => ?_); go_simp; refine hK _ _ ?_; clear hK K; try clear Q')) | skip
      iterate 2 (refine wpList_plainQ rfl (fun K Q' hK => ?_); go_simp; refine hK _ _ ?_; clear hK K; try clear Q')
      refine wpList_nil ?_
      show Code.wp _ _ _ _ _
      -- stops at: ret
      refine wp_ret ?_
      go_ret
      exact ⟨by rw [hr]; rfl, h2.post.keep⟩
    · have d2 : (a.1 == b.1) = false := by simp [h2]
      have hr : El.lt a b = false := by simp [El.lt, h1, h2]
      clear h1 h2
      go_enter Tryz.func26, Tryz.ntmps26
      have h0 := St.start hpre
      refine wp_seq ?_
      refine wp_region_lit ?_
      refine wpList_plainQ rfl (fun K Q' hK => ?_); go_simp
      refine h0.k_alloc (fun w1 h1 => ?_)
      refine hK _ _ ?_; clear hK K; try clear Q'
      refine wpList_plainQ rfl (fun K Q' hK => ?_); go_simp
      refine h1.k_alloc (fun w2 h2 => ?_)
      refine hK _ _ ?_; clear hK K; try clear Q'
      iterate 1 (refine wpList_plainQ rfl (fun K Q' hK => ?_); go_simp; refine hK _ _ ?_; clear hK K; try clear Q')
      refine wpList_nil ?_
      show Code.wp _ _ _ _ _
      refine wp_seq ?_
      refine wp_region_lit ?_
      have c_0_0 := h2.cell 0 rfl 0 rfl
      have c_1_0 := h2.cell 1 rfl 0 rfl
      iterate 6 (refine wpList_plainQ rfl (fun K Q' hK => ?_); go_simp; refine hK _ _ ?_; clear hK K; try clear Q')
      clear c_0_0 c_1_0
      have c_0_0 := h2.cell 0 rfl 0 rfl
      have c_1_0 := h2.cell 1 rfl 0 rfl
      first | go_skip | (iterate 6 (refine wpList_stepQ (o := { dst := _, op := _, type := _, pos := _, after := _, guard := some (5, false) }) (fun K Q' hK => ?_); go_simp; refine hK _ _ ?_; clear hK K; try clear Q')) | skip
      clear c_0_0 c_1_0
      have c_0_1 := h2.cell 0 rfl 1 rfl
      have c_1_1 := h2.cell 1 rfl 1 rfl
      first | go_skip | (iterate 5 (refine wpList_stepQ (o := { dst := _, op := _, type := _, pos := _, after := _, guard := some (11, true) }) (fun K Q' hK => ?_); go_simp; refine hK _ _ ?_; clear hK K; try clear Q')) | skip
      clear c_0_1 c_1_1
      first | go_skip | (iterate 1 (refine wpList_stepQ (o := { dst := _, op := _, type := _, pos := _, after := _, guard := some (5, false) }) (fun K Q' hK => ?_); go_simp; refine hK _ _ ?_; clear hK K; try clear Q')) | skip
      iterate 2 (refine wpList_plainQ rfl (fun K Q' hK => ?_); go_simp; refine hK _ _ ?_; clear hK K; try clear Q')
      refine wpList_nil ?_
      show Code.wp _ _ _ _ _
      -- stops at: ret
      refine wp_ret ?_
      go_ret
      exact ⟨by rw [hr]; rfl, h2.post.keep⟩

theorem isnan_ok (H : GH) (w : World) (x : Int) (hf : Fits w H) :
    Calls Tryz.prog 105 #[.int .i64 x] w fun e w' => e = .returned (.bool false) ∧ Keep none w w' := by
  have hpre : Pre w H none 0 0 := Pre.none hf 0 0
  go_enter Tryz.func105, Tryz.ntmps105
  have h0 := St.start hpre
  refine wp_seq ?_
  refine wp_region_lit ?_
  iterate 1 (refine wpList_plainQ rfl (fun K Q' hK => ?_); go_simp; refine hK _ _ ?_; clear hK K; try clear Q')
  refine wpList_nil ?_
  show Code.wp _ _ _ _ _
  refine wp_seq ?_
  refine wp_region_lit ?_
  iterate 4 (refine wpList_plainQ rfl (fun K Q' hK => ?_); go_simp; refine hK _ _ ?_; clear hK K; try clear Q')
  refine wpList_nil ?_
  show Code.wp _ _ _ _ _
  -- stops at: ret
  refine wp_ret ?_
  go_ret
  exact ⟨rfl, h0.post.keep⟩

/-- How two numbers stand. -/
def cmpI (x y : Int) : Int := if x < y then -1 else if y < x then 1 else 0
set_option maxRecDepth 100000 in
set_option maxHeartbeats 1000000 in
theorem cmp_ok (H : GH) (w : World) (x y : Int) (hf : Fits w H) :
    Calls Tryz.prog 96 #[.int .i64 x, .int .i64 y] w fun e w' => e = .returned (.int .i64 (cmpI x y)) ∧ Keep none w w' := by
  have hpre : Pre w H none 0 0 := Pre.none hf 0 0
  go_enter Tryz.func96, Tryz.ntmps96
  have h0 := St.start hpre
  refine wp_seq ?_
  refine wp_region_lit ?_
  iterate 1 (refine wpList_plainQ rfl (fun K Q' hK => ?_); go_simp; refine hK _ _ ?_; clear hK K; try clear Q')
  refine wpList_nil ?_
  show Code.wp _ _ _ _ _
  refine wp_seq ?_
  refine wp_region_lit ?_
  iterate 1 (refine wpList_plainQ rfl (fun K Q' hK => ?_); go_simp; refine hK _ _ ?_; clear hK K; try clear Q')
  -- stops at: eff:call (Go.Op.call {'callee': (Go.Callee.value (Go.Operand.func 105)), 'args': [(Go.Operand.tmp 7)], 'argTypes': [2]}) slot 8
  refine wpList_plainQ rfl (fun K Q' hK => ?_); go_simp
  refine (isnan_ok H _ x h0.fits).mono ?_
  rintro e wA ⟨rfl, hkA⟩
  have h1 := h0.callk hkA
  refine hK _ _ ?_; clear hK K; try clear Q'
  iterate 1 (refine wpList_plainQ rfl (fun K Q' hK => ?_); go_simp; refine hK _ _ ?_; clear hK K; try clear Q')
  refine wpList_nil ?_
  show Code.wp _ _ _ _ _
  refine wp_seq ?_
  refine wp_region_lit ?_
  iterate 1 (refine wpList_plainQ rfl (fun K Q' hK => ?_); go_simp; refine hK _ _ ?_; clear hK K; try clear Q')
  -- stops at: eff:call (Go.Op.call {'callee': (Go.Callee.value (Go.Operand.func 105)), 'args': [(Go.Operand.tmp 9)], 'argTypes': [2]}) slot 10
  refine wpList_plainQ rfl (fun K Q' hK => ?_); go_simp
  refine (isnan_ok H _ y h1.fits).mono ?_
  rintro e wB ⟨rfl, hkB⟩
  have h2 := h1.callk hkB
  refine hK _ _ ?_; clear hK K; try clear Q'
  iterate 1 (refine wpList_plainQ rfl (fun K Q' hK => ?_); go_simp; refine hK _ _ ?_; clear hK K; try clear Q')
  refine wpList_nil ?_
  show Code.wp _ _ _ _ _
  refine wp_seq ?_
  refine wp_seq ?_
  refine wp_region_lit ?_
  iterate 1 (refine wpList_plainQ rfl (fun K Q' hK => ?_); go_simp; refine hK _ _ ?_; clear hK K; try clear Q')
  refine wpList_nil ?_
  show Code.wp _ _ _ _ _
  -- stops at: cond
  refine wp_cond_false (rfl) ?_
  refine wp_skip ?_
  show Code.wp _ _ _ _ _
  refine wp_seq ?_
  refine wp_seq ?_
  refine wp_region_lit ?_
  iterate 1 (refine wpList_plainQ rfl (fun K Q' hK => ?_); go_simp; refine hK _ _ ?_; clear hK K; try clear Q')
  refine wpList_nil ?_
  show Code.wp _ _ _ _ _
  -- stops at: cond
  refine wp_cond_false (rfl) ?_
  refine wp_skip ?_
  show Code.wp _ _ _ _ _
  refine wp_seq ?_
  refine wp_seq ?_
  refine wp_region_lit ?_
  iterate 3 (refine wpList_plainQ rfl (fun K Q' hK => ?_); go_simp; refine hK _ _ ?_; clear hK K; try clear Q')
  refine wpList_nil ?_
  show Code.wp _ _ _ _ _
  -- stops at: cond
  by_cases h1 : x < y
  · have d1 : decide (x < y) = true := decide_eq_true h1
    have hr : cmpI x y = -1 := by simp [cmpI, h1]
    clear h1
    refine wp_cond_true (congrArg Value.bool d1) ?_
    refine wp_seq ?_
    refine wp_region_lit ?_
    iterate 1 (refine wpList_plainQ rfl (fun K Q' hK => ?_); go_simp; refine hK _ _ ?_; clear hK K; try clear Q')
    refine wpList_nil ?_
    show Code.wp _ _ _ _ _
    -- stops at: ret
    refine wp_ret ?_
    go_ret
    exact ⟨by rw [hr]; rfl, h2.post.keep⟩
  · have d1 : decide (x < y) = false := decide_eq_false h1
    by_cases h2 : y < x
    · have d2 : decide (y < x) = true := decide_eq_true h2
      have hr : cmpI x y = 1 := by simp [cmpI, h1, h2]
      clear h1 h2
      refine wp_cond_false (congrArg Value.bool d1) ?_
      refine wp_skip ?_
      show Code.wp _ _ _ _ _
      refine wp_seq ?_
      refine wp_seq ?_
      refine wp_region_lit ?_
      iterate 3 (refine wpList_plainQ rfl (fun K Q' hK => ?_); go_simp; refine hK _ _ ?_; clear hK K; try clear Q')
      refine wpList_nil ?_
      show Code.wp _ _ _ _ _
      -- stops at: cond
      refine wp_cond_true (rfl) ?_
      refine wp_seq ?_
      refine wp_region_lit ?_
      iterate 1 (refine wpList_plainQ rfl (fun K Q' hK => ?_); go_simp; refine hK _ _ ?_; clear hK K; try clear Q')
      refine wpList_nil ?_
      show Code.wp _ _ _ _ _
      -- stops at: ret
      refine wp_ret ?_
      go_ret
      exact ⟨by rw [hr]; rfl, h2.post.keep⟩
    · have d2 : decide (y < x) = false := decide_eq_false h2
      have hr : cmpI x y = 0 := by simp [cmpI, h1, h2]
      clear h1 h2
      refine wp_cond_false (congrArg Value.bool d1) ?_
      refine wp_skip ?_
      show Code.wp _ _ _ _ _
      refine wp_seq ?_
      refine wp_seq ?_
      refine wp_region_lit ?_
      iterate 3 (refine wpList_plainQ rfl (fun K Q' hK => ?_); go_simp; refine hK _ _ ?_; clear hK K; try clear Q')
      refine wpList_nil ?_
      show Code.wp _ _ _ _ _
      -- stops at: cond
      refine wp_cond_false (rfl) ?_
      refine wp_skip ?_
      show Code.wp _ _ _ _ _
      refine wp_seq ?_
      refine wp_region_lit ?_
      iterate 1 (refine wpList_plainQ rfl (fun K Q' hK => ?_); go_simp; refine hK _ _ ?_; clear hK K; try clear Q')
      refine wpList_nil ?_
      show Code.wp _ _ _ _ _
      -- stops at: ret
      refine wp_ret ?_
      go_ret
      exact ⟨by rw [hr]; rfl, h2.post.keep⟩

/-- The first number that is not 0. -/
def orI (x y : Int) : Int := if x = 0 then y else x
set_option maxRecDepth 100000 in
set_option maxHeartbeats 1000000 in
theorem or_ok (H : GH) (w : World) (v : Value) (x y : Int) (hf : Fits w H) (hr : SliceRep H 1 v 2 [.int .i64 x, .int .i64 y]) :
    Calls Tryz.prog 95 #[v] w fun e w' => e = .returned (.int .i64 (orI x y)) ∧ Keep none w w' := by
  have hpre : Pre w H none 0 0 := Pre.none hf 0 0
  obtain ⟨b, off, cap, rfl, _, _⟩ := hr.ne_nil (by omega)
  go_enter Tryz.func95, Tryz.ntmps95
  have h0 := St.start hpre
  refine wp_seq ?_
  refine wp_region_lit ?_
  iterate 1 (refine wpList_plainQ rfl (fun K Q' hK => ?_); go_simp; refine hK _ _ ?_; clear hK K; try clear Q')
  refine wpList_nil ?_
  show Code.wp _ _ _ _ _
  refine wp_seq ?_
  refine wp_region_lit ?_
  iterate 1 (refine wpList_plainQ rfl (fun K Q' hK => ?_); go_simp; refine hK _ _ ?_; clear hK K; try clear Q')
  refine wpList_nil ?_
  show Code.wp _ _ _ _ _
  refine wp_seq ?_
  refine wp_seq ?_
  refine wp_region_lit ?_
  iterate 3 (refine wpList_plainQ rfl (fun K Q' hK => ?_); go_simp; refine hK _ _ ?_; clear hK K; try clear Q')
  refine wpList_nil ?_
  show Code.wp _ _ _ _ _
  refine wp_block ?_
  -- stops at: loop
  go_loopw [8] (fun v8 wr => ((v8 = .int .i64 0) ∨ (v8 = .int .i64 1 ∧ Hid (x = 0)) ∨ (v8 = .int .i64 2 ∧ Hid (x = 0 ∧ y = 0))) ∧ St w H none 0 0 wr H [] []) (fun v8 _ => 2 - (intOf v8).toNat)
  case atStart => exact ⟨.inl rfl, h0⟩
  case round =>
    obtain ⟨hv, hs1⟩ := hrel
    rcases hv with rfl | ⟨rfl, hx⟩ | ⟨rfl, hx⟩
    · skip
      by_cases h0 : x = 0
      · have d : (x != 0) = false := by simp [h0]
        have hx : Hid (x = 0) := h0
        clear h0
        refine wp_seq ?_
        refine wp_region_lit ?_
        iterate 1 (refine wpList_plainQ rfl (fun K Q' hK => ?_); go_simp; refine hK _ _ ?_; clear hK K; try clear Q')
        refine wpList_nil ?_
        show Code.wp _ _ _ _ _
        refine wp_seq ?_
        -- stops at: cond
        refine wp_cond_true (rfl) ?_
        refine wp_skip ?_
        show Code.wp _ _ _ _ _
        refine wp_seq ?_
        refine wp_block ?_
        refine wp_seq ?_
        refine wp_region_lit ?_
        iterate 1 (refine wpList_plainQ rfl (fun K Q' hK => ?_); go_simp; refine hK _ _ ?_; clear hK K; try clear Q')
        -- stops at: load (Go.Op.load 3 (Go.Operand.tmp 10)) slot 11
        have ce : wr.cell? ⟨b, off, none⟩ = some (.int .i64 x) := hr.cell hs1.fits 0 rfl
        iterate 1 (refine wpList_plainQ rfl (fun K Q' hK => ?_); go_simp; refine hK _ _ ?_; clear hK K; try clear Q')
        clear ce
        iterate 1 (refine wpList_plainQ rfl (fun K Q' hK => ?_); go_simp; refine hK _ _ ?_; clear hK K; try clear Q')
        refine wpList_nil ?_
        show Code.wp _ _ _ _ _
        refine wp_seq ?_
        refine wp_region_lit ?_
        iterate 3 (refine wpList_plainQ rfl (fun K Q' hK => ?_); go_simp; refine hK _ _ ?_; clear hK K; try clear Q')
        refine wpList_nil ?_
        show Code.wp _ _ _ _ _
        -- stops at: cond
        refine wp_cond_false (rfl) ?_
        refine wp_skip ?_
        show Code.wp _ _ _ _ _
        refine wp_region_lit ?_
        iterate 2 (refine wpList_plainQ rfl (fun K Q' hK => ?_); go_simp; refine hK _ _ ?_; clear hK K; try clear Q')
        refine wpList_nil ?_
        -- stops at: end ('roundend',)
        show _ ∧ _
        go_roundw
        case rel => exact ⟨.inr (.inl ⟨rfl, hx⟩), hs1⟩
        case measure => simp [intOf]; decide
      · have d : (x != 0) = true := by simp [h0]
        have hx : orI x y = x := by simp [orI, h0]
        clear h0
        refine wp_seq ?_
        refine wp_region_lit ?_
        iterate 1 (refine wpList_plainQ rfl (fun K Q' hK => ?_); go_simp; refine hK _ _ ?_; clear hK K; try clear Q')
        refine wpList_nil ?_
        show Code.wp _ _ _ _ _
        refine wp_seq ?_
        -- stops at: cond
        refine wp_cond_true (rfl) ?_
        refine wp_skip ?_
        show Code.wp _ _ _ _ _
        refine wp_seq ?_
        refine wp_block ?_
        refine wp_seq ?_
        refine wp_region_lit ?_
        iterate 1 (refine wpList_plainQ rfl (fun K Q' hK => ?_); go_simp; refine hK _ _ ?_; clear hK K; try clear Q')
        -- stops at: load (Go.Op.load 3 (Go.Operand.tmp 10)) slot 11
        have ce : wr.cell? ⟨b, off, none⟩ = some (.int .i64 x) := hr.cell hs1.fits 0 rfl
        iterate 1 (refine wpList_plainQ rfl (fun K Q' hK => ?_); go_simp; refine hK _ _ ?_; clear hK K; try clear Q')
        clear ce
        iterate 1 (refine wpList_plainQ rfl (fun K Q' hK => ?_); go_simp; refine hK _ _ ?_; clear hK K; try clear Q')
        refine wpList_nil ?_
        show Code.wp _ _ _ _ _
        refine wp_seq ?_
        refine wp_region_lit ?_
        iterate 3 (refine wpList_plainQ rfl (fun K Q' hK => ?_); go_simp; refine hK _ _ ?_; clear hK K; try clear Q')
        refine wpList_nil ?_
        show Code.wp _ _ _ _ _
        -- stops at: cond
        refine wp_cond_true (rfl) ?_
        refine wp_seq ?_
        refine wp_region_lit ?_
        iterate 2 (refine wpList_plainQ rfl (fun K Q' hK => ?_); go_simp; refine hK _ _ ?_; clear hK K; try clear Q')
        refine wpList_nil ?_
        show Code.wp _ _ _ _ _
        -- stops at: ret
        refine wp_ret ?_
        go_ret
        exact ⟨by rw [hx]; rfl, hs1.post.keep⟩
    · skip
      have hx2 : orI x y = y := by simp [orI, hx.out]
      by_cases h0 : y = 0
      · have d : (y != 0) = false := by simp [h0]
        have hy : Hid (x = 0 ∧ y = 0) := ⟨hx.out, h0⟩
        clear h0
        refine wp_seq ?_
        refine wp_region_lit ?_
        iterate 1 (refine wpList_plainQ rfl (fun K Q' hK => ?_); go_simp; refine hK _ _ ?_; clear hK K; try clear Q')
        refine wpList_nil ?_
        show Code.wp _ _ _ _ _
        refine wp_seq ?_
        -- stops at: cond
        refine wp_cond_true (rfl) ?_
        refine wp_skip ?_
        show Code.wp _ _ _ _ _
        refine wp_seq ?_
        refine wp_block ?_
        refine wp_seq ?_
        refine wp_region_lit ?_
        iterate 1 (refine wpList_plainQ rfl (fun K Q' hK => ?_); go_simp; refine hK _ _ ?_; clear hK K; try clear Q')
        -- stops at: load (Go.Op.load 3 (Go.Operand.tmp 10)) slot 11
        have ce := hr.cell hs1.fits 1 rfl
        iterate 1 (refine wpList_plainQ rfl (fun K Q' hK => ?_); go_simp; refine hK _ _ ?_; clear hK K; try clear Q')
        clear ce
        iterate 1 (refine wpList_plainQ rfl (fun K Q' hK => ?_); go_simp; refine hK _ _ ?_; clear hK K; try clear Q')
        refine wpList_nil ?_
        show Code.wp _ _ _ _ _
        refine wp_seq ?_
        refine wp_region_lit ?_
        iterate 3 (refine wpList_plainQ rfl (fun K Q' hK => ?_); go_simp; refine hK _ _ ?_; clear hK K; try clear Q')
        refine wpList_nil ?_
        show Code.wp _ _ _ _ _
        -- stops at: cond
        refine wp_cond_false (rfl) ?_
        refine wp_skip ?_
        show Code.wp _ _ _ _ _
        refine wp_region_lit ?_
        iterate 2 (refine wpList_plainQ rfl (fun K Q' hK => ?_); go_simp; refine hK _ _ ?_; clear hK K; try clear Q')
        refine wpList_nil ?_
        -- stops at: end ('roundend',)
        show _ ∧ _
        go_roundw
        case rel => exact ⟨.inr (.inr ⟨rfl, hy⟩), hs1⟩
        case measure => simp [intOf]; decide
      · have d : (y != 0) = true := by simp [h0]
        clear h0
        refine wp_seq ?_
        refine wp_region_lit ?_
        iterate 1 (refine wpList_plainQ rfl (fun K Q' hK => ?_); go_simp; refine hK _ _ ?_; clear hK K; try clear Q')
        refine wpList_nil ?_
        show Code.wp _ _ _ _ _
        refine wp_seq ?_
        -- stops at: cond
        refine wp_cond_true (rfl) ?_
        refine wp_skip ?_
        show Code.wp _ _ _ _ _
        refine wp_seq ?_
        refine wp_block ?_
        refine wp_seq ?_
        refine wp_region_lit ?_
        iterate 1 (refine wpList_plainQ rfl (fun K Q' hK => ?_); go_simp; refine hK _ _ ?_; clear hK K; try clear Q')
        -- stops at: load (Go.Op.load 3 (Go.Operand.tmp 10)) slot 11
        have ce := hr.cell hs1.fits 1 rfl
        iterate 1 (refine wpList_plainQ rfl (fun K Q' hK => ?_); go_simp; refine hK _ _ ?_; clear hK K; try clear Q')
        clear ce
        iterate 1 (refine wpList_plainQ rfl (fun K Q' hK => ?_); go_simp; refine hK _ _ ?_; clear hK K; try clear Q')
        refine wpList_nil ?_
        show Code.wp _ _ _ _ _
        refine wp_seq ?_
        refine wp_region_lit ?_
        iterate 3 (refine wpList_plainQ rfl (fun K Q' hK => ?_); go_simp; refine hK _ _ ?_; clear hK K; try clear Q')
        refine wpList_nil ?_
        show Code.wp _ _ _ _ _
        -- stops at: cond
        refine wp_cond_true (rfl) ?_
        refine wp_seq ?_
        refine wp_region_lit ?_
        iterate 2 (refine wpList_plainQ rfl (fun K Q' hK => ?_); go_simp; refine hK _ _ ?_; clear hK K; try clear Q')
        refine wpList_nil ?_
        show Code.wp _ _ _ _ _
        -- stops at: ret
        refine wp_ret ?_
        go_ret
        exact ⟨by rw [hx2]; rfl, hs1.post.keep⟩
    · skip
      have hx2 : orI x y = 0 := by simp [orI, hx.out.1, hx.out.2]
      refine wp_seq ?_
      refine wp_region_lit ?_
      iterate 1 (refine wpList_plainQ rfl (fun K Q' hK => ?_); go_simp; refine hK _ _ ?_; clear hK K; try clear Q')
      refine wpList_nil ?_
      show Code.wp _ _ _ _ _
      refine wp_seq ?_
      -- stops at: cond
      refine wp_cond_false (rfl) ?_
      refine wp_exit ?_
      show Code.wp _ _ _ _ _
      refine wp_seq ?_
      refine wp_region_lit ?_
      iterate 2 (refine wpList_plainQ rfl (fun K Q' hK => ?_); go_simp; refine hK _ _ ?_; clear hK K; try clear Q')
      refine wpList_nil ?_
      show Code.wp _ _ _ _ _
      -- stops at: ret
      refine wp_ret ?_
      go_ret
      exact ⟨by rw [hx2]; rfl, hs1.post.keep⟩

def cmpE (a b : El) : Int := orI (cmpI a.1 b.1) (cmpI a.2 b.2)
theorem cmpE_self (a : El) : cmpE a a = 0 := by simp [cmpE, orI, cmpI]
theorem cmpE_lt (a b : El) : decide (cmpE a b < 0) = El.lt a b := by
  unfold cmpE orI cmpI El.lt
  by_cases h1 : a.1 < b.1
  · simp [h1]
  · by_cases h2 : b.1 < a.1
    · have : a.1 ≠ b.1 := by omega
      simp [h1, h2, this]
    · have : a.1 = b.1 := by omega
      simp only [this]
      by_cases h3 : a.2 < b.2
      · simp [h3]
      · by_cases h4 : b.2 < a.2 <;> simp [h3, h4]

set_option maxRecDepth 100000 in
set_option maxHeartbeats 1000000 in
theorem compare_ok (H : GH) (w : World) (a b : El) (hf : Fits w H) :
    Calls Tryz.prog 75 #[elV a, elV b] w fun e w' => ∃ H', e = .returned (.int .i64 (cmpE a b)) ∧ Post w H none w' H' 0 0 := by
  have hpre : Pre w H none 0 0 := Pre.none hf 0 0
  by_cases hab : a = b
  · subst hab
    go_enter Tryz.func75, Tryz.ntmps75
    have h0 := St.start hpre
    refine wp_seq ?_
    refine wp_region_lit ?_
    refine wpList_plainQ rfl (fun K Q' hK => ?_); go_simp
    refine h0.k_alloc (fun w1 h1 => ?_)
    refine hK _ _ ?_; clear hK K; try clear Q'
    refine wpList_plainQ rfl (fun K Q' hK => ?_); go_simp
    refine h1.k_alloc (fun w2 h2 => ?_)
    refine hK _ _ ?_; clear hK K; try clear Q'
    iterate 1 (refine wpList_plainQ rfl (fun K Q' hK => ?_); go_simp; refine hK _ _ ?_; clear hK K; try clear Q')
    refine wpList_nil ?_
    show Code.wp _ _ _ _ _
    refine wp_seq ?_
    refine wp_seq ?_
    refine wp_region_lit ?_
    have c_0_0 := h2.cell 0 rfl 0 rfl
    have c_0_1 := h2.cell 0 rfl 1 rfl
    have c_1_0 := h2.cell 1 rfl 0 rfl
    have c_1_1 := h2.cell 1 rfl 1 rfl
    iterate 3 (refine wpList_plainQ rfl (fun K Q' hK => ?_); go_simp; refine hK _ _ ?_; clear hK K; try clear Q')
    clear c_0_0 c_0_1 c_1_0 c_1_1
    refine wpList_nil ?_
    show Code.wp _ _ _ _ _
    -- stops at: cond
    refine wp_cond_true (rfl) ?_
    refine wp_seq ?_
    refine wp_region_lit ?_
    iterate 1 (refine wpList_plainQ rfl (fun K Q' hK => ?_); go_simp; refine hK _ _ ?_; clear hK K; try clear Q')
    refine wpList_nil ?_
    show Code.wp _ _ _ _ _
    -- stops at: ret
    refine wp_ret ?_
    go_ret
    exact ⟨H, by rw [cmpE_self]; rfl, h2.post⟩
  · have hab1 : ∀ {α : Type} (x y : α), (if a.1 = b.1 then if a.2 = b.2 then x else y else y) = y := by
      intro α x y
      split
      · split
        · exact absurd (Prod.ext ‹_› ‹_›) hab
        · rfl
      · rfl
    clear hab
    go_enter Tryz.func75, Tryz.ntmps75
    have h0 := St.start hpre
    refine wp_seq ?_
    refine wp_region_lit ?_
    refine wpList_plainQ rfl (fun K Q' hK => ?_); go_simp
    refine h0.k_alloc (fun w1 h1 => ?_)
    refine hK _ _ ?_; clear hK K; try clear Q'
    refine wpList_plainQ rfl (fun K Q' hK => ?_); go_simp
    refine h1.k_alloc (fun w2 h2 => ?_)
    refine hK _ _ ?_; clear hK K; try clear Q'
    iterate 1 (refine wpList_plainQ rfl (fun K Q' hK => ?_); go_simp; refine hK _ _ ?_; clear hK K; try clear Q')
    refine wpList_nil ?_
    show Code.wp _ _ _ _ _
    refine wp_seq ?_
    refine wp_seq ?_
    refine wp_region_lit ?_
    have c_0_0 := h2.cell 0 rfl 0 rfl
    have c_0_1 := h2.cell 0 rfl 1 rfl
    have c_1_0 := h2.cell 1 rfl 0 rfl
    have c_1_1 := h2.cell 1 rfl 1 rfl
    iterate 3 (refine wpList_plainQ rfl (fun K Q' hK => ?_); go_simp; refine hK _ _ ?_; clear hK K; try clear Q')
    clear c_0_0 c_0_1 c_1_0 c_1_1
    refine wpList_nil ?_
    show Code.wp _ _ _ _ _
    -- stops at: cond
    refine wp_cond_false (rfl) ?_
    refine wp_skip ?_
    show Code.wp _ _ _ _ _
    refine wp_seq ?_
    refine h2.region [0, 1] [(0, true), (1, true), (2, true), (3, true), (5, true), (6, true), (7, true), (8, true), (4, false), (9, false), (10, false), (11, false), (12, true)] (by kernel_rfl) (by kernel_rfl) (fun w3 h3 => ?_)
    refine wpOrd_hide (fun _ _ d _ _ h => by cases d <;> exact h) (fun QR hQn hQp => ?_)
    simp only [ordOps, List.map_cons, List.map_nil, List.getD_cons_zero, List.getD_cons_succ]
    iterate 8 (refine wpOrd_quiet (v := ?_) rfl (fun _ _ _ => hQp _ _ _ _ _) ?_ ?_; rotate_left; (intro w' hS; have c_0_0 := hS.cell 0 rfl 0 rfl; have c_1_0 := hS.cell 1 rfl 0 rfl; have c_0_1 := hS.cell 0 rfl 1 rfl; have c_1_1 := hS.cell 1 rfl 1 rfl; (first | (go_simp; done) | (go_simp; with_reducible rfl))); simp only [Act.put, List.setIfInBounds_toArray, List.set_cons_zero, List.set_cons_succ])
    -- stops at: eff:call (Go.Op.call {'callee': (Go.Callee.value (Go.Operand.func 96)), 'args': [(Go.Operand.tmp 9), (Go.Operand.tmp 11)], 'argTypes': [2, 2]}) slot 12
    refine wpOrd_effQ rfl (fun K Q' hK => ?_); go_simp
    refine (cmp_ok H _ a.1 b.1 h3.fits).mono ?_
    rintro e wA ⟨rfl, hkA⟩
    have h4 := h3.callk hkA
    refine hK _ _ (h4.sat' (GH.le_refl _) [0, 1] (by kernel_rfl)) ?_; clear hK K; try clear Q'
    -- stops at: eff:call (Go.Op.call {'callee': (Go.Callee.value (Go.Operand.func 96)), 'args': [(Go.Operand.tmp 14), (Go.Operand.tmp 16)], 'argTypes': [2, 2]}) slot 17
    refine wpOrd_effQ rfl (fun K Q' hK => ?_); go_simp
    refine (cmp_ok H _ a.2 b.2 h4.fits).mono ?_
    rintro e wB ⟨rfl, hkB⟩
    have h5 := h4.callk hkB
    refine hK _ _ (h5.sat' (GH.le_refl _) [0, 1] (by kernel_rfl)) ?_; clear hK K; try clear Q'
    refine wpOrd_effQ rfl (fun K Q' hK => ?_); go_simp
    refine h5.k_alloc (fun w6 h6 => ?_)
    refine hK _ _ (h6.sat' (GH.le_refl _) [0, 1] (by kernel_rfl)) ?_; clear hK K; try clear Q'
    -- stops at: eff:call (Go.Op.call {'callee': (Go.Callee.value (Go.Operand.func 95)), 'args': [(Go.Operand.tmp 18)], 'argTypes': [172]}) slot 19
    obtain ⟨H1, hA, rA, leA⟩ := (h6.rowOf 2 rfl 1 2 rfl (by unfold maxLen; omega)).settleRow 0 rfl
    refine wpOrd_effQ rfl (fun K Q' hK => ?_); go_simp
    refine (or_ok H1 _ _ _ _ hA.fits rA).mono ?_
    rintro e wC ⟨rfl, hkC⟩
    have h8 := hA.callk hkC
    refine hK _ _ (h8.sat' leA [0, 1] (by kernel_rfl)) ?_; clear hK K; try clear Q'
    iterate 1 (refine wpOrd_quiet (v := ?_) rfl (fun _ _ _ => hQp _ _ _ _ _) ?_ ?_; rotate_left; (intro w' hS; (first | (go_simp; done) | (go_simp; with_reducible rfl))); simp only [Act.put, List.setIfInBounds_toArray, List.set_cons_zero, List.set_cons_succ])
    refine wpOrd_nil (hQn _ _ ?_); clear hQn hQp QR
    show Code.wp _ _ _ _ _
    -- stops at: ret
    refine wp_ret ?_
    go_ret
    exact ⟨H1, rfl, h8.post⟩

set_option maxRecDepth 100000 in
set_option maxHeartbeats 1000000 in
theorem eless_ok (H : GH) (w : World) (a b : El) (hf : Fits w H) :
    Calls Tryz.prog 43 #[elV a, elV b] w fun e w' => ∃ H', e = .returned (.bool (El.lt a b)) ∧ Post w H none w' H' 0 0 := by
  have hpre : Pre w H none 0 0 := Pre.none hf 0 0
  go_enter Tryz.func43, Tryz.ntmps43
  have h0 := St.start hpre
  refine wp_seq ?_
  refine wp_region_lit ?_
  refine wpList_plainQ rfl (fun K Q' hK => ?_); go_simp
  refine h0.k_alloc (fun w1 h1 => ?_)
  refine hK _ _ ?_; clear hK K; try clear Q'
  refine wpList_plainQ rfl (fun K Q' hK => ?_); go_simp
  refine h1.k_alloc (fun w2 h2 => ?_)
  refine hK _ _ ?_; clear hK K; try clear Q'
  iterate 1 (refine wpList_plainQ rfl (fun K Q' hK => ?_); go_simp; refine hK _ _ ?_; clear hK K; try clear Q')
  refine wpList_nil ?_
  show Code.wp _ _ _ _ _
  refine wp_seq ?_
  refine wp_region_lit ?_
  have c_0_0 := h2.cell 0 rfl 0 rfl
  have c_0_1 := h2.cell 0 rfl 1 rfl
  have c_1_0 := h2.cell 1 rfl 0 rfl
  have c_1_1 := h2.cell 1 rfl 1 rfl
  iterate 2 (refine wpList_plainQ rfl (fun K Q' hK => ?_); go_simp; refine hK _ _ ?_; clear hK K; try clear Q')
  clear c_0_0 c_0_1 c_1_0 c_1_1
  -- stops at: eff:call (Go.Op.call {'callee': (Go.Callee.value (Go.Operand.func 75)), 'args': [(Go.Operand.tmp 5), (Go.Operand.tmp 6)], 'argTypes': [32, 32]}) slot 7
  refine wpList_plainQ rfl (fun K Q' hK => ?_); go_simp
  refine (compare_ok H _ a b h2.fits).mono ?_
  rintro e wA ⟨H1, rfl, hpA⟩
  have h3 := h2.call0 hpA
  refine hK _ _ ?_; clear hK K; try clear Q'
  iterate 2 (refine wpList_plainQ rfl (fun K Q' hK => ?_); go_simp; refine hK _ _ ?_; clear hK K; try clear Q')
  refine wpList_nil ?_
  show Code.wp _ _ _ _ _
  -- stops at: ret
  refine wp_ret ?_
  go_ret
  exact ⟨H1, by rw [← cmpE_lt]; rfl, h3.post⟩

/-! ### Meters -/
/-- A meter, or none, as a value. -/
abbrev mV (m : Option Nat) : Value := .pointer (m.map fun b => ⟨b, 0, none⟩)

theorem pre_bump {w : World} {H : GH} {b : Nat} {c d c' d' : Int} (h : Pre w H (some b) c d) {w' : World} (hb : w'.heap[b]? = some (meterObj c' d')) (hs : w.heap.size ≤ w'.heap.size) (ho : w'.os = w.os) (ht : w'.tape = w.tape) (hou : w'.output = w.output)
    (hk : ∀ k, k < w.heap.size → k ≠ b → w'.heap[k]? = w.heap[k]?) : Post w H (some b) w' H c' d' := by
  have hH : H b = none := h.apart b rfl
  refine ⟨⟨ho, ht, hou, hs, fun k hk' hm => hk k hk' (fun e => hm (by rw [e]))⟩, GH.le_refl _, fun _ _ e => .inl e, fun _ _ e => .inl e, ⟨fun k o e => ?_, fun k e => by obtain rfl := Option.some.inj e; exact hb, h.apart⟩⟩
  rw [hk k (h.fits.lt e) (fun e2 => by rw [e2, hH] at e; cases e)]; exact h.fits k o e
theorem wrap_wrap_add (a b : Int) : IntKind.i64.wrap (IntKind.i64.wrap a + b) = IntKind.i64.wrap (a + b) := by
  simp only [IntKind.wrap_i64]; omega

set_option maxRecDepth 100000 in
set_option maxHeartbeats 1000000 in
theorem add0_ok (H : GH) (w : World) (b : Nat) (c d n : Int) (hpre : Pre w H (some b) c d) :
    Calls Tryz.prog 42 #[.pointer (some ⟨b, 0, none⟩), .int .i64 n] w fun e w' => ∃ v, e = .returned v ∧ Post w H (some b) w' H (c + n) (d) := by
  go_enter Tryz.func42, Tryz.ntmps42
  have h0 := St.start hpre
  have hb := h0.pre.meter b rfl
  have hc : w.cell? ⟨b, 0, none⟩ = some (.int .i64 (IntKind.i64.wrap c)) := by rw [blk_cell hb]; rfl
  have hz : w.frozen? ⟨b, 0, none⟩ = false := blk_free hb 0
  have hadd := run_call_add (P := Tryz.prog) Tryz.func74 (by kernel_rfl) (by kernel_rfl) (by kernel_rfl) .i64 (by kernel_rfl) (y := n) (s := IntKind.i64.wrap (c + n)) hc hz (by simp [go_sem, wrap_wrap_add])
  have hP : Post w H (some b) (w.setCell ⟨b, 0, none⟩ (.int .i64 (IntKind.i64.wrap (c + n)))) H (c + n) (d) :=
    pre_bump h0.pre (by rw [blk_set _ hb]; rfl) (by simp) rfl rfl rfl fun k _ hne => Below.heap_setCell _ _ _ _ hne
  have hN := h0.call hP
  generalize hW : w.setCell ⟨b, 0, none⟩ (.int .i64 (IntKind.i64.wrap (c + n))) = wA at hadd hP hN
  refine wp_seq ?_
  refine wp_region_lit ?_
  iterate 1 (refine wpList_plainQ rfl (fun K Q' hK => ?_); go_simp; refine hK _ _ ?_; clear hK K; try clear Q')
  refine wpList_nil ?_
  show Code.wp _ _ _ _ _
  refine wp_seq ?_
  refine wp_region_lit ?_
  iterate 4 (refine wpList_plainQ rfl (fun K Q' hK => ?_); go_simp; refine hK _ _ ?_; clear hK K; try clear Q')
  -- stops at: eff:call (Go.Op.call {'callee': (Go.Callee.value (Go.Operand.func 74)), 'args': [(Go.Operand.tmp 7), (Go.Operand.tmp 8)], 'argTypes': [130, 2]}) slot 9
  refine wpList_plainQ rfl (fun K Q' hK => ?_); go_simp
  refine hK _ _ ?_; clear hK K; try clear Q'
  iterate 1 (refine wpList_plainQ rfl (fun K Q' hK => ?_); go_simp; refine hK _ _ ?_; clear hK K; try clear Q')
  refine wpList_nil ?_
  show Code.wp _ _ _ _ _
  -- stops at: ret
  refine wp_ret ?_
  go_ret
  exact ⟨_, rfl, hN.post⟩

set_option maxRecDepth 100000 in
set_option maxHeartbeats 1000000 in
theorem add1_ok (H : GH) (w : World) (b : Nat) (c d n : Int) (hpre : Pre w H (some b) c d) :
    Calls Tryz.prog 42 #[.pointer (some ⟨b, 1, none⟩), .int .i64 n] w fun e w' => ∃ v, e = .returned v ∧ Post w H (some b) w' H (c) (d + n) := by
  go_enter Tryz.func42, Tryz.ntmps42
  have h0 := St.start hpre
  have hb := h0.pre.meter b rfl
  have hc : w.cell? ⟨b, 1, none⟩ = some (.int .i64 (IntKind.i64.wrap d)) := by rw [blk_cell hb]; rfl
  have hz : w.frozen? ⟨b, 1, none⟩ = false := blk_free hb 1
  have hadd := run_call_add (P := Tryz.prog) Tryz.func74 (by kernel_rfl) (by kernel_rfl) (by kernel_rfl) .i64 (by kernel_rfl) (y := n) (s := IntKind.i64.wrap (d + n)) hc hz (by simp [go_sem, wrap_wrap_add])
  have hP : Post w H (some b) (w.setCell ⟨b, 1, none⟩ (.int .i64 (IntKind.i64.wrap (d + n)))) H (c) (d + n) :=
    pre_bump h0.pre (by rw [blk_set _ hb]; rfl) (by simp) rfl rfl rfl fun k _ hne => Below.heap_setCell _ _ _ _ hne
  have hN := h0.call hP
  generalize hW : w.setCell ⟨b, 1, none⟩ (.int .i64 (IntKind.i64.wrap (d + n))) = wA at hadd hP hN
  refine wp_seq ?_
  refine wp_region_lit ?_
  iterate 1 (refine wpList_plainQ rfl (fun K Q' hK => ?_); go_simp; refine hK _ _ ?_; clear hK K; try clear Q')
  refine wpList_nil ?_
  show Code.wp _ _ _ _ _
  refine wp_seq ?_
  refine wp_region_lit ?_
  iterate 4 (refine wpList_plainQ rfl (fun K Q' hK => ?_); go_simp; refine hK _ _ ?_; clear hK K; try clear Q')
  -- stops at: eff:call (Go.Op.call {'callee': (Go.Callee.value (Go.Operand.func 74)), 'args': [(Go.Operand.tmp 7), (Go.Operand.tmp 8)], 'argTypes': [130, 2]}) slot 9
  refine wpList_plainQ rfl (fun K Q' hK => ?_); go_simp
  refine hK _ _ ?_; clear hK K; try clear Q'
  iterate 1 (refine wpList_plainQ rfl (fun K Q' hK => ?_); go_simp; refine hK _ _ ?_; clear hK K; try clear Q')
  refine wpList_nil ?_
  show Code.wp _ _ _ _ _
  -- stops at: ret
  refine wp_ret ?_
  go_ret
  exact ⟨_, rfl, hN.post⟩

set_option maxRecDepth 100000 in
set_option maxHeartbeats 1000000 in
theorem load0_ok (H : GH) (w : World) (b : Nat) (c d : Int) (hpre : Pre w H (some b) c d) :
    Calls Tryz.prog 67 #[.pointer (some ⟨b, 0, none⟩)] w fun e w' => e = .returned (.int .i64 (IntKind.i64.wrap c)) ∧ Keep none w w' := by
  go_enter Tryz.func67, Tryz.ntmps67
  have h0 := St.start hpre
  have hb := h0.pre.meter b rfl
  have hc : w.cell? ⟨b, 0, none⟩ = some (.int .i64 (IntKind.i64.wrap c)) := by rw [blk_cell hb]; rfl
  have hadd := run_call_load (P := Tryz.prog) Tryz.func88 (by kernel_rfl) (by kernel_rfl) (by kernel_rfl) .i64 (by kernel_rfl) hc
  refine wp_seq ?_
  refine wp_region_lit ?_
  iterate 1 (refine wpList_plainQ rfl (fun K Q' hK => ?_); go_simp; refine hK _ _ ?_; clear hK K; try clear Q')
  refine wpList_nil ?_
  show Code.wp _ _ _ _ _
  refine wp_seq ?_
  refine wp_region_lit ?_
  iterate 3 (refine wpList_plainQ rfl (fun K Q' hK => ?_); go_simp; refine hK _ _ ?_; clear hK K; try clear Q')
  -- stops at: eff:call (Go.Op.call {'callee': (Go.Callee.value (Go.Operand.func 88)), 'args': [(Go.Operand.tmp 5)], 'argTypes': [130]}) slot 6
  refine wpList_plainQ rfl (fun K Q' hK => ?_); go_simp
  refine hK _ _ ?_; clear hK K; try clear Q'
  iterate 1 (refine wpList_plainQ rfl (fun K Q' hK => ?_); go_simp; refine hK _ _ ?_; clear hK K; try clear Q')
  refine wpList_nil ?_
  show Code.wp _ _ _ _ _
  -- stops at: ret
  refine wp_ret ?_
  go_ret
  exact ⟨rfl, Keep.refl _ _⟩

set_option maxRecDepth 100000 in
set_option maxHeartbeats 1000000 in
theorem load1_ok (H : GH) (w : World) (b : Nat) (c d : Int) (hpre : Pre w H (some b) c d) :
    Calls Tryz.prog 67 #[.pointer (some ⟨b, 1, none⟩)] w fun e w' => e = .returned (.int .i64 (IntKind.i64.wrap d)) ∧ Keep none w w' := by
  go_enter Tryz.func67, Tryz.ntmps67
  have h0 := St.start hpre
  have hb := h0.pre.meter b rfl
  have hc : w.cell? ⟨b, 1, none⟩ = some (.int .i64 (IntKind.i64.wrap d)) := by rw [blk_cell hb]; rfl
  have hadd := run_call_load (P := Tryz.prog) Tryz.func88 (by kernel_rfl) (by kernel_rfl) (by kernel_rfl) .i64 (by kernel_rfl) hc
  refine wp_seq ?_
  refine wp_region_lit ?_
  iterate 1 (refine wpList_plainQ rfl (fun K Q' hK => ?_); go_simp; refine hK _ _ ?_; clear hK K; try clear Q')
  refine wpList_nil ?_
  show Code.wp _ _ _ _ _
  refine wp_seq ?_
  refine wp_region_lit ?_
  iterate 3 (refine wpList_plainQ rfl (fun K Q' hK => ?_); go_simp; refine hK _ _ ?_; clear hK K; try clear Q')
  -- stops at: eff:call (Go.Op.call {'callee': (Go.Callee.value (Go.Operand.func 88)), 'args': [(Go.Operand.tmp 5)], 'argTypes': [130]}) slot 6
  refine wpList_plainQ rfl (fun K Q' hK => ?_); go_simp
  refine hK _ _ ?_; clear hK K; try clear Q'
  iterate 1 (refine wpList_plainQ rfl (fun K Q' hK => ?_); go_simp; refine hK _ _ ?_; clear hK K; try clear Q')
  refine wpList_nil ?_
  show Code.wp _ _ _ _ _
  -- stops at: ret
  refine wp_ret ?_
  go_ret
  exact ⟨rfl, Keep.refl _ _⟩


theorem new_ok (H : GH) (w : World) (hf : Fits w H) :
    Calls Tryz.prog 6 #[] w fun e w' => ∃ b, e = .returned (mV (some b)) ∧ Keep none w w' ∧ w.heap.size ≤ b ∧ w'.heap[b]? = some (meterObj 0 0) := by
  have hpre : Pre w H none 0 0 := Pre.none hf 0 0
  go_enter Tryz.func6, Tryz.ntmps6
  have h0 := St.start hpre
  refine wp_seq ?_
  refine wp_region_lit ?_
  iterate 1 (refine wpList_plainQ rfl (fun K Q' hK => ?_); go_simp; refine hK _ _ ?_; clear hK K; try clear Q')
  refine wpList_nil ?_
  show Code.wp _ _ _ _ _
  refine wp_seq ?_
  refine wp_region_lit ?_
  iterate 1 (refine wpList_plainQ rfl (fun K Q' hK => ?_); go_simp; refine hK _ _ ?_; clear hK K; try clear Q')
  refine wpList_plainQ rfl (fun K Q' hK => ?_); go_simp
  refine h0.k_alloc (fun w1 h1 => ?_)
  refine hK _ _ ?_; clear hK K; try clear Q'
  iterate 1 (refine wpList_plainQ rfl (fun K Q' hK => ?_); go_simp; refine hK _ _ ?_; clear hK K; try clear Q')
  refine wpList_nil ?_
  show Code.wp _ _ _ _ _
  -- stops at: ret
  refine wp_ret ?_
  go_ret
  exact ⟨_, rfl, h1.post.keep, Nat.le_refl _, h1.at (i := 0) rfl⟩

set_option maxRecDepth 100000 in
set_option maxHeartbeats 1000000 in
theorem less_ok (H : GH) (w : World) (m : Option Nat) (c d : Int) (a b : El) (hpre : Pre w H m c d) :
    Calls Tryz.prog 24 #[mV m, elV a, elV b] w fun e w' => ∃ H', e = .returned (.bool (El.lt a b)) ∧ Post w H m w' H' (c + 1) d := by
  cases m with
  | none =>
    go_enter Tryz.func24, Tryz.ntmps24
    have h0 := St.start hpre
    refine wp_seq ?_
    refine wp_region_lit ?_
    refine wpList_plainQ rfl (fun K Q' hK => ?_); go_simp
    refine h0.k_alloc (fun w1 h1 => ?_)
    refine hK _ _ ?_; clear hK K; try clear Q'
    refine wpList_plainQ rfl (fun K Q' hK => ?_); go_simp
    refine h1.k_alloc (fun w2 h2 => ?_)
    refine hK _ _ ?_; clear hK K; try clear Q'
    iterate 1 (refine wpList_plainQ rfl (fun K Q' hK => ?_); go_simp; refine hK _ _ ?_; clear hK K; try clear Q')
    refine wpList_nil ?_
    show Code.wp _ _ _ _ _
    refine wp_seq ?_
    refine wp_seq ?_
    refine wp_region_lit ?_
    iterate 2 (refine wpList_plainQ rfl (fun K Q' hK => ?_); go_simp; refine hK _ _ ?_; clear hK K; try clear Q')
    refine wpList_nil ?_
    show Code.wp _ _ _ _ _
    -- stops at: cond
    refine wp_cond_false (rfl) ?_
    refine wp_skip ?_
    show Code.wp _ _ _ _ _
    refine wp_seq ?_
    refine wp_region_lit ?_
    have c_0_0 := h2.cell 0 rfl 0 rfl
    have c_0_1 := h2.cell 0 rfl 1 rfl
    have c_1_0 := h2.cell 1 rfl 0 rfl
    have c_1_1 := h2.cell 1 rfl 1 rfl
    iterate 2 (refine wpList_plainQ rfl (fun K Q' hK => ?_); go_simp; refine hK _ _ ?_; clear hK K; try clear Q')
    clear c_0_0 c_0_1 c_1_0 c_1_1
    -- stops at: eff:call (Go.Op.call {'callee': (Go.Callee.value (Go.Operand.func 43)), 'args': [(Go.Operand.tmp 13), (Go.Operand.tmp 14)], 'argTypes': [32, 32]}) slot 15
    refine wpList_plainQ rfl (fun K Q' hK => ?_); go_simp
    refine (eless_ok H _ a b h2.fits).mono ?_
    rintro e wA ⟨H1, rfl, hpA⟩
    have h3 := h2.call0 hpA
    refine hK _ _ ?_; clear hK K; try clear Q'
    iterate 1 (refine wpList_plainQ rfl (fun K Q' hK => ?_); go_simp; refine hK _ _ ?_; clear hK K; try clear Q')
    refine wpList_nil ?_
    show Code.wp _ _ _ _ _
    -- stops at: ret
    refine wp_ret ?_
    go_ret
    have hq := h3.post
    exact ⟨H1, rfl, ⟨hq.keep, hq.le, hq.new, hq.gc, Pre.none hq.pre.fits _ _⟩⟩
  | some m =>
    go_enter Tryz.func24, Tryz.ntmps24
    have h0 := St.start hpre
    refine wp_seq ?_
    refine wp_region_lit ?_
    refine wpList_plainQ rfl (fun K Q' hK => ?_); go_simp
    refine h0.k_alloc (fun w1 h1 => ?_)
    refine hK _ _ ?_; clear hK K; try clear Q'
    refine wpList_plainQ rfl (fun K Q' hK => ?_); go_simp
    refine h1.k_alloc (fun w2 h2 => ?_)
    refine hK _ _ ?_; clear hK K; try clear Q'
    iterate 1 (refine wpList_plainQ rfl (fun K Q' hK => ?_); go_simp; refine hK _ _ ?_; clear hK K; try clear Q')
    refine wpList_nil ?_
    show Code.wp _ _ _ _ _
    refine wp_seq ?_
    refine wp_seq ?_
    refine wp_region_lit ?_
    iterate 2 (refine wpList_plainQ rfl (fun K Q' hK => ?_); go_simp; refine hK _ _ ?_; clear hK K; try clear Q')
    refine wpList_nil ?_
    show Code.wp _ _ _ _ _
    -- stops at: cond
    refine wp_cond_true (rfl) ?_
    refine wp_region_lit ?_
    iterate 3 (refine wpList_plainQ rfl (fun K Q' hK => ?_); go_simp; refine hK _ _ ?_; clear hK K; try clear Q')
    -- stops at: eff:call (Go.Op.call {'callee': (Go.Callee.value (Go.Operand.func 42)), 'args': [(Go.Operand.tmp 11), (Go.Operand.const (Go.Value.int Go.IntKind.i64 1))], 'argTypes': [6 slot 12
    refine wpList_plainQ rfl (fun K Q' hK => ?_); go_simp
    refine (add0_ok H _ m c d 1 h2.pre).mono ?_
    rintro e wA ⟨v, rfl, hpA⟩
    have h3 := h2.call hpA
    refine hK _ _ ?_; clear hK K; try clear Q'
    refine wpList_nil ?_
    show Code.wp _ _ _ _ _
    refine wp_seq ?_
    refine wp_region_lit ?_
    have c_0_0 := h3.cell 0 rfl 0 rfl
    have c_0_1 := h3.cell 0 rfl 1 rfl
    have c_1_0 := h3.cell 1 rfl 0 rfl
    have c_1_1 := h3.cell 1 rfl 1 rfl
    iterate 2 (refine wpList_plainQ rfl (fun K Q' hK => ?_); go_simp; refine hK _ _ ?_; clear hK K; try clear Q')
    clear c_0_0 c_0_1 c_1_0 c_1_1
    -- stops at: eff:call (Go.Op.call {'callee': (Go.Callee.value (Go.Operand.func 43)), 'args': [(Go.Operand.tmp 13), (Go.Operand.tmp 14)], 'argTypes': [32, 32]}) slot 15
    refine wpList_plainQ rfl (fun K Q' hK => ?_); go_simp
    refine (eless_ok H _ a b h3.fits).mono ?_
    rintro e wB ⟨H1, rfl, hpB⟩
    have h4 := h3.call0 hpB
    refine hK _ _ ?_; clear hK K; try clear Q'
    iterate 1 (refine wpList_plainQ rfl (fun K Q' hK => ?_); go_simp; refine hK _ _ ?_; clear hK K; try clear Q')
    refine wpList_nil ?_
    show Code.wp _ _ _ _ _
    -- stops at: ret
    refine wp_ret ?_
    go_ret
    exact ⟨H1, rfl, h4.post⟩

set_option maxRecDepth 100000 in
set_option maxHeartbeats 1000000 in
theorem made_ok (H : GH) (w : World) (m : Option Nat) (c d : Int) (hpre : Pre w H m c d) :
    Calls Tryz.prog 41 #[mV m, .int .i64 1] w fun e w' => (∃ v, e = .returned v) ∧ Post w H m w' H c (d + 1) := by
  cases m with
  | none =>
    go_enter Tryz.func41, Tryz.ntmps41
    have h0 := St.start hpre
    refine wp_seq ?_
    refine wp_region_lit ?_
    iterate 2 (refine wpList_plainQ rfl (fun K Q' hK => ?_); go_simp; refine hK _ _ ?_; clear hK K; try clear Q')
    refine wpList_nil ?_
    show Code.wp _ _ _ _ _
    -- stops at: cond
    refine wp_cond_false (rfl) ?_
    refine wp_skip ?_
    -- stops at: bodyend
    go_end0
    have hq := h0.post
    refine ⟨⟨_, rfl⟩, ⟨hq.keep, hq.le, hq.new, hq.gc, Pre.none hq.pre.fits _ _⟩⟩
  | some m =>
    go_enter Tryz.func41, Tryz.ntmps41
    have h0 := St.start hpre
    refine wp_seq ?_
    refine wp_region_lit ?_
    iterate 2 (refine wpList_plainQ rfl (fun K Q' hK => ?_); go_simp; refine hK _ _ ?_; clear hK K; try clear Q')
    refine wpList_nil ?_
    show Code.wp _ _ _ _ _
    -- stops at: cond
    refine wp_cond_true (rfl) ?_
    refine wp_region_lit ?_
    iterate 5 (refine wpList_plainQ rfl (fun K Q' hK => ?_); go_simp; refine hK _ _ ?_; clear hK K; try clear Q')
    -- stops at: eff:call (Go.Op.call {'callee': (Go.Callee.value (Go.Operand.func 42)), 'args': [(Go.Operand.tmp 8), (Go.Operand.tmp 10)], 'argTypes': [64, 2]}) slot 11
    refine wpList_plainQ rfl (fun K Q' hK => ?_); go_simp
    refine (add1_ok H _ m c d 1 h0.pre).mono ?_
    rintro e wA ⟨v, rfl, hpA⟩
    have h1 := h0.call hpA
    refine hK _ _ ?_; clear hK K; try clear Q'
    refine wpList_nil ?_
    -- stops at: end ('bodyend',)
    go_end0
    exact ⟨⟨_, rfl⟩, h1.post⟩

set_option maxRecDepth 100000 in
set_option maxHeartbeats 1000000 in
theorem split_ok (H : GH) (w : World) (b : Nat) (c d : Int) (hpre : Pre w H (some b) c d) :
    Calls Tryz.prog 34 #[mV (some b)] w fun e w' => e = .returned (.tuple #[.int .i64 (IntKind.i64.wrap c), .int .i64 (IntKind.i64.wrap d)]) ∧ Post w H (some b) w' H c d := by
  show Calls _ _ #[.pointer (some ⟨b, 0, none⟩)] _ _
  go_enter Tryz.func34, Tryz.ntmps34
  have h0 := St.start hpre
  refine wp_seq ?_
  refine wp_region_lit ?_
  iterate 2 (refine wpList_plainQ rfl (fun K Q' hK => ?_); go_simp; refine hK _ _ ?_; clear hK K; try clear Q')
  refine wpList_nil ?_
  show Code.wp _ _ _ _ _
  refine wp_seq ?_
  refine wp_seq ?_
  refine wp_region_lit ?_
  iterate 2 (refine wpList_plainQ rfl (fun K Q' hK => ?_); go_simp; refine hK _ _ ?_; clear hK K; try clear Q')
  refine wpList_nil ?_
  show Code.wp _ _ _ _ _
  -- stops at: cond
  refine wp_cond_false (rfl) ?_
  refine wp_skip ?_
  show Code.wp _ _ _ _ _
  refine wp_seq ?_
  refine h0.region [] [(0, true), (1, true), (2, true), (4, true), (5, true), (6, true), (3, false), (7, false), (8, true), (9, true)] (by kernel_rfl) (by kernel_rfl) (fun w1 h1 => ?_)
  refine wpOrd_hide (fun _ _ d _ _ h => by cases d <;> exact h) (fun QR hQn hQp => ?_)
  simp only [ordOps, List.map_cons, List.map_nil, List.getD_cons_zero, List.getD_cons_succ]
  iterate 6 (refine wpOrd_quiet (v := ?_) rfl (fun _ _ _ => hQp _ _ _ _ _) ?_ ?_; rotate_left; (intro w' hS; (first | (go_simp; done) | (go_simp; with_reducible rfl))); simp only [Act.put, List.setIfInBounds_toArray, List.set_cons_zero, List.set_cons_succ])
  -- stops at: eff:call (Go.Op.call {'callee': (Go.Callee.value (Go.Operand.func 67)), 'args': [(Go.Operand.tmp 8)], 'argTypes': [64]}) slot 9
  refine wpOrd_effQ rfl (fun K Q' hK => ?_); go_simp
  refine (load0_ok H _ b c d h1.pre).mono ?_
  rintro e wA ⟨rfl, hkA⟩
  have h2 := h1.callk hkA
  refine hK _ _ (h2.sat' (GH.le_refl _) [] (by kernel_rfl)) ?_; clear hK K; try clear Q'
  -- stops at: eff:call (Go.Op.call {'callee': (Go.Callee.value (Go.Operand.func 67)), 'args': [(Go.Operand.tmp 12)], 'argTypes': [64]}) slot 13
  refine wpOrd_effQ rfl (fun K Q' hK => ?_); go_simp
  refine (load1_ok H _ b c d h2.pre).mono ?_
  rintro e wB ⟨rfl, hkB⟩
  have h3 := h2.callk hkB
  refine hK _ _ (h3.sat' (GH.le_refl _) [] (by kernel_rfl)) ?_; clear hK K; try clear Q'
  iterate 2 (refine wpOrd_quiet (v := ?_) rfl (fun _ _ _ => hQp _ _ _ _ _) ?_ ?_; rotate_left; (intro w' hS; (first | (go_simp; done) | (go_simp; with_reducible rfl))); simp only [Act.put, List.setIfInBounds_toArray, List.set_cons_zero, List.set_cons_succ])
  refine wpOrd_nil (hQn _ _ ?_); clear hQn hQp QR
  show Code.wp _ _ _ _ _
  -- stops at: ret
  refine wp_ret ?_
  go_ret2
  exact ⟨rfl, h3.post⟩

set_option maxRecDepth 100000 in
theorem steps_ok (H : GH) (w : World) (b : Nat) (c d : Int) (hpre : Pre w H (some b) c d) :
    Calls Tryz.prog 15 #[mV (some b)] w fun e w' => e = .returned (.int .i64 (IntKind.i64.wrap (c + d))) ∧ Post w H (some b) w' H c d := by
  show Calls _ _ #[.pointer (some ⟨b, 0, none⟩)] _ _
  have e1 : IntKind.i64.wrap (IntKind.i64.wrap c + IntKind.i64.wrap d) = IntKind.i64.wrap (c + d) := by simp only [IntKind.wrap_i64]; omega
  go_enter Tryz.func15, Tryz.ntmps15
  have h0 := St.start hpre
  refine wp_seq ?_
  refine wp_region_lit ?_
  iterate 1 (refine wpList_plainQ rfl (fun K Q' hK => ?_); go_simp; refine hK _ _ ?_; clear hK K; try clear Q')
  refine wpList_nil ?_
  show Code.wp _ _ _ _ _
  refine wp_seq ?_
  refine wp_region_lit ?_
  iterate 1 (refine wpList_plainQ rfl (fun K Q' hK => ?_); go_simp; refine hK _ _ ?_; clear hK K; try clear Q')
  -- stops at: eff:call (Go.Op.call {'callee': (Go.Callee.value (Go.Operand.func 34)), 'args': [(Go.Operand.tmp 6)], 'argTypes': [25]}) slot 7
  refine wpList_plainQ rfl (fun K Q' hK => ?_); go_simp
  refine (split_ok H _ b c d h0.pre).mono ?_
  rintro e wA ⟨rfl, hpA⟩
  have h1 := h0.call hpA
  refine hK _ _ ?_; clear hK K; try clear Q'
  iterate 5 (refine wpList_plainQ rfl (fun K Q' hK => ?_); go_simp; refine hK _ _ ?_; clear hK K; try clear Q')
  refine wpList_nil ?_
  show Code.wp _ _ _ _ _
  refine wp_seq ?_
  refine wp_region_lit ?_
  iterate 4 (refine wpList_plainQ rfl (fun K Q' hK => ?_); go_simp; refine hK _ _ ?_; clear hK K; try clear Q')
  refine wpList_nil ?_
  show Code.wp _ _ _ _ _
  -- stops at: ret
  refine wp_ret ?_
  go_ret
  exact ⟨rfl, h1.post⟩

set_option maxRecDepth 100000 in
theorem since_ok (H : GH) (w : World) (b : Nat) (c d n : Int) (hpre : Pre w H (some b) c d) :
    Calls Tryz.prog 21 #[mV (some b), .int .i64 n] w fun e w' => e = .returned (.int .i64 (IntKind.i64.wrap (IntKind.i64.wrap (c + d) - n))) ∧ Post w H (some b) w' H c d := by
  show Calls _ _ #[.pointer (some ⟨b, 0, none⟩), _] _ _
  go_enter Tryz.func21, Tryz.ntmps21
  have h0 := St.start hpre
  refine wp_seq ?_
  refine wp_region_lit ?_
  iterate 1 (refine wpList_plainQ rfl (fun K Q' hK => ?_); go_simp; refine hK _ _ ?_; clear hK K; try clear Q')
  refine wpList_nil ?_
  show Code.wp _ _ _ _ _
  refine wp_seq ?_
  refine wp_seq ?_
  refine wp_region_lit ?_
  iterate 2 (refine wpList_plainQ rfl (fun K Q' hK => ?_); go_simp; refine hK _ _ ?_; clear hK K; try clear Q')
  refine wpList_nil ?_
  show Code.wp _ _ _ _ _
  -- stops at: cond
  refine wp_cond_false (rfl) ?_
  refine wp_skip ?_
  show Code.wp _ _ _ _ _
  refine wp_seq ?_
  refine wp_region_lit ?_
  iterate 1 (refine wpList_plainQ rfl (fun K Q' hK => ?_); go_simp; refine hK _ _ ?_; clear hK K; try clear Q')
  -- stops at: eff:call (Go.Op.call {'callee': (Go.Callee.value (Go.Operand.func 15)), 'args': [(Go.Operand.tmp 7)], 'argTypes': [25]}) slot 8
  refine wpList_plainQ rfl (fun K Q' hK => ?_); go_simp
  refine (steps_ok H _ b c d h0.pre).mono ?_
  rintro e wA ⟨rfl, hpA⟩
  have h1 := h0.call hpA
  refine hK _ _ ?_; clear hK K; try clear Q'
  iterate 3 (refine wpList_plainQ rfl (fun K Q' hK => ?_); go_simp; refine hK _ _ ?_; clear hK K; try clear Q')
  refine wpList_nil ?_
  show Code.wp _ _ _ _ _
  -- stops at: ret
  refine wp_ret ?_
  go_ret
  exact ⟨rfl, h1.post⟩
end Go.Proofs.YteigmfkkeofcaaaGreatDoor
