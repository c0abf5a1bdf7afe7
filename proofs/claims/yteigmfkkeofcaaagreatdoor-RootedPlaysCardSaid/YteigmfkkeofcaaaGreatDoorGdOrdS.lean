/-
A region that draws its order and stores to a block that it loads from: what holds till the store, and what holds always; a load that the store waits for may be taken first.
-/
import Derived.Test.YteigmfkkeofcaaaGreatDoorKaQ
namespace Go.Proofs.YteigmfkkeofcaaaGreatDoor
open Go
set_option linter.unusedVariables false

inductive Kd where
  | q1
  | q2
  | e1
  | e2
section
variable {P : Program} {ops : Array Oper} {Q : Exit → Act → World → Prop} {S1 S2 : World → Prop} {d : Nat}

def Closed (ops : Array Oper) (L : Array Bool) : Prop := ∀ (j : Nat) (oj : Oper), ops[j]? = some oj → L.getD j false = true → ∀ e ∈ oj.after, Region.binds .any e = true → L.getD e.on false = true
theorem Closed.set {L : Array Bool} {j : Nat} (h : Closed ops L) (hj : j ∈ Region.ready .any ops L) : Closed ops (L.setIfInBounds j true) := by
  intro k ok hk hl e he hb
  by_cases hkj : k = j
  · subst hkj
    obtain ⟨_, o, ho, hall⟩ := mem_ready.1 hj
    rw [hk] at ho
    obtain rfl := Option.some.inj ho
    exact getD_set_true (hall e he hb)
  · rw [getD_set_ne false (Ne.symm hkj)] at hl
    exact getD_set_true (h k ok hk hl e he hb)
theorem Closed.start (n : Nat) : Closed ops (Array.replicate n false) := by
  intro k ok hk hl
  simp [Array.getElem?_replicate] at hl
  split at hl <;> simp at hl
/-- Does d wait for i? -/
def anc (ops : Array Oper) : Nat → Nat → Nat → Bool
  | 0, _, _ => false
  | n + 1, d, i => match ops[d]? with
    | none => false
    | some o => o.after.any fun e => Region.binds .any e && (e.on == i || anc ops n e.on i)
theorem anc_spec {L : Array Bool} (hc : Closed ops L) {i : Nat} : ∀ (n d : Nat), anc ops n d i = true → L.getD d false = true → L.getD i false = true
  | 0, _, h, _ => by cases h
  | n + 1, d, h, hd => by
    unfold anc at h
    split at h
    · cases h
    · rename_i o ho
      obtain ⟨e, he, h⟩ := Array.any_eq_true'.1 h
      simp only [Bool.and_eq_true, Bool.or_eq_true, beq_iff_eq] at h
      have h1 := hc d o ho hd e he h.1
      rcases h.2 with h2 | h2
      · rw [h2] at h1; exact h1
      · exact anc_spec hc n e.on h2 h1

def Sof (S1 S2 : World → Prop) (d : Nat) (L : Array Bool) (w : World) : Prop := S2 w ∧ (L.getD d false = false → S1 w)
theorem Sof.ne {L : Array Bool} {i : Nat} {w : World} (h : Sof S1 S2 d L w) (hi : i ≠ d) : Sof S1 S2 d (L.setIfInBounds i true) w := ⟨h.1, fun e => h.2 (by rw [getD_set_ne false hi] at e; exact e)⟩
theorem Sof.ne' {L : Array Bool} {i : Nat} {w : World} (h : Sof S1 S2 d (L.setIfInBounds i true) w) (hi : i ≠ d) : Sof S1 S2 d L w := ⟨h.1, fun e => h.2 (by rw [getD_set_ne false hi]; exact e)⟩

def wpAnyS (P : Program) (ops : Array Oper) (Q : Exit → Act → World → Prop) (S1 S2 : World → Prop) (d : Nat) : Nat → Array Bool → Act → World → Prop
  | 0, L, a, w => Region.ready .any ops L = [] ∧ Q .normal a w
  | n + 1, L, a, w => (Region.ready .any ops L = [] → Q .normal a w) ∧
    ∀ i ∈ Region.ready .any ops L, wpOp P ops Q i (fun a' w' => Sof S1 S2 d (L.setIfInBounds i true) w' ∧ wpAnyS P ops Q S1 S2 d n (L.setIfInBounds i true) a' w') a w
theorem wpAny_of_S : ∀ (n : Nat) (L : Array Bool) (a : Act) (w : World), wpAnyS P ops Q S1 S2 d n L a w → wpAny P .any ops Q n L a w
  | 0, _, _, _, h => h
  | n + 1, _, _, _, h => ⟨h.1, fun i hi => wpOp_mono (fun a' w' h' => wpAny_of_S n _ a' w' h'.2) (h.2 i hi)⟩

theorem wpAnyS_first {i : Nat} {oi : Oper} {v : Value} {Sx : World → Prop} (hi : ops[i]? = some oi) (hsel : ∀ (j : Nat) (o : Oper) cs b, ops[j]? = some o → o.op ≠ .select cs b) (hid : i ≠ d)
    (hSx : ∀ L w, Closed ops L → L.getD i true = false → Sof S1 S2 d L w → Sx w)
    (hQ : ∀ c a w, Q (.panic c) (a.put oi.dst v) w → Q (.panic c) a w) :
    ∀ (fuel : Nat) (listed : Array Bool) (a : Act) (w : World),
      (∀ j oj, ops[j]? = some oj → j ≠ i → listed.getD j true = false → (∀ e ∈ oj.after, Region.binds .any e = true → e.on ≠ i) → oi.apart ops oj = true) →
      i ∈ Region.ready .any ops listed → Closed ops listed → YieldsIf P ops Sx oi v a → Sof S1 S2 d listed w →
      wpAnyS P ops Q S1 S2 d fuel (listed.setIfInBounds i true) (a.put oi.dst v) w → wpAnyS P ops Q S1 S2 d (fuel + 1) listed a w := by
  intro fuel
  induction fuel with
  | zero =>
    intro listed a w _ hr hc hy hS H
    refine ⟨fun h => (by rw [h] at hr; cases hr), fun j hj => ?_⟩
    by_cases hji : j = i
    · subst hji; exact hy.wpOp hi (hSx _ _ hc (mem_ready.1 hr).1 hS) ⟨hS.ne hid, H⟩
    · have := ready_mono hj hji
      rw [H.1] at this
      cases this
  | succ fuel ih =>
    intro listed a w hfree hr hc hy hS H
    refine ⟨fun h => (by rw [h] at hr; cases hr), fun j hj => ?_⟩
    by_cases hji : j = i
    · subst hji; exact hy.wpOp hi (hSx _ _ hc (mem_ready.1 hr).1 hS) ⟨hS.ne hid, H⟩
    · have h1 := H.2 j (ready_mono hj hji)
      obtain ⟨hjun, oj, hoj, hall⟩ := mem_ready.1 hj
      have hnot : ∀ e ∈ oj.after, Region.binds .any e = true → e.on ≠ i := fun e he hb heq => by
        have h1 := hall e he hb
        have h0 := (mem_ready.1 hr).1
        rw [heq] at h1
        rcases Nat.lt_or_ge i listed.size with h' | h'
        · simp [h'] at h0 h1; rw [h0] at h1; cases h1
        · simp [Array.getElem?_eq_none h'] at h1
      have h2 := wpOp_putIf hoj (hfree j oj hoj hji hjun hnot) (fun cs b => hsel i oi cs b hi) (fun cs b => hsel j oj cs b hoj) hQ hy h1
      have hfree' : ∀ k ok, ops[k]? = some ok → k ≠ i → (listed.setIfInBounds j true).getD k true = false →
          (∀ e ∈ ok.after, Region.binds .any e = true → e.on ≠ i) → oi.apart ops ok = true := fun k ok hk hki hun hno => by
        refine hfree k ok hk hki ?_ hno
        by_cases hjk : j = k
        · subst hjk; exact hjun
        · rw [getD_set_ne true hjk] at hun; exact hun
      refine wpOp_mono (fun a' w' h3 => ?_) h2
      have hs3 := h3.2.1
      rw [Array.setIfInBounds_comm _ _ (Ne.symm hji)] at hs3
      refine ⟨hs3.ne' hid, ih (listed.setIfInBounds j true) a' w' hfree' (ready_mono hr (Ne.symm hji)) (hc.set hj) h3.1 (hs3.ne' hid) ?_⟩
      rw [Array.setIfInBounds_comm _ _ hji]
      exact h3.2.2

def wpOS (P : Program) (ops : Array Oper) (Q : Exit → Act → World → Prop) (S1 S2 : World → Prop) : List (Oper × Kd) → Act → World → Prop
  | [], a, w => Q .normal a w
  | (o, .q1) :: r, a, w => ∃ v, YieldsIf P ops S1 o v a ∧ (∀ c a w, Q (.panic c) (a.put o.dst v) w → Q (.panic c) a w) ∧ wpOS P ops Q S1 S2 r (a.put o.dst v) w
  | (o, .q2) :: r, a, w => ∃ v, YieldsIf P ops S2 o v a ∧ (∀ c a w, Q (.panic c) (a.put o.dst v) w → Q (.panic c) a w) ∧ wpOS P ops Q S1 S2 r (a.put o.dst v) w
  | (o, .e1) :: r, a, w => if Region.wanted o (yielded ops a.tmps) then o.wp P a w (fun a' w' => S1 w' ∧ wpOS P ops Q S1 S2 r a' w') Q else wpOS P ops Q S1 S2 r (a.put o.dst undef) w
  | (o, .e2) :: r, a, w => if Region.wanted o (yielded ops a.tmps) then o.wp P a w (fun a' w' => S2 w' ∧ wpOS P ops Q S1 S2 r a' w') Q else wpOS P ops Q S1 S2 r (a.put o.dst undef) w

def ordS (ops : Array Oper) (d : Nat) : List (Nat × Kd) → Bool → Array Bool → Bool
  | [], _, l => (Region.ready .any ops l).isEmpty
  | (i, .q1) :: r, ph, l => !ph && (i != d) && anc ops ops.size d i && (Region.ready .any ops l).contains i && Region.free .any ops l i && ordS ops d r ph (l.setIfInBounds i true)
  | (i, .q2) :: r, ph, l => (i != d) && (Region.ready .any ops l).contains i && Region.free .any ops l i && ordS ops d r ph (l.setIfInBounds i true)
  | (i, .e1) :: r, ph, l => !ph && (i != d) && decide (Region.ready .any ops l = [i]) && ordS ops d r false (l.setIfInBounds i true)
  | (i, .e2) :: r, ph, l => (ph || (i == d)) && decide (Region.ready .any ops l = [i]) && decide (d < l.size) && ordS ops d r true (l.setIfInBounds i true)
def opsS (ops : List Oper) (r : List (Nat × Kd)) : List (Oper × Kd) := r.map fun x => (ops.getD x.1 default, x.2)

theorem wpAnyS_of_ord (hs : Region.noSelect ops = true) (h12 : ∀ w, S1 w → S2 w) : ∀ (r : List (Nat × Kd)) (ph : Bool) (L : Array Bool) (a : Act) (w : World), ordS ops d r ph L = true → Closed ops L → (L.getD d false = ph) → Sof S1 S2 d L w →
    wpOS P ops Q S1 S2 (opsS ops.toList r) a w → wpAnyS P ops Q S1 S2 d r.length L a w
  | [], ph, L, a, w, hb, _, _, _, h => ⟨by simpa [ordS] using hb, h⟩
  | (i, .q1) :: r, ph, L, a, w, hb, hc, hph, hS, h => by
    simp only [ordS, Bool.and_eq_true, Bool.not_eq_true', bne_iff_ne, ne_eq] at hb
    obtain ⟨⟨⟨⟨⟨rfl, hid⟩, han⟩, hr⟩, hf⟩, hb⟩ := hb
    obtain ⟨o, ho⟩ := ready_get (ops := ops) (l := L) (i := i) (by simpa using hr)
    have e : ops.toList.getD i default = o := by simp [List.getD_eq_getElem?_getD, ho]
    obtain ⟨v, hy, hq, h⟩ := (show ∃ v, _ from h)
    rw [e] at hy hq h
    refine wpAnyS_first ho (Region.noSelect_spec hs) hid (fun L w hc hi hS => hS.2 ?_) hq r.length L a w (Region.free_spec ho hf) (by simpa using hr) hc hy hS (wpAnyS_of_ord hs h12 r false _ _ w hb (hc.set (by simpa using hr)) (by rw [getD_set_ne false hid]; exact hph) (hS.ne hid) h)
    cases hd : L.getD d false with
    | false => rfl
    | true =>
      have := anc_spec hc _ _ han hd
      rcases Nat.lt_or_ge i L.size with h' | h'
      · simp [h'] at hi this; rw [hi] at this; cases this
      · simp [Array.getElem?_eq_none h'] at this
  | (i, .q2) :: r, ph, L, a, w, hb, hc, hph, hS, h => by
    simp only [ordS, Bool.and_eq_true, bne_iff_ne, ne_eq] at hb
    obtain ⟨⟨⟨hid, hr⟩, hf⟩, hb⟩ := hb
    obtain ⟨o, ho⟩ := ready_get (ops := ops) (l := L) (i := i) (by simpa using hr)
    have e : ops.toList.getD i default = o := by simp [List.getD_eq_getElem?_getD, ho]
    obtain ⟨v, hy, hq, h⟩ := (show ∃ v, _ from h)
    rw [e] at hy hq h
    exact wpAnyS_first ho (Region.noSelect_spec hs) hid (fun L w hc hi hS => hS.1) hq r.length L a w (Region.free_spec ho hf) (by simpa using hr) hc hy hS (wpAnyS_of_ord hs h12 r ph _ _ w hb (hc.set (by simpa using hr)) (by rw [getD_set_ne false hid]; exact hph) (hS.ne hid) h)
  | (i, .e1) :: r, ph, L, a, w, hb, hc, hph, hS, h => by
    simp only [ordS, Bool.and_eq_true, Bool.not_eq_true', bne_iff_ne, ne_eq, decide_eq_true_eq] at hb
    obtain ⟨⟨⟨rfl, hid⟩, hr⟩, hb⟩ := hb
    refine ⟨fun h0 => absurd (hr ▸ h0) (by simp), fun j hj => ?_⟩
    obtain rfl : j = i := by rw [hr] at hj; simpa using hj
    obtain ⟨o, ho⟩ := ready_get (ops := ops) (l := L) (i := j) hj
    have e : ops.toList.getD j default = o := by simp [List.getD_eq_getElem?_getD, ho]
    have h' : if Region.wanted o (yielded ops a.tmps) then o.wp P a w (fun a' w' => S1 w' ∧ wpOS P ops Q S1 S2 (opsS ops.toList r) a' w') Q else wpOS P ops Q S1 S2 (opsS ops.toList r) (a.put o.dst undef) w := by
      rw [← e]; exact h
    unfold wpOp
    simp only [ho]
    split
    · rename_i hw
      rw [if_pos hw] at h'
      refine .inl (Oper.wp_mono (fun a' w' h2 => ?_) h')
      have hS' : Sof S1 S2 d (L.setIfInBounds j true) w' := ⟨h12 _ h2.1, fun _ => h2.1⟩
      exact ⟨hS', wpAnyS_of_ord hs h12 r false _ a' w' hb (hc.set hj) (by rw [getD_set_ne false hid]; exact hph) hS' h2.2⟩
    · rename_i hw
      rw [if_neg hw] at h'
      exact ⟨hS.ne hid, wpAnyS_of_ord hs h12 r false _ _ w hb (hc.set hj) (by rw [getD_set_ne false hid]; exact hph) (hS.ne hid) h'⟩
  | (i, .e2) :: r, ph, L, a, w, hb, hc, hph, hS, h => by
    simp only [ordS, Bool.and_eq_true, Bool.or_eq_true, beq_iff_eq, decide_eq_true_eq] at hb
    obtain ⟨⟨⟨hid, hr⟩, hlt⟩, hb⟩ := hb
    refine ⟨fun h0 => absurd (hr ▸ h0) (by simp), fun j hj => ?_⟩
    obtain rfl : j = i := by rw [hr] at hj; simpa using hj
    obtain ⟨o, ho⟩ := ready_get (ops := ops) (l := L) (i := j) hj
    have e : ops.toList.getD j default = o := by simp [List.getD_eq_getElem?_getD, ho]
    have h' : if Region.wanted o (yielded ops a.tmps) then o.wp P a w (fun a' w' => S2 w' ∧ wpOS P ops Q S1 S2 (opsS ops.toList r) a' w') Q else wpOS P ops Q S1 S2 (opsS ops.toList r) (a.put o.dst undef) w := by
      rw [← e]; exact h
    have hd : (L.setIfInBounds j true).getD d false = true := by
      rcases hid with rfl | rfl
      · exact getD_set_true hph
      · simp [hlt]
    have hSof : ∀ w', S2 w' → Sof S1 S2 d (L.setIfInBounds j true) w' := fun w' h2 => ⟨h2, fun e => by rw [hd] at e; cases e⟩
    unfold wpOp
    simp only [ho]
    split
    · rename_i hw
      rw [if_pos hw] at h'
      exact .inl (Oper.wp_mono (fun a' w' h2 => ⟨hSof _ h2.1, wpAnyS_of_ord hs h12 r true _ a' w' hb (hc.set hj) hd (hSof _ h2.1) h2.2⟩) h')
    · rename_i hw
      rw [if_neg hw] at h'
      exact ⟨hSof _ hS.1, wpAnyS_of_ord hs h12 r true _ _ w hb (hc.set hj) hd (hSof _ hS.1) h'⟩

theorem wpOS_nil {a : Act} {w : World} (h : Q .normal a w) : wpOS P ops Q S1 S2 [] a w := h
theorem wpOS_skip1 {r : List (Oper × Kd)} {a : Act} {w : World} {o : Oper} (hg : Region.wanted o (yielded ops a.tmps) = false)
    (hq : ∀ c a w, Q (.panic c) (a.put o.dst undef) w → Q (.panic c) a w) (h : wpOS P ops Q S1 S2 r (a.put o.dst undef) w) : wpOS P ops Q S1 S2 ((o, .q1) :: r) a w := ⟨undef, .inr ⟨hg, rfl⟩, hq, h⟩
theorem wpOS_skip2 {r : List (Oper × Kd)} {a : Act} {w : World} {o : Oper} (hg : Region.wanted o (yielded ops a.tmps) = false)
    (hq : ∀ c a w, Q (.panic c) (a.put o.dst undef) w → Q (.panic c) a w) (h : wpOS P ops Q S1 S2 r (a.put o.dst undef) w) : wpOS P ops Q S1 S2 ((o, .q2) :: r) a w := ⟨undef, .inr ⟨hg, rfl⟩, hq, h⟩
theorem wpOS_quiet1 {r : List (Oper × Kd)} {a : Act} {w : World} {o : Oper} {v : Value} (hg : Region.wanted o (yielded ops a.tmps) = true)
    (hq : ∀ c a w, Q (.panic c) (a.put o.dst v) w → Q (.panic c) a w)
    (hy : ∀ w', S1 w' → (execOp a.eval o).run P w' = .ok (.value v) w') (h : wpOS P ops Q S1 S2 r (a.put o.dst v) w) : wpOS P ops Q S1 S2 ((o, .q1) :: r) a w :=
  ⟨v, .inl ⟨hg, hy⟩, hq, h⟩
theorem wpOS_quiet2 {r : List (Oper × Kd)} {a : Act} {w : World} {o : Oper} {v : Value} (hg : Region.wanted o (yielded ops a.tmps) = true)
    (hq : ∀ c a w, Q (.panic c) (a.put o.dst v) w → Q (.panic c) a w)
    (hy : ∀ w', S2 w' → (execOp a.eval o).run P w' = .ok (.value v) w') (h : wpOS P ops Q S1 S2 r (a.put o.dst v) w) : wpOS P ops Q S1 S2 ((o, .q2) :: r) a w :=
  ⟨v, .inl ⟨hg, hy⟩, hq, h⟩
theorem wpOS_eff1 {r : List (Oper × Kd)} {a : Act} {w : World} {o : Oper} (hg : Region.wanted o (yielded ops a.tmps) = true)
    (h : ∀ (K : Act → World → Prop) (Q' : Exit → Act → World → Prop), (∀ a' w', S1 w' → wpOS P ops Q S1 S2 r a' w' → K a' w') → o.wp P a w K Q') : wpOS P ops Q S1 S2 ((o, .e1) :: r) a w := by
  have := h (fun a' w' => S1 w' ∧ wpOS P ops Q S1 S2 r a' w') Q (fun _ _ h1 h2 => ⟨h1, h2⟩)
  show if _ then _ else _
  rw [if_pos hg]
  exact this
theorem wpOS_eff2 {r : List (Oper × Kd)} {a : Act} {w : World} {o : Oper} (hg : Region.wanted o (yielded ops a.tmps) = true)
    (h : ∀ (K : Act → World → Prop) (Q' : Exit → Act → World → Prop), (∀ a' w', S2 w' → wpOS P ops Q S1 S2 r a' w' → K a' w') → o.wp P a w K Q') : wpOS P ops Q S1 S2 ((o, .e2) :: r) a w := by
  have := h (fun a' w' => S2 w' ∧ wpOS P ops Q S1 S2 r a' w') Q (fun _ _ h1 h2 => ⟨h1, h2⟩)
  show if _ then _ else _
  rw [if_pos hg]
  exact this
theorem wpOS_effskip1 {r : List (Oper × Kd)} {a : Act} {w : World} {o : Oper} (hg : Region.wanted o (yielded ops a.tmps) = false)
    (h : wpOS P ops Q S1 S2 r (a.put o.dst undef) w) : wpOS P ops Q S1 S2 ((o, .e1) :: r) a w := by
  show if _ then _ else _
  rw [if_neg (by simp [hg])]
  exact h
theorem wpOS_hide {l : List (Oper × Kd)} {a : Act} {w : World} (hQ : ∀ c (a : Act) d v w, Q (.panic c) (a.put d v) w → Q (.panic c) a w)
    (h : ∀ QR : Exit → Act → World → Prop, (∀ a w, Q .normal a w → QR .normal a w) → (∀ c (a : Act) d v w, QR (.panic c) (a.put d v) w → QR (.panic c) a w) → wpOS P ops QR S1 S2 l a w) : wpOS P ops Q S1 S2 l a w :=
  h Q (fun _ _ h => h) hQ
end

theorem sel_nil2 (L L0 : List (Nat × Obj)) : sel L [] = sel L0 [] := rfl
theorem sel_cons {L L0 : List (Nat × Obj)} {i : Nat} {idx : List Nat} {p : Nat × Obj} (h : L[i]? = some p) (h0 : L0[i]? = some p) (t : sel L idx = sel L0 idx) : sel L (i :: idx) = sel L0 (i :: idx) := by
  unfold sel at *
  rw [List.filterMap_cons, List.filterMap_cons, h, h0]
  simp [t]
theorem Sat.sub {w : World} {H : GH} {L : List (Nat × Obj)} {i1 i2 : List Nat} (h : Sat w H (sel L i1)) (hs : i2.all (i1.contains ·) = true) : Sat w H (sel L i2) :=
  ⟨h.1, fun p hp => by
    obtain ⟨i, hi, e⟩ := List.mem_filterMap.1 hp
    exact h.2 p (List.mem_filterMap.2 ⟨i, by simpa using List.all_eq_true.1 hs i hi, e⟩)⟩
/-- Such a region: i1: the blocks that hold till operation d; i2: those that hold always. -/
theorem St.regionS {w0 w : World} {H0 H : GH} {m : Option Nat} {c d : Int} {L : List (Nat × Obj)} {R : List Row} {P : Program} {Q : Exit → Act → World → Prop} {id : Nat} {a : Act} {l : List Oper} (h : St w0 H0 m c d w H L R) (i1 i2 : List Nat) (D : Nat) (r : List (Nat × Kd)) (hm : P.follows .mixedOrders = true)
    (hb : (Region.noSelect l.toArray && decide (r.length = l.toArray.size) && ordS l.toArray D r false (Array.replicate l.toArray.size false) && i2.all (i1.contains ·)) = true)
    (hk : ∀ w', St w0 H0 m c d w' H L R → wpOS P l.toArray Q (fun w' => Sat w' H (sel L i1)) (fun w' => Sat w' H (sel L i2)) (opsS l r) a w') : (Code.region id l.toArray true).wp P Q a w := by
  simp only [Bool.and_eq_true, decide_eq_true_eq] at hb
  obtain ⟨⟨⟨h1, h2⟩, h3⟩, h4⟩ := hb
  refine wp_region_any hm ?_
  refine wpAny_of_S (S1 := fun w' => Sat w' H (sel L i1)) (S2 := fun w' => Sat w' H (sel L i2)) (d := D) _ _ _ _ ?_
  have hS := h.drew.sat (GH.le_refl _) i1
  have := wpAnyS_of_ord (P := P) (Q := Q) (S1 := fun w' => Sat w' H (sel L i1)) (S2 := fun w' => Sat w' H (sel L i2)) (d := D) h1 (fun w hw => Sat.sub hw h4) r false (Array.replicate l.toArray.size false) a w.drew h3 (Closed.start _) (by simp [Array.getElem?_replicate]; split <;> rfl) ⟨hS.sub h4, fun _ => hS⟩ (hk _ h.drew)
  rw [h2] at this
  exact this
end Go.Proofs.YteigmfkkeofcaaaGreatDoor
