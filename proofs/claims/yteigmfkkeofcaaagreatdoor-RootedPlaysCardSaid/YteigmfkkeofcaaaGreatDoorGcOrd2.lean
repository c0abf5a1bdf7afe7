/-
A region that draws its order, in which behind some steps either of two effects may come next: a tree of orders, each walked.
-/
import Derived.Test.YteigmfkkeofcaaaGreatDoorKaQ
namespace Go.Proofs.YteigmfkkeofcaaaGreatDoor
open Go
set_option linter.unusedVariables false

/-- Orders: by the operations' numbers. -/
inductive OT where
  | nil
  | one (i : Nat) (b : Bool) (t : OT)
  | two (t1 t2 : OT)
/-- .. and by the operations themselves. -/
inductive OTo where
  | nil
  | one (o : Oper) (b : Bool) (t : OTo)
  | two (t1 t2 : OTo)
def OT.ops (l : List Oper) : OT → OTo
  | .nil => .nil
  | .one i b t => .one (l.getD i default) b (t.ops l)
  | .two t1 t2 => .two (t1.ops l) (t2.ops l)
/-- How long the orders are, where all are of one length. -/
def OT.len : OT → Nat
  | .nil => 0
  | .one _ _ t => t.len + 1
  | .two t1 _ => t1.len

section
variable {P : Program} {ops : Array Oper} {Q : Exit → Act → World → Prop} {S : World → Prop}

def wpT (P : Program) (ops : Array Oper) (Q : Exit → Act → World → Prop) (S : World → Prop) : OTo → Act → World → Prop
  | .nil, a, w => Q .normal a w
  | .one o true r, a, w => ∃ v, YieldsIf P ops S o v a ∧ (∀ c a w, Q (.panic c) (a.put o.dst v) w → Q (.panic c) a w) ∧ wpT P ops Q S r (a.put o.dst v) w
  | .one o false r, a, w => if Region.wanted o (yielded ops a.tmps) then o.wp P a w (fun a' w' => S w' ∧ wpT P ops Q S r a' w') Q else wpT P ops Q S r (a.put o.dst undef) w
  | .two t1 t2, a, w => wpT P ops Q S t1 a w ∧ wpT P ops Q S t2 a w

def OT.head : OT → Option Nat
  | .one i false _ => some i
  | _ => none
/-- Is it one of the region's orders? 'rs': what may come up, where that is asked. -/
def ordT (ops : Array Oper) : OT → Option (List Nat) → Array Bool → Bool
  | .nil, _, l => (Region.ready .any ops l).isEmpty
  | .one i true t, none, l => (Region.ready .any ops l).contains i && Region.free .any ops l i && ordT ops t none (l.setIfInBounds i true)
  | .one _ true _, some _, _ => false
  | .one i false t, none, l => decide (Region.ready .any ops l = [i]) && ordT ops t none (l.setIfInBounds i true)
  | .one i false t, some rs, l => rs.contains i && ordT ops t none (l.setIfInBounds i true)
  | .two _ _, some _, _ => false
  | .two t1 t2, none, l => decide (t1.len = t2.len) && (match t1.head, t2.head with
    | some i, some j => decide (Region.ready .any ops l = [i, j])
    | _, _ => false) && ordT ops t1 (some (Region.ready .any ops l)) l && ordT ops t2 (some (Region.ready .any ops l)) l

theorem headT {t : OT} {i : Nat} (h : t.head = some i) : ∃ r, t = .one i false r := by
  cases t with
  | nil => cases h
  | two => cases h
  | one k b r =>
    cases b with
    | true => cases h
    | false => obtain rfl := Option.some.inj h; exact ⟨r, rfl⟩

theorem wpAnyH_of_tree (hs : Region.noSelect ops = true) (t : OT) : ∀ (l : Array Bool) (a : Act) (w : World), S w → wpT P ops Q S (t.ops ops.toList) a w →
    (ordT ops t none l = true → wpAnyH P .any ops Q S t.len l a w) ∧
    (∀ i r, t = .one i false r → i ∈ Region.ready .any ops l → ordT ops t (some (Region.ready .any ops l)) l = true → wpOp P ops Q i (fun a' w' => S w' ∧ wpAnyH P .any ops Q S r.len (l.setIfInBounds i true) a' w') a w) := by
  induction t with
  | nil =>
    intro l a w hS h
    exact ⟨fun hb => ⟨by simpa [ordT] using hb, h⟩, fun i r e => by cases e⟩
  | one i b t ih =>
    intro l a w hS h
    have eff : ∀ (l : Array Bool), i ∈ Region.ready .any ops l → b = false → ordT ops t none (l.setIfInBounds i true) = true → wpOp P ops Q i (fun a' w' => S w' ∧ wpAnyH P .any ops Q S t.len (l.setIfInBounds i true) a' w') a w := by
      intro l hi hbf hb
      subst hbf
      obtain ⟨o, ho⟩ := ready_get (ops := ops) (l := l) (i := i) hi
      have e : ops.toList.getD i default = o := by simp [List.getD_eq_getElem?_getD, ho]
      have h' : if Region.wanted o (yielded ops a.tmps) then o.wp P a w (fun a' w' => S w' ∧ wpT P ops Q S (t.ops ops.toList) a' w') Q else wpT P ops Q S (t.ops ops.toList) (a.put o.dst undef) w := by
        rw [← e]; exact h
      unfold wpOp
      simp only [ho]
      split
      · rename_i hw
        rw [if_pos hw] at h'
        exact .inl (Oper.wp_mono (fun a' w' h2 => ⟨h2.1, (ih _ a' w' h2.1 h2.2).1 hb⟩) h')
      · rename_i hw
        rw [if_neg hw] at h'
        exact ⟨hS, (ih _ _ w hS h').1 hb⟩
    refine ⟨fun hb => ?_, fun k r e hi hb => ?_⟩
    · cases b with
      | true =>
        simp only [ordT, Bool.and_eq_true] at hb
        obtain ⟨o, ho⟩ := ready_get (ops := ops) (l := l) (i := i) (by simpa using hb.1.1)
        have e : ops.toList.getD i default = o := by simp [List.getD_eq_getElem?_getD, ho]
        obtain ⟨v, hy, hq, h⟩ := (show ∃ v, _ from h)
        rw [e] at hy hq h
        exact wpAnyH_take ho hs hb.1.2 hb.1.1 hq hy hS ((ih _ _ w hS h).1 hb.2)
      | false =>
        simp only [ordT, Bool.and_eq_true, decide_eq_true_eq] at hb
        refine wpAnyH_all hb.1 (by simp) ?_
        intro j hj
        obtain rfl : j = i := by simpa using hj
        exact eff l (by rw [hb.1]; simp) rfl hb.2
    · simp only [OT.one.injEq] at e
      obtain ⟨rfl, rfl, rfl⟩ := e
      simp only [ordT, Bool.and_eq_true] at hb
      exact eff l hi rfl hb.2
  | two t1 t2 ih1 ih2 =>
    intro l a w hS h
    refine ⟨fun hb => ?_, fun i r e => by cases e⟩
    simp only [ordT, Bool.and_eq_true, decide_eq_true_eq] at hb
    obtain ⟨⟨⟨hlen, hh⟩, hb1⟩, hb2⟩ := hb
    split at hh
    · rename_i i j e1 e2
      obtain ⟨r1, rfl⟩ := headT e1
      obtain ⟨r2, rfl⟩ := headT e2
      have hr := of_decide_eq_true hh
      have hl : r1.len = r2.len := by simpa [OT.len] using hlen
      show wpAnyH P .any ops Q S (r1.len + 1) l a w
      refine wpAnyH_all hr (by simp) ?_
      intro k hk
      rcases List.mem_cons.1 hk with rfl | hk
      · exact (ih1 l a w hS h.1).2 k r1 rfl (by rw [hr]; simp) hb1
      · obtain rfl := List.mem_singleton.1 hk
        rw [hl]
        exact (ih2 l a w hS h.2).2 k r2 rfl (by rw [hr]; simp) hb2
    · cases hh

theorem wpT_nil {a : Act} {w : World} (h : Q .normal a w) : wpT P ops Q S .nil a w := h
theorem wpT_skip {r : OTo} {a : Act} {w : World} {o : Oper} (hg : Region.wanted o (yielded ops a.tmps) = false)
    (hq : ∀ c a w, Q (.panic c) (a.put o.dst undef) w → Q (.panic c) a w)
    (h : wpT P ops Q S r (a.put o.dst undef) w) : wpT P ops Q S (.one o true r) a w :=
  ⟨undef, .inr ⟨hg, rfl⟩, hq, h⟩
theorem wpT_quiet {r : OTo} {a : Act} {w : World} {o : Oper} {v : Value} (hg : Region.wanted o (yielded ops a.tmps) = true)
    (hq : ∀ c a w, Q (.panic c) (a.put o.dst v) w → Q (.panic c) a w)
    (hy : ∀ w', S w' → (execOp a.eval o).run P w' = .ok (.value v) w') (h : wpT P ops Q S r (a.put o.dst v) w) : wpT P ops Q S (.one o true r) a w :=
  ⟨v, .inl ⟨hg, hy⟩, hq, h⟩
theorem wpT_eff {r : OTo} {a : Act} {w : World} {o : Oper} (hg : Region.wanted o (yielded ops a.tmps) = true)
    (h : ∀ K : Act → World → Prop, (∀ a' w', S w' → wpT P ops Q S r a' w' → K a' w') → o.wp P a w K Q) : wpT P ops Q S (.one o false r) a w := by
  have := h (fun a' w' => S w' ∧ wpT P ops Q S r a' w') (fun _ _ h1 h2 => ⟨h1, h2⟩)
  show if _ then _ else _
  rw [if_pos hg]
  exact this
theorem wpT_effQ {r : OTo} {a : Act} {w : World} {o : Oper} (hg : Region.wanted o (yielded ops a.tmps) = true)
    (h : ∀ (K : Act → World → Prop) (Q' : Exit → Act → World → Prop), (∀ a' w', S w' → wpT P ops Q S r a' w' → K a' w') → o.wp P a w K Q') : wpT P ops Q S (.one o false r) a w :=
  wpT_eff hg fun K hK => h K Q hK
theorem wpT_effskip {r : OTo} {a : Act} {w : World} {o : Oper} (hg : Region.wanted o (yielded ops a.tmps) = false)
    (h : wpT P ops Q S r (a.put o.dst undef) w) : wpT P ops Q S (.one o false r) a w := by
  show if _ then _ else _
  rw [if_neg (by simp [hg])]
  exact h
theorem wpT_two {t1 t2 : OTo} {a : Act} {w : World} (h1 : wpT P ops Q S t1 a w) (h2 : wpT P ops Q S t2 a w) : wpT P ops Q S (.two t1 t2) a w := ⟨h1, h2⟩
theorem wpT_hide {t : OTo} {a : Act} {w : World} (hQ : ∀ c (a : Act) d v w, Q (.panic c) (a.put d v) w → Q (.panic c) a w)
    (h : ∀ QR : Exit → Act → World → Prop, (∀ a w, Q .normal a w → QR .normal a w) → (∀ c (a : Act) d v w, QR (.panic c) (a.put d v) w → QR (.panic c) a w) → wpT P ops QR S t a w) : wpT P ops Q S t a w :=
  h Q (fun _ _ h => h) hQ
end

/-- A region that draws its order, by a tree of orders. -/
theorem St.regionT {w0 w : World} {H0 H : GH} {m : Option Nat} {c d : Int} {L : List (Nat × Obj)} {R : List Row} {P : Program} {Q : Exit → Act → World → Prop} {id : Nat} {a : Act} {l : List Oper} (h : St w0 H0 m c d w H L R) (idx : List Nat) (t : OT) (hm : P.follows .mixedOrders = true)
    (hb : (Region.noSelect l.toArray && decide (t.len = l.toArray.size) && ordT l.toArray t none (Array.replicate l.toArray.size false)) = true)
    (hk : ∀ w', St w0 H0 m c d w' H L R → wpT P l.toArray Q (fun w' => Sat w' H (sel L idx)) (t.ops l) a w') : (Code.region id l.toArray true).wp P Q a w := by
  simp only [Bool.and_eq_true, decide_eq_true_eq] at hb
  refine wp_region_held (S := fun w' => Sat w' H (sel L idx)) hm ?_
  have := (wpAnyH_of_tree hb.1.1 t _ a w.drew (h.drew.sat (GH.le_refl _) idx) (hk _ h.drew)).1 hb.2
  rw [hb.1.2] at this
  exact this
end Go.Proofs.YteigmfkkeofcaaaGreatDoor
