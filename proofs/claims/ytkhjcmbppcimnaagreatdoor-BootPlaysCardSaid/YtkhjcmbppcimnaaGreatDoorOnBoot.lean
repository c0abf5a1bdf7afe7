/-
Heaps whose others are heaps, in memory: making, melding, putting in, the least element, taking it out.
-/
import Derived.Test.YtkhjcmbppcimnaaGreatDoorOlSkew
import Derived.Test.YtkhjcmbppcimnaaGreatDoorNgBp
namespace Go.Proofs.YtkhjcmbppcimnaaGreatDoor
open Go Go.RowKit
set_option linter.unusedVariables false

/-- A heap and where it lies. -/
inductive BtR (H : GH) : Option Addr → BH → Prop
  | mk {b : Nat} {qa : Option Addr} {x : El} {q : List (Tr BH)} (ts : List (Tr Bp)) (hb : H b = some (.cells #[.int .i64 x.1, .int .i64 x.2, .pointer qa] 74)) (hl : LsR H qa ts) (hq : Rw.map Prod.snd ts = q)
      (hd : ∀ y ∈ Rw.els ts, BtR H y.1 y.2) : BtR H (some ⟨b, 0, none⟩) (.mk x q)
theorem BtR.mono {H H' : GH} {p : Option Addr} {t : BH} (h : BtR H p t) (hl : H.le H') : BtR H' p t := by
  induction h with
  | mk ts hb hls hq hd ih => exact .mk ts (hl _ _ hb) (hls.mono hl) hq ih
theorem BtR.node {H : GH} {p : Option Addr} {t : BH} (h : BtR H p t) : NodeK H (p, t) := by
  cases h with
  | @mk b qa x q ts hb hl hq hd => exact ⟨b, qa, rfl, hb⟩
theorem BtR.open {H : GH} {p : Option Addr} {t : BH} (h : BtR H p t) : ∃ (b : Nat) (qa : Option Addr) (ts : List (Tr Bp)), p = some ⟨b, 0, none⟩ ∧ H b = some (.cells #[.int .i64 t.root.1, .int .i64 t.root.2, .pointer qa] 74) ∧ LsR H qa ts ∧ Hid (Rw.map Prod.snd ts = t.queue) ∧ (∀ y ∈ Rw.els ts, BtR H y.1 y.2) := by
  cases h with
  | @mk b qa x q ts hb hl hq hd => exact ⟨b, qa, ts, rfl, hb, hl, hq, hd⟩
/-- A heap as plain data: none, or one. -/
abbrev Hp := Option BH
def HbR (H : GH) (p : Option Addr) : Hp → Prop
  | none => p = none
  | some t => BtR H p t
theorem HbR.mono {H H' : GH} {p : Option Addr} {t : Hp} (h : HbR H p t) (hl : H.le H') : HbR H' p t := by
  cases t with
  | none => exact h
  | some t => exact BtR.mono h hl
namespace Hp
def els : Hp → List El
  | none => []
  | some t => t.els
def size (t : Hp) : Nat := (els t).length
abbrev nil : Hp := none
def meld : Hp → Hp → Hp
  | none => fun t => t
  | some a => fun t => match t with
    | none => some a
    | some b => some (BH.win a b)
def insert (x : El) (t : Hp) : Hp := meld (some (BH.single x)) t
def pop : Hp → Hp
  | none => none
  | some t => t.pop
def min? : Hp → Option El
  | none => none
  | some t => some t.root
/-- How many comparisons, and how many things made. -/
def meldC : Hp → Hp → Nat
  | some a, some b => 1 + Sk.insC (BH.winQ a b)
  | _, _ => 0
def meldD : Hp → Hp → Nat
  | some a, some b => Sk.insD (BH.winQ a b) + 1
  | _, _ => 0
def insC (x : El) (t : Hp) : Nat := meldC (some (BH.single x)) t
def insD (x : El) (t : Hp) : Nat := 1 + meldD (some (BH.single x)) t
def minC (_ : Hp) : Nat := 0
def popC : Hp → Nat
  | none => 0
  | some t => match Rw.minT BH.root t.queue with
    | none => 0
    | some tr => (t.queue.length - 1) + Sk.popC BH.root t.queue + Sk.meldN BH.root tr.x.queue (Sk.pop BH.root t.queue)
def popD : Hp → Nat
  | none => 0
  | some t => match Rw.minT BH.root t.queue with
    | none => 0
    | some tr => Sk.popD BH.root t.queue + Sk.meldN BH.root tr.x.queue (Sk.pop BH.root t.queue) + 1
def ok : Hp → Prop
  | none => True
  | some t => t.ok
theorem size_eq (t : Hp) : size t = (els t).length := rfl
theorem els_nil : els nil = [] := rfl
theorem ok_nil : ok nil := trivial
theorem meld_nil' (s : Hp) : meld s none = s := by cases s <;> rfl
theorem ok_meld {s t : Hp} (hs : ok s) (ht : ok t) : ok (meld s t) := by
  cases s with
  | none => exact ht
  | some a =>
    cases t with
    | none => exact hs
    | some b => exact BH.win_ok hs ht
theorem els_meld {s t : Hp} (hs : ok s) (ht : ok t) : (els (meld s t)).Perm (els s ++ els t) := by
  cases s with
  | none => exact List.Perm.refl _
  | some a =>
    cases t with
    | none => rw [meld_nil', els_nil, List.append_nil]
    | some b => exact BH.win_perm a b
theorem els_single (x : El) : els (some (BH.single x)) = [x] := by
  show BH.els (.mk x []) = [x]
  rw [BH.els_mk]; rfl
theorem ok_insert (x : El) {t : Hp} (ht : ok t) : ok (insert x t) := ok_meld (BH.ok_single x) ht
theorem els_insert (x : El) {t : Hp} (ht : ok t) : (els (insert x t)).Perm (x :: els t) := by
  have := els_meld (s := some (BH.single x)) (t := t) (BH.ok_single x) ht
  rw [els_single] at this
  exact this
theorem ok_pop {t : Hp} (ht : ok t) : ok (pop t) := by
  cases t with
  | none => trivial
  | some t =>
    show ok t.pop
    cases h : t.pop with
    | none => trivial
    | some g => exact BH.pop_ok ht h
theorem min_none {t : Hp} (_ : ok t) (h : min? t = none) : els t = [] := by
  cases t with
  | none => rfl
  | some t => cases h
theorem min_perm {t : Hp} (ht : ok t) {x : El} (h : min? t = some x) : (x :: els (pop t)).Perm (els t) := by
  cases t with
  | none => cases h
  | some t =>
    obtain rfl : t.root = x := Option.some.inj h
    show (t.root :: els t.pop).Perm t.els
    cases h : t.pop with
    | none => rw [BH.pop_nil h]; exact List.Perm.refl _
    | some g => exact BH.pop_perm h
theorem min_least {t : Hp} (ht : ok t) {x : El} (h : min? t = some x) : ∀ y ∈ els (pop t), El.le x y := fun y hy => by
  have hp := min_perm ht h
  cases t with
  | none => cases h
  | some t =>
    obtain rfl : t.root = x := Option.some.inj h
    exact BH.ok_least t ht y (hp.subset (by simp [hy]))
theorem pop_nil : pop nil = nil := rfl
theorem pop_none {t : Hp} (_ : ok t) (h : min? t = none) : pop t = t := by
  cases t with
  | none => rfl
  | some t => cases h
theorem min_nil : min? nil = none := rfl
end Hp
theorem BH.queue_le (t : BH) : Rw.size t.queue + 1 ≤ t.els.length := by
  rw [BH.els_eq]
  have := BH.length_le (Rw.els t.queue)
  simp [Rw.size]; omega
theorem sndSize (ts : List (Tr Bp)) : Rw.size (Rw.map Prod.snd ts) = Rw.size ts := Rw.map_size _ _

set_option maxRecDepth 100000 in
set_option maxHeartbeats 1000000 in
theorem bmade_ok (H : GH) (w : World) (m : Option Nat) (c d : Int) (x : El) (qa : Option Addr) (ts : List (Tr Bp)) (hpre : Pre w H m c d) (hl : LsR H qa ts) (hd : ∀ y ∈ Rw.els ts, BtR H y.1 y.2) :
    Calls Tryz.prog 23 #[mV m, elV x, hV qa] w fun e w' => ∃ p H', e = .returned (hV p) ∧ Post w H m w' H' c (d + 1) ∧ BtR H' p (.mk x (Rw.map Prod.snd ts)) := by
  go_enter Tryz.func23, Tryz.ntmps23
  have h0 := St.start hpre
  refine wp_seq ?_
  repeat (first | simp only [List.nil_append] at h0 | simp only [List.cons_append] at h0 | simp only [List.set_cons_zero] at h0 | simp only [List.set_cons_succ] at h0 | simp only [List.eraseIdx_zero] at h0 | simp only [List.tail_cons] at h0 | simp only [List.eraseIdx_cons_zero] at h0 | simp only [List.eraseIdx_cons_succ] at h0 | simp only [List.setIfInBounds_toArray] at h0)
  refine wp_region_lit ?_
  refine wpList_plainQ rfl (fun K Q' hK => ?_); go_simp
  refine h0.k_alloc (fun w1 h1 => ?_)
  refine hK _ _ ?_; clear hK K; try clear Q'
  refine wpList_plainQ rfl (fun K Q' hK => ?_); go_simp
  refine h1.k_alloc (fun w2 h2 => ?_)
  refine hK _ _ ?_; clear hK K; try clear Q'
  refine wpList_plainQ rfl (fun K Q' hK => ?_); go_simp
  refine h2.k_alloc (fun w3 h3 => ?_)
  refine hK _ _ ?_; clear hK K; try clear Q'
  refine wpList_nil ?_
  show Code.wp _ _ _ _ _
  refine wp_seq ?_
  repeat (first | simp only [List.nil_append] at h3 | simp only [List.cons_append] at h3 | simp only [List.set_cons_zero] at h3 | simp only [List.set_cons_succ] at h3 | simp only [List.eraseIdx_zero] at h3 | simp only [List.tail_cons] at h3 | simp only [List.eraseIdx_cons_zero] at h3 | simp only [List.eraseIdx_cons_succ] at h3 | simp only [List.setIfInBounds_toArray] at h3)
  refine wp_region_lit ?_
  iterate 1 (refine wpList_plainQ rfl (fun K Q' hK => ?_); go_simp; refine hK _ _ ?_; clear hK K; try clear Q')
  -- stops at: eff:call (Go.Op.call {'callee': (Go.Callee.value (Go.Operand.func 42)), 'args': [(Go.Operand.tmp 7), (Go.Operand.const (Go.Value.int Go.IntKind.i64 1))], 'argTypes': [25 slot 8
  refine wpList_plainQ rfl (fun K Q' hK => ?_); go_simp
  refine (made_ok H _ m _ _ h3.pre).mono ?_
  rintro e wA ⟨⟨v, rfl⟩, hpA⟩
  have h4 := h3.call hpA
  refine hK _ _ ?_; clear hK K; try clear Q'
  refine wpList_nil ?_
  show Code.wp _ _ _ _ _
  refine wp_seq ?_
  repeat (first | simp only [List.nil_append] at h4 | simp only [List.cons_append] at h4 | simp only [List.set_cons_zero] at h4 | simp only [List.set_cons_succ] at h4 | simp only [List.eraseIdx_zero] at h4 | simp only [List.tail_cons] at h4 | simp only [List.eraseIdx_cons_zero] at h4 | simp only [List.eraseIdx_cons_succ] at h4 | simp only [List.setIfInBounds_toArray] at h4)
  refine wp_region_lit ?_
  have c_0_0 := h4.cell 0 rfl 0 rfl
  have c_0_1 := h4.cell 0 rfl 1 rfl
  have c_1_0 := h4.cell 1 rfl 0 rfl
  iterate 3 (refine wpList_plainQ rfl (fun K Q' hK => ?_); go_simp; refine hK _ _ ?_; clear hK K; try clear Q')
  clear c_0_0 c_0_1 c_1_0
  refine wpList_plainQ rfl (fun K Q' hK => ?_); go_simp
  refine h4.k_alloc (fun w5 h5 => ?_)
  refine hK _ _ ?_; clear hK K; try clear Q'
  iterate 1 (refine wpList_plainQ rfl (fun K Q' hK => ?_); go_simp; refine hK _ _ ?_; clear hK K; try clear Q')
  have c_0 := h5.cell 2 rfl 0 rfl
  have f_0 := h5.free 2 rfl 0
  refine wpList_plainQ rfl (fun K Q' hK => ?_); go_simp
  clear c_0 f_0
  refine h5.k_set 2 rfl (fun w6 h6 => ?_)
  refine hK _ _ ?_; clear hK K; try clear Q'
  refine wpList_nil ?_
  show Code.wp _ _ _ _ _
  -- stops at: ret
  refine wp_ret ?_
  have r_2_0 := h6.cell 2 rfl 0 rfl
  first | show bodyPost _ _ _ _ _ _ | (simp only [Exit.then]; show bodyPost _ _ _ _ _ _) | (simp only [Exit.inBlock]; show bodyPost _ _ _ _ _ _) | (simp only [Exit.inBlock, Exit.then]; show bodyPost _ _ _ _ _ _) | (simp only [Exit.noGoto, Exit.inBlock, Exit.then]; show bodyPost _ _ _ _ _ _)
  refine bodyPost_ret (v := ?_) ?_ rfl ?_
  rotate_left
  · simp only [results, Tryz.results23]; go_simp; with_reducible rfl
  clear r_2_0
  obtain ⟨H3, h99, l99, e99⟩ := h6.settled 3 rfl
  exact ⟨_, H3, rfl, h99.post, .mk ts e99 (hl.mono l99) rfl fun y hy => (hd y hy).mono l99⟩

set_option maxRecDepth 100000 in
set_option maxHeartbeats 4000000 in
theorem bmeld_ok (H : GH) (w : World) (m : Option Nat) (c d : Int) (p q : Option Addr) (s t : Hp) (hpre : Pre w H m c d) (hn : Hp.size s + Hp.size t < 900001) (hs : HbR H p s) (ht : HbR H q t) :
    Calls Tryz.prog 10 #[hV p, mV m, hV q] w fun e w' => ∃ r H', e = .returned (hV r) ∧ Post w H m w' H' (c + Hp.meldC s t) (d + Hp.meldD s t) ∧ HbR H' r (Hp.meld s t) := by
  match s, t, hn, hs, ht with
  | none, t, hn, hs, ht =>
    obtain rfl : p = none := hs
    go_enter Tryz.func10, Tryz.ntmps10
    have h0 := St.start hpre
    refine wp_seq ?_
    repeat (first | simp only [List.nil_append] at h0 | simp only [List.cons_append] at h0 | simp only [List.set_cons_zero] at h0 | simp only [List.set_cons_succ] at h0 | simp only [List.eraseIdx_zero] at h0 | simp only [List.tail_cons] at h0 | simp only [List.eraseIdx_cons_zero] at h0 | simp only [List.eraseIdx_cons_succ] at h0 | simp only [List.setIfInBounds_toArray] at h0)
    refine wp_region_lit ?_
    refine wpList_plainQ rfl (fun K Q' hK => ?_); go_simp
    refine h0.k_alloc (fun w1 h1 => ?_)
    refine hK _ _ ?_; clear hK K; try clear Q'
    refine wpList_plainQ rfl (fun K Q' hK => ?_); go_simp
    refine h1.k_alloc (fun w2 h2 => ?_)
    refine hK _ _ ?_; clear hK K; try clear Q'
    refine wpList_plainQ rfl (fun K Q' hK => ?_); go_simp
    refine h2.k_alloc (fun w3 h3 => ?_)
    refine hK _ _ ?_; clear hK K; try clear Q'
    refine wpList_nil ?_
    show Code.wp _ _ _ _ _
    refine wp_seq ?_
    refine wp_block ?_
    refine wp_seq ?_
    repeat (first | simp only [List.nil_append] at h3 | simp only [List.cons_append] at h3 | simp only [List.set_cons_zero] at h3 | simp only [List.set_cons_succ] at h3 | simp only [List.eraseIdx_zero] at h3 | simp only [List.tail_cons] at h3 | simp only [List.eraseIdx_cons_zero] at h3 | simp only [List.eraseIdx_cons_succ] at h3 | simp only [List.setIfInBounds_toArray] at h3)
    refine wp_region_lit ?_
    have c_0_0 := h3.cell 0 rfl 0 rfl
    iterate 4 (refine wpList_plainQ rfl (fun K Q' hK => ?_); go_simp; refine hK _ _ ?_; clear hK K; try clear Q')
    clear c_0_0
    refine wpList_nil ?_
    show Code.wp _ _ _ _ _
    -- stops at: cond
    refine wp_cond_true (rfl) ?_
    refine wp_seq ?_
    refine wp_region_lit ?_
    have c_1_0 := h3.cell 1 rfl 0 rfl
    iterate 1 (refine wpList_plainQ rfl (fun K Q' hK => ?_); go_simp; refine hK _ _ ?_; clear hK K; try clear Q')
    clear c_1_0
    have c_0 := h3.cell 2 rfl 0 rfl
    have f_0 := h3.free 2 rfl 0
    refine wpList_plainQ rfl (fun K Q' hK => ?_); go_simp
    clear c_0 f_0
    refine h3.k_set 2 rfl (fun w4 h4 => ?_)
    refine hK _ _ ?_; clear hK K; try clear Q'
    refine wpList_nil ?_
    show Code.wp _ _ _ _ _
    -- stops at: ret
    refine wp_ret ?_
    have r_2_0 := h4.cell 2 rfl 0 rfl
    first | show bodyPost _ _ _ _ _ _ | (simp only [Exit.then]; show bodyPost _ _ _ _ _ _) | (simp only [Exit.inBlock]; show bodyPost _ _ _ _ _ _) | (simp only [Exit.inBlock, Exit.then]; show bodyPost _ _ _ _ _ _) | (simp only [Exit.noGoto, Exit.inBlock, Exit.then]; show bodyPost _ _ _ _ _ _)
    refine bodyPost_ret (v := ?_) ?_ rfl ?_
    rotate_left
    · simp only [results, Tryz.results10]; go_simp; with_reducible rfl
    clear r_2_0
    refine ⟨q, H, rfl, ?_, ht⟩
    simpa [Hp.meldC, Hp.meldD] using h4.post
  | some a, none, hn, hs, ht =>
    obtain rfl : q = none := ht
    have hs' := hs
    obtain ⟨ba, qa, ts, rfl, hba, hla, hqa, hda⟩ := BtR.open hs
    go_enter Tryz.func10, Tryz.ntmps10
    have h0 := St.start hpre
    refine wp_seq ?_
    repeat (first | simp only [List.nil_append] at h0 | simp only [List.cons_append] at h0 | simp only [List.set_cons_zero] at h0 | simp only [List.set_cons_succ] at h0 | simp only [List.eraseIdx_zero] at h0 | simp only [List.tail_cons] at h0 | simp only [List.eraseIdx_cons_zero] at h0 | simp only [List.eraseIdx_cons_succ] at h0 | simp only [List.setIfInBounds_toArray] at h0)
    refine wp_region_lit ?_
    refine wpList_plainQ rfl (fun K Q' hK => ?_); go_simp
    refine h0.k_alloc (fun w1 h1 => ?_)
    refine hK _ _ ?_; clear hK K; try clear Q'
    refine wpList_plainQ rfl (fun K Q' hK => ?_); go_simp
    refine h1.k_alloc (fun w2 h2 => ?_)
    refine hK _ _ ?_; clear hK K; try clear Q'
    refine wpList_plainQ rfl (fun K Q' hK => ?_); go_simp
    refine h2.k_alloc (fun w3 h3 => ?_)
    refine hK _ _ ?_; clear hK K; try clear Q'
    refine wpList_nil ?_
    show Code.wp _ _ _ _ _
    refine wp_seq ?_
    refine wp_block ?_
    refine wp_seq ?_
    repeat (first | simp only [List.nil_append] at h3 | simp only [List.cons_append] at h3 | simp only [List.set_cons_zero] at h3 | simp only [List.set_cons_succ] at h3 | simp only [List.eraseIdx_zero] at h3 | simp only [List.tail_cons] at h3 | simp only [List.eraseIdx_cons_zero] at h3 | simp only [List.eraseIdx_cons_succ] at h3 | simp only [List.setIfInBounds_toArray] at h3)
    refine wp_region_lit ?_
    have c_0_0 := h3.cell 0 rfl 0 rfl
    iterate 4 (refine wpList_plainQ rfl (fun K Q' hK => ?_); go_simp; refine hK _ _ ?_; clear hK K; try clear Q')
    clear c_0_0
    refine wpList_nil ?_
    show Code.wp _ _ _ _ _
    -- stops at: cond
    refine wp_cond_false (rfl) ?_
    refine wp_seq ?_
    refine wp_region_lit ?_
    have c_1_0 := h3.cell 1 rfl 0 rfl
    iterate 4 (refine wpList_plainQ rfl (fun K Q' hK => ?_); go_simp; refine hK _ _ ?_; clear hK K; try clear Q')
    clear c_1_0
    refine wpList_nil ?_
    show Code.wp _ _ _ _ _
    -- stops at: cond
    refine wp_cond_true (rfl) ?_
    refine wp_seq ?_
    refine wp_region_lit ?_
    have c_0_0 := h3.cell 0 rfl 0 rfl
    iterate 1 (refine wpList_plainQ rfl (fun K Q' hK => ?_); go_simp; refine hK _ _ ?_; clear hK K; try clear Q')
    clear c_0_0
    have c_0 := h3.cell 2 rfl 0 rfl
    have f_0 := h3.free 2 rfl 0
    refine wpList_plainQ rfl (fun K Q' hK => ?_); go_simp
    clear c_0 f_0
    refine h3.k_set 2 rfl (fun w4 h4 => ?_)
    refine hK _ _ ?_; clear hK K; try clear Q'
    refine wpList_nil ?_
    show Code.wp _ _ _ _ _
    -- stops at: ret
    refine wp_ret ?_
    have r_2_0 := h4.cell 2 rfl 0 rfl
    first | show bodyPost _ _ _ _ _ _ | (simp only [Exit.then]; show bodyPost _ _ _ _ _ _) | (simp only [Exit.inBlock]; show bodyPost _ _ _ _ _ _) | (simp only [Exit.inBlock, Exit.then]; show bodyPost _ _ _ _ _ _) | (simp only [Exit.noGoto, Exit.inBlock, Exit.then]; show bodyPost _ _ _ _ _ _)
    refine bodyPost_ret (v := ?_) ?_ rfl ?_
    rotate_left
    · simp only [results, Tryz.results10]; go_simp; with_reducible rfl
    clear r_2_0
    refine ⟨_, H, rfl, ?_, hs'⟩
    simpa [Hp.meldC, Hp.meldD] using h4.post
  | some a, some b, hn, hs, ht =>
    have hs' : BtR H p a := hs
    have ht' : BtR H q b := ht
    obtain ⟨ba, qa, ts, rfl, hba, hla, hqa, hda⟩ := BtR.open hs
    obtain ⟨bb, qb, us, rfl, hbb, hlb, hqb, hdb⟩ := BtR.open ht
    have hsz : Hid (Rw.size ts < 900000 ∧ Rw.size us < 900000) := by
      have h1 := BH.queue_le a
      have h2 := BH.queue_le b
      rw [← hqa.out, sndSize] at h1
      rw [← hqb.out, sndSize] at h2
      have : a.els.length + b.els.length < 900001 := hn
      show _ ∧ _
      omega
    cases hlt : El.lt b.root a.root with
    | true =>
      have heq := BH.win_lt hlt
      have heqq := BH.winQ_lt hlt
      go_enter Tryz.func10, Tryz.ntmps10
      have h0 := St.start hpre
      refine wp_seq ?_
      repeat (first | simp only [List.nil_append] at h0 | simp only [List.cons_append] at h0 | simp only [List.set_cons_zero] at h0 | simp only [List.set_cons_succ] at h0 | simp only [List.eraseIdx_zero] at h0 | simp only [List.tail_cons] at h0 | simp only [List.eraseIdx_cons_zero] at h0 | simp only [List.eraseIdx_cons_succ] at h0 | simp only [List.setIfInBounds_toArray] at h0)
      refine wp_region_lit ?_
      refine wpList_plainQ rfl (fun K Q' hK => ?_); go_simp
      refine h0.k_alloc (fun w1 h1 => ?_)
      refine hK _ _ ?_; clear hK K; try clear Q'
      refine wpList_plainQ rfl (fun K Q' hK => ?_); go_simp
      refine h1.k_alloc (fun w2 h2 => ?_)
      refine hK _ _ ?_; clear hK K; try clear Q'
      refine wpList_plainQ rfl (fun K Q' hK => ?_); go_simp
      refine h2.k_alloc (fun w3 h3 => ?_)
      refine hK _ _ ?_; clear hK K; try clear Q'
      refine wpList_nil ?_
      show Code.wp _ _ _ _ _
      refine wp_seq ?_
      refine wp_block ?_
      refine wp_seq ?_
      repeat (first | simp only [List.nil_append] at h3 | simp only [List.cons_append] at h3 | simp only [List.set_cons_zero] at h3 | simp only [List.set_cons_succ] at h3 | simp only [List.eraseIdx_zero] at h3 | simp only [List.tail_cons] at h3 | simp only [List.eraseIdx_cons_zero] at h3 | simp only [List.eraseIdx_cons_succ] at h3 | simp only [List.setIfInBounds_toArray] at h3)
      refine wp_region_lit ?_
      have c_0_0 := h3.cell 0 rfl 0 rfl
      iterate 4 (refine wpList_plainQ rfl (fun K Q' hK => ?_); go_simp; refine hK _ _ ?_; clear hK K; try clear Q')
      clear c_0_0
      refine wpList_nil ?_
      show Code.wp _ _ _ _ _
      -- stops at: cond
      refine wp_cond_false (rfl) ?_
      refine wp_seq ?_
      refine wp_region_lit ?_
      have c_1_0 := h3.cell 1 rfl 0 rfl
      iterate 4 (refine wpList_plainQ rfl (fun K Q' hK => ?_); go_simp; refine hK _ _ ?_; clear hK K; try clear Q')
      clear c_1_0
      refine wpList_nil ?_
      show Code.wp _ _ _ _ _
      -- stops at: cond
      refine wp_cond_false (rfl) ?_
      refine wp_skip ?_
      show Code.wp _ _ _ _ _
      refine wp_seq ?_
      refine wp_seq ?_
      refine h3.region [0, 1] [(0, true), (1, true), (2, true), (3, true), (4, true), (5, true), (6, true), (7, true), (8, true), (9, true), (10, true), (11, false)] (by kernel_rfl) (by kernel_rfl) (fun w4 h4 => ?_)
      refine wpOrd_hide (fun _ _ d _ _ h => by cases d <;> exact h) (fun QR hQn hQp => ?_)
      simp only [ordOps, List.map_cons, List.map_nil, List.getD_cons_zero, List.getD_cons_succ]
      iterate 11 (refine wpOrd_quiet (v := ?_) rfl (fun _ _ _ => hQp _ _ _ _ _) ?_ ?_; rotate_left; (intro w' hS; have c_1_0 := hS.cell 1 rfl 0 rfl; have c_hbb_0 := hS.gh hbb 0 rfl; have c_hbb_1 := hS.gh hbb 1 rfl; have c_0_0 := hS.cell 0 rfl 0 rfl; have c_hba_0 := hS.gh hba 0 rfl; have c_hba_1 := hS.gh hba 1 rfl; (first | (go_simp; done) | (go_simp; with_reducible rfl))); simp only [Act.put, List.setIfInBounds_toArray, List.set_cons_zero, List.set_cons_succ])
      -- stops at: eff:call (Go.Op.call {'callee': (Go.Callee.value (Go.Operand.func 24)), 'args': [(Go.Operand.tmp 17), (Go.Operand.tmp 22), (Go.Operand.tmp 27)], 'argTypes': [25, 32, 32] slot 28
      refine wpOrd_effQ rfl (fun K Q' hK => ?_); go_simp
      refine (less_ok H _ m c d b.root a.root h4.pre).mono ?_
      rintro e wA ⟨H1, rfl, hpA⟩
      rw [hlt]
      have h5 := h4.call hpA
      have hba_5 := hpA.le _ _ hba
      have hbb_5 := hpA.le _ _ hbb
      refine hK _ _ (h5.sat' hpA.le [0, 1] (by kernel_rfl)) ?_; clear hK K; try clear Q'
      refine wpOrd_nil (hQn _ _ ?_); clear hQn hQp QR
      show Code.wp _ _ _ _ _
      -- stops at: cond
      refine wp_cond_true (rfl) ?_
      repeat (first | simp only [List.nil_append] at h5 | simp only [List.cons_append] at h5 | simp only [List.set_cons_zero] at h5 | simp only [List.set_cons_succ] at h5 | simp only [List.eraseIdx_zero] at h5 | simp only [List.tail_cons] at h5 | simp only [List.eraseIdx_cons_zero] at h5 | simp only [List.eraseIdx_cons_succ] at h5 | simp only [List.setIfInBounds_toArray] at h5)
      refine wp_region_lit ?_
      have c_1_0 := h5.cell 1 rfl 0 rfl
      have c_0_0 := h5.cell 0 rfl 0 rfl
      iterate 2 (refine wpList_plainQ rfl (fun K Q' hK => ?_); go_simp; refine hK _ _ ?_; clear hK K; try clear Q')
      clear c_1_0 c_0_0
      have c_0 := h5.cell 0 rfl 0 rfl
      have f_0 := h5.free 0 rfl 0
      refine wpList_plainQ rfl (fun K Q' hK => ?_); go_simp
      clear c_0 f_0
      refine h5.k_set 0 rfl (fun w6 h6 => ?_)
      refine hK _ _ ?_; clear hK K; try clear Q'
      have c_0 := h6.cell 1 rfl 0 rfl
      have f_0 := h6.free 1 rfl 0
      refine wpList_plainQ rfl (fun K Q' hK => ?_); go_simp
      clear c_0 f_0
      refine h6.k_set 1 rfl (fun w7 h7 => ?_)
      refine hK _ _ ?_; clear hK K; try clear Q'
      refine wpList_nil ?_
      show Code.wp _ _ _ _ _
      refine wp_seq ?_
      repeat (first | simp only [List.nil_append] at h7 | simp only [List.cons_append] at h7 | simp only [List.set_cons_zero] at h7 | simp only [List.set_cons_succ] at h7 | simp only [List.eraseIdx_zero] at h7 | simp only [List.tail_cons] at h7 | simp only [List.eraseIdx_cons_zero] at h7 | simp only [List.eraseIdx_cons_succ] at h7 | simp only [List.setIfInBounds_toArray] at h7)
      refine h7.region [0, 1] [(0, true), (1, true), (2, true), (3, true), (4, true), (5, true), (6, true), (7, true), (8, true), (9, true), (10, true), (11, true), (12, true), (13, false), (14, false), (15, false)] (by kernel_rfl) (by kernel_rfl) (fun w8 h8 => ?_)
      refine wpOrd_hide (fun _ _ d _ _ h => by cases d <;> exact h) (fun QR hQn hQp => ?_)
      simp only [ordOps, List.map_cons, List.map_nil, List.getD_cons_zero, List.getD_cons_succ]
      iterate 13 (refine wpOrd_quiet (v := ?_) rfl (fun _ _ _ => hQp _ _ _ _ _) ?_ ?_; rotate_left; (intro w' hS; have c_0_0 := hS.cell 0 rfl 0 rfl; have c_hbb_0 := hS.gh hbb_5 0 rfl; have c_hbb_1 := hS.gh hbb_5 1 rfl; have c_hbb_2 := hS.gh hbb_5 2 rfl; have c_1_0 := hS.cell 1 rfl 0 rfl; (first | (go_simp; done) | (go_simp; with_reducible rfl))); simp only [Act.put, List.setIfInBounds_toArray, List.set_cons_zero, List.set_cons_succ])
      -- stops at: eff:call (Go.Op.call {'callee': (Go.Callee.value (Go.Operand.func 25)), 'args': [(Go.Operand.tmp 41), (Go.Operand.tmp 42), (Go.Operand.tmp 43)], 'argTypes': [71, 25, 29] slot 44
      -- stops at: eff:call (Go.Op.call {'callee': (Go.Callee.value (Go.Operand.func 25)), 'args': [(Go.Operand.tmp 41), (Go.Operand.tmp 42), (Go.Operand.tmp 43)], 'argTypes': [71, 25, 29] slot 44
      refine wpOrd_effQ rfl (fun K Q' hK => ?_); go_simp
      refine (skinsert_ok H1 _ m _ _ qb (some ⟨ba, 0, none⟩, a) us h8.pre (by have := hsz.out; omega) (fun y hy => by rw [List.mem_singleton.1 hy]; exact (hs'.mono hpA.le).node) (hlb.mono hpA.le)).mono ?_
      rintro e wB ⟨q2, H2, rfl, hpB, hB⟩
      have h9 := h8.call hpB
      have hba_9 := hpB.le _ _ hba_5
      have hbb_9 := hpB.le _ _ hbb_5
      refine hK _ _ (h9.sat' hpB.le [0, 1] (by kernel_rfl)) ?_; clear hK K; try clear Q'
      -- stops at: eff:call (Go.Op.call {'callee': (Go.Callee.value (Go.Operand.func 23)), 'args': [(Go.Operand.tmp 31), (Go.Operand.tmp 36), (Go.Operand.tmp 44)], 'argTypes': [25, 32, 71] slot 45
      refine wpOrd_effQ rfl (fun K Q' hK => ?_); go_simp
      refine (bmade_ok H2 _ m _ _ b.root q2 _ h9.pre hB (fun y hy => by
        rcases List.mem_cons.1 ((Sk.insert_perm kf (some ⟨ba, 0, none⟩, a) us).subset hy) with rfl | hy
        · exact (hs'.mono hpA.le).mono hpB.le
        · exact ((hdb y hy).mono hpA.le).mono hpB.le)).mono ?_
      rintro e wC ⟨p9, H9, rfl, hpC, hC⟩
      have h10 := h9.call hpC
      have hba_10 := hpC.le _ _ hba_9
      have hbb_10 := hpC.le _ _ hbb_9
      refine hK _ _ (h10.sat' (GH.le.trans hpB.le hpC.le) [0, 1] (by kernel_rfl)) ?_; clear hK K; try clear Q'
      have c_0 := h10.cell 2 rfl 0 rfl
      have f_0 := h10.free 2 rfl 0
      refine wpOrd_effQ rfl (fun K Q' hK => ?_); go_simp
      clear c_0 f_0
      refine h10.k_set 2 rfl (fun w11 h11 => ?_)
      refine hK _ _ (h11.sat' (GH.le.trans hpB.le hpC.le) [0, 1] (by kernel_rfl)) ?_; clear hK K; try clear Q'
      refine wpOrd_nil (hQn _ _ ?_); clear hQn hQp QR
      show Code.wp _ _ _ _ _
      -- stops at: ret
      refine wp_ret ?_
      have r_2_0 := h11.cell 2 rfl 0 rfl
      first | show bodyPost _ _ _ _ _ _ | (simp only [Exit.then]; show bodyPost _ _ _ _ _ _) | (simp only [Exit.inBlock]; show bodyPost _ _ _ _ _ _) | (simp only [Exit.inBlock, Exit.then]; show bodyPost _ _ _ _ _ _) | (simp only [Exit.noGoto, Exit.inBlock, Exit.then]; show bodyPost _ _ _ _ _ _)
      refine bodyPost_ret (v := ?_) ?_ rfl ?_
      rotate_left
      · simp only [results, Tryz.results10]; go_simp; with_reducible rfl
      clear r_2_0
      have hmap := Sk.map_insert Prod.snd BH.root (some ⟨ba, 0, none⟩, a) us
      rw [show Rw.map Prod.snd (Sk.insert kf (some ⟨ba, 0, none⟩, a) us) = Sk.insert BH.root a b.queue by rw [← hqb.out]; exact hmap.1] at hC
      refine ⟨p9, H9, rfl, ?_, by rw [show Hp.meld (some a) (some b) = some (BH.win a b) from rfl, heq]; exact hC⟩
      have hq := h11.post
      have e1 : Hp.meldC (some a) (some b) = 1 + Sk.insC us := by show 1 + Sk.insC (BH.winQ a b) = _; rw [heqq, ← hqb.out, hmap.2.1]
      have e2 : Hp.meldD (some a) (some b) = Sk.insD us + 1 := by show Sk.insD (BH.winQ a b) + 1 = _; rw [heqq, ← hqb.out, hmap.2.2]
      rw [e1, e2]
      rw [show c + 1 + (Sk.insC us : Nat) = c + ((1 + Sk.insC us : Nat) : Int) by omega, show d + (Sk.insD us : Nat) + 1 = d + ((Sk.insD us + 1 : Nat) : Int) by omega] at hq
      exact hq
    | false =>
      have heq := BH.win_ge hlt
      have heqq := BH.winQ_ge hlt
      go_enter Tryz.func10, Tryz.ntmps10
      have h0 := St.start hpre
      refine wp_seq ?_
      repeat (first | simp only [List.nil_append] at h0 | simp only [List.cons_append] at h0 | simp only [List.set_cons_zero] at h0 | simp only [List.set_cons_succ] at h0 | simp only [List.eraseIdx_zero] at h0 | simp only [List.tail_cons] at h0 | simp only [List.eraseIdx_cons_zero] at h0 | simp only [List.eraseIdx_cons_succ] at h0 | simp only [List.setIfInBounds_toArray] at h0)
      refine wp_region_lit ?_
      refine wpList_plainQ rfl (fun K Q' hK => ?_); go_simp
      refine h0.k_alloc (fun w1 h1 => ?_)
      refine hK _ _ ?_; clear hK K; try clear Q'
      refine wpList_plainQ rfl (fun K Q' hK => ?_); go_simp
      refine h1.k_alloc (fun w2 h2 => ?_)
      refine hK _ _ ?_; clear hK K; try clear Q'
      refine wpList_plainQ rfl (fun K Q' hK => ?_); go_simp
      refine h2.k_alloc (fun w3 h3 => ?_)
      refine hK _ _ ?_; clear hK K; try clear Q'
      refine wpList_nil ?_
      show Code.wp _ _ _ _ _
      refine wp_seq ?_
      refine wp_block ?_
      refine wp_seq ?_
      repeat (first | simp only [List.nil_append] at h3 | simp only [List.cons_append] at h3 | simp only [List.set_cons_zero] at h3 | simp only [List.set_cons_succ] at h3 | simp only [List.eraseIdx_zero] at h3 | simp only [List.tail_cons] at h3 | simp only [List.eraseIdx_cons_zero] at h3 | simp only [List.eraseIdx_cons_succ] at h3 | simp only [List.setIfInBounds_toArray] at h3)
      refine wp_region_lit ?_
      have c_0_0 := h3.cell 0 rfl 0 rfl
      iterate 4 (refine wpList_plainQ rfl (fun K Q' hK => ?_); go_simp; refine hK _ _ ?_; clear hK K; try clear Q')
      clear c_0_0
      refine wpList_nil ?_
      show Code.wp _ _ _ _ _
      -- stops at: cond
      refine wp_cond_false (rfl) ?_
      refine wp_seq ?_
      refine wp_region_lit ?_
      have c_1_0 := h3.cell 1 rfl 0 rfl
      iterate 4 (refine wpList_plainQ rfl (fun K Q' hK => ?_); go_simp; refine hK _ _ ?_; clear hK K; try clear Q')
      clear c_1_0
      refine wpList_nil ?_
      show Code.wp _ _ _ _ _
      -- stops at: cond
      refine wp_cond_false (rfl) ?_
      refine wp_skip ?_
      show Code.wp _ _ _ _ _
      refine wp_seq ?_
      refine wp_seq ?_
      refine h3.region [0, 1] [(0, true), (1, true), (2, true), (3, true), (4, true), (5, true), (6, true), (7, true), (8, true), (9, true), (10, true), (11, false)] (by kernel_rfl) (by kernel_rfl) (fun w4 h4 => ?_)
      refine wpOrd_hide (fun _ _ d _ _ h => by cases d <;> exact h) (fun QR hQn hQp => ?_)
      simp only [ordOps, List.map_cons, List.map_nil, List.getD_cons_zero, List.getD_cons_succ]
      iterate 11 (refine wpOrd_quiet (v := ?_) rfl (fun _ _ _ => hQp _ _ _ _ _) ?_ ?_; rotate_left; (intro w' hS; have c_1_0 := hS.cell 1 rfl 0 rfl; have c_hbb_0 := hS.gh hbb 0 rfl; have c_hbb_1 := hS.gh hbb 1 rfl; have c_0_0 := hS.cell 0 rfl 0 rfl; have c_hba_0 := hS.gh hba 0 rfl; have c_hba_1 := hS.gh hba 1 rfl; (first | (go_simp; done) | (go_simp; with_reducible rfl))); simp only [Act.put, List.setIfInBounds_toArray, List.set_cons_zero, List.set_cons_succ])
      -- stops at: eff:call (Go.Op.call {'callee': (Go.Callee.value (Go.Operand.func 24)), 'args': [(Go.Operand.tmp 17), (Go.Operand.tmp 22), (Go.Operand.tmp 27)], 'argTypes': [25, 32, 32] slot 28
      refine wpOrd_effQ rfl (fun K Q' hK => ?_); go_simp
      refine (less_ok H _ m c d b.root a.root h4.pre).mono ?_
      rintro e wA ⟨H1, rfl, hpA⟩
      rw [hlt]
      have h5 := h4.call hpA
      have hba_5 := hpA.le _ _ hba
      have hbb_5 := hpA.le _ _ hbb
      refine hK _ _ (h5.sat' hpA.le [0, 1] (by kernel_rfl)) ?_; clear hK K; try clear Q'
      refine wpOrd_nil (hQn _ _ ?_); clear hQn hQp QR
      show Code.wp _ _ _ _ _
      -- stops at: cond
      refine wp_cond_false (rfl) ?_
      refine wp_skip ?_
      show Code.wp _ _ _ _ _
      refine wp_seq ?_
      repeat (first | simp only [List.nil_append] at h5 | simp only [List.cons_append] at h5 | simp only [List.set_cons_zero] at h5 | simp only [List.set_cons_succ] at h5 | simp only [List.eraseIdx_zero] at h5 | simp only [List.tail_cons] at h5 | simp only [List.eraseIdx_cons_zero] at h5 | simp only [List.eraseIdx_cons_succ] at h5 | simp only [List.setIfInBounds_toArray] at h5)
      refine h5.region [0, 1] [(0, true), (1, true), (2, true), (3, true), (4, true), (5, true), (6, true), (7, true), (8, true), (9, true), (10, true), (11, true), (12, true), (13, false), (14, false), (15, false)] (by kernel_rfl) (by kernel_rfl) (fun w6 h6 => ?_)
      refine wpOrd_hide (fun _ _ d _ _ h => by cases d <;> exact h) (fun QR hQn hQp => ?_)
      simp only [ordOps, List.map_cons, List.map_nil, List.getD_cons_zero, List.getD_cons_succ]
      iterate 13 (refine wpOrd_quiet (v := ?_) rfl (fun _ _ _ => hQp _ _ _ _ _) ?_ ?_; rotate_left; (intro w' hS; have c_0_0 := hS.cell 0 rfl 0 rfl; have c_hba_0 := hS.gh hba_5 0 rfl; have c_hba_1 := hS.gh hba_5 1 rfl; have c_hba_2 := hS.gh hba_5 2 rfl; have c_1_0 := hS.cell 1 rfl 0 rfl; (first | (go_simp; done) | (go_simp; with_reducible rfl))); simp only [Act.put, List.setIfInBounds_toArray, List.set_cons_zero, List.set_cons_succ])
      -- stops at: eff:call (Go.Op.call {'callee': (Go.Callee.value (Go.Operand.func 25)), 'args': [(Go.Operand.tmp 41), (Go.Operand.tmp 42), (Go.Operand.tmp 43)], 'argTypes': [71, 25, 29] slot 44
      refine wpOrd_effQ rfl (fun K Q' hK => ?_); go_simp
      refine (skinsert_ok H1 _ m _ _ qa (some ⟨bb, 0, none⟩, b) ts h6.pre (by have := hsz.out; omega) (fun y hy => by rw [List.mem_singleton.1 hy]; exact (ht'.mono hpA.le).node) (hla.mono hpA.le)).mono ?_
      rintro e wB ⟨q2, H2, rfl, hpB, hB⟩
      have h7 := h6.call hpB
      have hba_7 := hpB.le _ _ hba_5
      have hbb_7 := hpB.le _ _ hbb_5
      refine hK _ _ (h7.sat' hpB.le [0, 1] (by kernel_rfl)) ?_; clear hK K; try clear Q'
      -- stops at: eff:call (Go.Op.call {'callee': (Go.Callee.value (Go.Operand.func 23)), 'args': [(Go.Operand.tmp 31), (Go.Operand.tmp 36), (Go.Operand.tmp 44)], 'argTypes': [25, 32, 71] slot 45
      refine wpOrd_effQ rfl (fun K Q' hK => ?_); go_simp
      refine (bmade_ok H2 _ m _ _ a.root q2 _ h7.pre hB (fun y hy => by
        rcases List.mem_cons.1 ((Sk.insert_perm kf (some ⟨bb, 0, none⟩, b) ts).subset hy) with rfl | hy
        · exact (ht'.mono hpA.le).mono hpB.le
        · exact ((hda y hy).mono hpA.le).mono hpB.le)).mono ?_
      rintro e wC ⟨p9, H9, rfl, hpC, hC⟩
      have h8 := h7.call hpC
      have hba_8 := hpC.le _ _ hba_7
      have hbb_8 := hpC.le _ _ hbb_7
      refine hK _ _ (h8.sat' (GH.le.trans hpB.le hpC.le) [0, 1] (by kernel_rfl)) ?_; clear hK K; try clear Q'
      have c_0 := h8.cell 2 rfl 0 rfl
      have f_0 := h8.free 2 rfl 0
      refine wpOrd_effQ rfl (fun K Q' hK => ?_); go_simp
      clear c_0 f_0
      refine h8.k_set 2 rfl (fun w9 h9 => ?_)
      refine hK _ _ (h9.sat' (GH.le.trans hpB.le hpC.le) [0, 1] (by kernel_rfl)) ?_; clear hK K; try clear Q'
      refine wpOrd_nil (hQn _ _ ?_); clear hQn hQp QR
      show Code.wp _ _ _ _ _
      -- stops at: ret
      refine wp_ret ?_
      have r_2_0 := h9.cell 2 rfl 0 rfl
      first | show bodyPost _ _ _ _ _ _ | (simp only [Exit.then]; show bodyPost _ _ _ _ _ _) | (simp only [Exit.inBlock]; show bodyPost _ _ _ _ _ _) | (simp only [Exit.inBlock, Exit.then]; show bodyPost _ _ _ _ _ _) | (simp only [Exit.noGoto, Exit.inBlock, Exit.then]; show bodyPost _ _ _ _ _ _)
      refine bodyPost_ret (v := ?_) ?_ rfl ?_
      rotate_left
      · simp only [results, Tryz.results10]; go_simp; with_reducible rfl
      clear r_2_0
      have hmap := Sk.map_insert Prod.snd BH.root (some ⟨bb, 0, none⟩, b) ts
      rw [show Rw.map Prod.snd (Sk.insert kf (some ⟨bb, 0, none⟩, b) ts) = Sk.insert BH.root b a.queue by rw [← hqa.out]; exact hmap.1] at hC
      refine ⟨p9, H9, rfl, ?_, by rw [show Hp.meld (some a) (some b) = some (BH.win a b) from rfl, heq]; exact hC⟩
      have hq := h9.post
      have e1 : Hp.meldC (some a) (some b) = 1 + Sk.insC ts := by show 1 + Sk.insC (BH.winQ a b) = _; rw [heqq, ← hqa.out, hmap.2.1]
      have e2 : Hp.meldD (some a) (some b) = Sk.insD ts + 1 := by show Sk.insD (BH.winQ a b) + 1 = _; rw [heqq, ← hqa.out, hmap.2.2]
      rw [e1, e2]
      rw [show c + 1 + (Sk.insC ts : Nat) = c + ((1 + Sk.insC ts : Nat) : Int) by omega, show d + (Sk.insD ts : Nat) + 1 = d + ((Sk.insD ts + 1 : Nat) : Int) by omega] at hq
      exact hq

set_option maxRecDepth 100000 in
set_option maxHeartbeats 1000000 in
theorem binsert_ok (H : GH) (w : World) (m : Option Nat) (c d : Int) (p : Option Addr) (x : El) (t : Hp) (hpre : Pre w H m c d) (hn : Hp.size t < 900000) (ht : HbR H p t) :
    Calls Tryz.prog 8 #[hV p, mV m, elV x] w fun e w' => ∃ r H', e = .returned (hV r) ∧ Post w H m w' H' (c + Hp.insC x t) (d + Hp.insD x t) ∧ HbR H' r (Hp.insert x t) := by
  have h1 : Hp.size (some (BH.single x)) = 1 := by unfold Hp.size; rw [Hp.els_single]; rfl
  go_enter Tryz.func8, Tryz.ntmps8
  have h0 := St.start hpre
  refine wp_seq ?_
  repeat (first | simp only [List.nil_append] at h0 | simp only [List.cons_append] at h0 | simp only [List.set_cons_zero] at h0 | simp only [List.set_cons_succ] at h0 | simp only [List.eraseIdx_zero] at h0 | simp only [List.tail_cons] at h0 | simp only [List.eraseIdx_cons_zero] at h0 | simp only [List.eraseIdx_cons_succ] at h0 | simp only [List.setIfInBounds_toArray] at h0)
  refine wp_region_lit ?_
  refine wpList_plainQ rfl (fun K Q' hK => ?_); go_simp
  refine h0.k_alloc (fun w1 h1 => ?_)
  refine hK _ _ ?_; clear hK K; try clear Q'
  refine wpList_plainQ rfl (fun K Q' hK => ?_); go_simp
  refine h1.k_alloc (fun w2 h2 => ?_)
  refine hK _ _ ?_; clear hK K; try clear Q'
  refine wpList_plainQ rfl (fun K Q' hK => ?_); go_simp
  refine h2.k_alloc (fun w3 h3 => ?_)
  refine hK _ _ ?_; clear hK K; try clear Q'
  refine wpList_nil ?_
  show Code.wp _ _ _ _ _
  refine wp_seq ?_
  repeat (first | simp only [List.nil_append] at h3 | simp only [List.cons_append] at h3 | simp only [List.set_cons_zero] at h3 | simp only [List.set_cons_succ] at h3 | simp only [List.eraseIdx_zero] at h3 | simp only [List.tail_cons] at h3 | simp only [List.eraseIdx_cons_zero] at h3 | simp only [List.eraseIdx_cons_succ] at h3 | simp only [List.setIfInBounds_toArray] at h3)
  refine h3.region [0, 1] [(0, true), (1, true), (2, true), (4, true), (5, true), (3, false), (6, false), (7, false)] (by kernel_rfl) (by kernel_rfl) (fun w4 h4 => ?_)
  refine wpOrd_hide (fun _ _ d _ _ h => by cases d <;> exact h) (fun QR hQn hQp => ?_)
  simp only [ordOps, List.map_cons, List.map_nil, List.getD_cons_zero, List.getD_cons_succ]
  iterate 5 (refine wpOrd_quiet (v := ?_) rfl (fun _ _ _ => hQp _ _ _ _ _) ?_ ?_; rotate_left; (intro w' hS; have c_1_0 := hS.cell 1 rfl 0 rfl; have c_1_1 := hS.cell 1 rfl 1 rfl; have c_0_0 := hS.cell 0 rfl 0 rfl; (first | (go_simp; done) | (go_simp; with_reducible rfl))); simp only [Act.put, List.setIfInBounds_toArray, List.set_cons_zero, List.set_cons_succ])
  -- stops at: eff:call (Go.Op.call {'callee': (Go.Callee.value (Go.Operand.func 23)), 'args': [(Go.Operand.tmp 7), (Go.Operand.tmp 8), (Go.Operand.tmp 9)], 'argTypes': [25, 32, 71]}) slot 10
  refine wpOrd_effQ rfl (fun K Q' hK => ?_); go_simp
  refine (bmade_ok H _ m _ _ x none [] h4.pre (LsR.nil H) (fun y hy => by simp [Rw.els] at hy)).mono ?_
  rintro e wA ⟨p1, H1, rfl, hpA, hA⟩
  have h5 := h4.call hpA
  refine hK _ _ (h5.sat' hpA.le [0, 1] (by kernel_rfl)) ?_; clear hK K; try clear Q'
  -- stops at: eff:call (Go.Op.call {'callee': (Go.Callee.value (Go.Operand.func 10)), 'args': [(Go.Operand.tmp 10), (Go.Operand.tmp 11), (Go.Operand.tmp 12)], 'argTypes': [29, 25, 29] slot 13
  refine wpOrd_effQ rfl (fun K Q' hK => ?_); go_simp
  refine (bmeld_ok H1 _ m _ _ p1 p (some (BH.single x)) t h5.pre (by omega) hA (ht.mono hpA.le)).mono ?_
  rintro e wB ⟨p2, H2, rfl, hpB, hB⟩
  have h6 := h5.call hpB
  refine hK _ _ (h6.sat' (GH.le.trans hpA.le hpB.le) [0, 1] (by kernel_rfl)) ?_; clear hK K; try clear Q'
  have c_0 := h6.cell 2 rfl 0 rfl
  have f_0 := h6.free 2 rfl 0
  refine wpOrd_effQ rfl (fun K Q' hK => ?_); go_simp
  clear c_0 f_0
  refine h6.k_set 2 rfl (fun w7 h7 => ?_)
  refine hK _ _ (h7.sat' (GH.le.trans hpA.le hpB.le) [0, 1] (by kernel_rfl)) ?_; clear hK K; try clear Q'
  refine wpOrd_nil (hQn _ _ ?_); clear hQn hQp QR
  show Code.wp _ _ _ _ _
  -- stops at: ret
  refine wp_ret ?_
  have r_2_0 := h7.cell 2 rfl 0 rfl
  first | show bodyPost _ _ _ _ _ _ | (simp only [Exit.then]; show bodyPost _ _ _ _ _ _) | (simp only [Exit.inBlock]; show bodyPost _ _ _ _ _ _) | (simp only [Exit.inBlock, Exit.then]; show bodyPost _ _ _ _ _ _) | (simp only [Exit.noGoto, Exit.inBlock, Exit.then]; show bodyPost _ _ _ _ _ _)
  refine bodyPost_ret (v := ?_) ?_ rfl ?_
  rotate_left
  · simp only [results, Tryz.results8]; go_simp; with_reducible rfl
  clear r_2_0
  refine ⟨p2, H2, rfl, ?_, hB⟩
  have hq := h7.post
  rw [show d + 1 + (Hp.meldD (some (BH.single x)) t : Nat) = d + ((Hp.insD x t : Nat) : Int) by unfold Hp.insD; omega] at hq
  exact hq

set_option maxRecDepth 100000 in
theorem bmin_ok (H : GH) (w : World) (m : Option Nat) (c d : Int) (p : Option Addr) (t : Hp) (hpre : Pre w H m c d) (ht : HbR H p t) :
    Calls Tryz.prog 16 #[hV p, mV m] w fun e w' => ∃ H', e = .returned (.tuple #[elV ((Hp.min? t).getD (0, 0)), .bool (Hp.min? t).isSome]) ∧ Post w H m w' H' c d := by
  match t, ht with
  | none, ht =>
    obtain rfl : p = none := ht
    go_enter Tryz.func16, Tryz.ntmps16
    have h0 := St.start hpre
    refine wp_seq ?_
    repeat (first | simp only [List.nil_append] at h0 | simp only [List.cons_append] at h0 | simp only [List.set_cons_zero] at h0 | simp only [List.set_cons_succ] at h0 | simp only [List.eraseIdx_zero] at h0 | simp only [List.tail_cons] at h0 | simp only [List.eraseIdx_cons_zero] at h0 | simp only [List.eraseIdx_cons_succ] at h0 | simp only [List.setIfInBounds_toArray] at h0)
    refine wp_region_lit ?_
    refine wpList_plainQ rfl (fun K Q' hK => ?_); go_simp
    refine h0.k_alloc (fun w1 h1 => ?_)
    refine hK _ _ ?_; clear hK K; try clear Q'
    refine wpList_plainQ rfl (fun K Q' hK => ?_); go_simp
    refine h1.k_alloc (fun w2 h2 => ?_)
    refine hK _ _ ?_; clear hK K; try clear Q'
    iterate 1 (refine wpList_plainQ rfl (fun K Q' hK => ?_); go_simp; refine hK _ _ ?_; clear hK K; try clear Q')
    refine wpList_nil ?_
    show Code.wp _ _ _ _ _
    refine wp_seq ?_
    refine wp_seq ?_
    repeat (first | simp only [List.nil_append] at h2 | simp only [List.cons_append] at h2 | simp only [List.set_cons_zero] at h2 | simp only [List.set_cons_succ] at h2 | simp only [List.eraseIdx_zero] at h2 | simp only [List.tail_cons] at h2 | simp only [List.eraseIdx_cons_zero] at h2 | simp only [List.eraseIdx_cons_succ] at h2 | simp only [List.setIfInBounds_toArray] at h2)
    refine wp_region_lit ?_
    have c_0_0 := h2.cell 0 rfl 0 rfl
    iterate 3 (refine wpList_plainQ rfl (fun K Q' hK => ?_); go_simp; refine hK _ _ ?_; clear hK K; try clear Q')
    clear c_0_0
    refine wpList_nil ?_
    show Code.wp _ _ _ _ _
    -- stops at: cond
    refine wp_cond_true (rfl) ?_
    refine wp_seq ?_
    refine wp_region_lit ?_
    iterate 1 (refine wpList_plainQ rfl (fun K Q' hK => ?_); go_simp; refine hK _ _ ?_; clear hK K; try clear Q')
    have c_0 := h2.cell 1 rfl 0 rfl
    have f_0 := h2.free 1 rfl 0
    have c_1 := h2.cell 1 rfl 1 rfl
    have f_1 := h2.free 1 rfl 1
    refine wpList_plainQ rfl (fun K Q' hK => ?_); go_simp
    clear c_0 f_0 c_1 f_1
    refine (h2.set (i := 1) rfl 0 _).k_set 1 rfl (fun w3 h3 => ?_)
    refine hK _ _ ?_; clear hK K; try clear Q'
    iterate 1 (refine wpList_plainQ rfl (fun K Q' hK => ?_); go_simp; refine hK _ _ ?_; clear hK K; try clear Q')
    refine wpList_nil ?_
    show Code.wp _ _ _ _ _
    -- stops at: ret
    refine wp_ret ?_
    have r_1_0 := h3.cell 1 rfl 0 rfl
    have r_1_1 := h3.cell 1 rfl 1 rfl
    first | show bodyPost _ _ _ _ _ _ | (simp only [Exit.then]; show bodyPost _ _ _ _ _ _) | (simp only [Exit.inBlock]; show bodyPost _ _ _ _ _ _) | (simp only [Exit.inBlock, Exit.then]; show bodyPost _ _ _ _ _ _) | (simp only [Exit.noGoto, Exit.inBlock, Exit.then]; show bodyPost _ _ _ _ _ _)
    refine bodyPost_ret (v := ?_) ?_ rfl ?_
    rotate_left
    · simp only [results, Tryz.results16]; go_simp; with_reducible rfl
    clear r_1_0 r_1_1
    exact ⟨H, rfl, h3.post⟩
  | some t, ht =>
    obtain ⟨b, qa, ts, rfl, hb, hl, hq, hd⟩ := BtR.open ht
    go_enter Tryz.func16, Tryz.ntmps16
    have h0 := St.start hpre
    refine wp_seq ?_
    repeat (first | simp only [List.nil_append] at h0 | simp only [List.cons_append] at h0 | simp only [List.set_cons_zero] at h0 | simp only [List.set_cons_succ] at h0 | simp only [List.eraseIdx_zero] at h0 | simp only [List.tail_cons] at h0 | simp only [List.eraseIdx_cons_zero] at h0 | simp only [List.eraseIdx_cons_succ] at h0 | simp only [List.setIfInBounds_toArray] at h0)
    refine wp_region_lit ?_
    refine wpList_plainQ rfl (fun K Q' hK => ?_); go_simp
    refine h0.k_alloc (fun w1 h1 => ?_)
    refine hK _ _ ?_; clear hK K; try clear Q'
    refine wpList_plainQ rfl (fun K Q' hK => ?_); go_simp
    refine h1.k_alloc (fun w2 h2 => ?_)
    refine hK _ _ ?_; clear hK K; try clear Q'
    iterate 1 (refine wpList_plainQ rfl (fun K Q' hK => ?_); go_simp; refine hK _ _ ?_; clear hK K; try clear Q')
    refine wpList_nil ?_
    show Code.wp _ _ _ _ _
    refine wp_seq ?_
    refine wp_seq ?_
    repeat (first | simp only [List.nil_append] at h2 | simp only [List.cons_append] at h2 | simp only [List.set_cons_zero] at h2 | simp only [List.set_cons_succ] at h2 | simp only [List.eraseIdx_zero] at h2 | simp only [List.tail_cons] at h2 | simp only [List.eraseIdx_cons_zero] at h2 | simp only [List.eraseIdx_cons_succ] at h2 | simp only [List.setIfInBounds_toArray] at h2)
    refine wp_region_lit ?_
    have c_0_0 := h2.cell 0 rfl 0 rfl
    iterate 3 (refine wpList_plainQ rfl (fun K Q' hK => ?_); go_simp; refine hK _ _ ?_; clear hK K; try clear Q')
    clear c_0_0
    refine wpList_nil ?_
    show Code.wp _ _ _ _ _
    -- stops at: cond
    refine wp_cond_false (rfl) ?_
    refine wp_skip ?_
    show Code.wp _ _ _ _ _
    refine wp_seq ?_
    refine wp_region_lit ?_
    have c_0_0 := h2.cell 0 rfl 0 rfl
    have c_hb_0 := h2.gh hb 0 rfl
    have c_hb_1 := h2.gh hb 1 rfl
    iterate 5 (refine wpList_plainQ rfl (fun K Q' hK => ?_); go_simp; refine hK _ _ ?_; clear hK K; try clear Q')
    clear c_0_0 c_hb_0 c_hb_1
    have c_0 := h2.cell 1 rfl 0 rfl
    have f_0 := h2.free 1 rfl 0
    have c_1 := h2.cell 1 rfl 1 rfl
    have f_1 := h2.free 1 rfl 1
    refine wpList_plainQ rfl (fun K Q' hK => ?_); go_simp
    clear c_0 f_0 c_1 f_1
    refine (h2.set (i := 1) rfl 0 _).k_set 1 rfl (fun w3 h3 => ?_)
    refine hK _ _ ?_; clear hK K; try clear Q'
    iterate 1 (refine wpList_plainQ rfl (fun K Q' hK => ?_); go_simp; refine hK _ _ ?_; clear hK K; try clear Q')
    refine wpList_nil ?_
    show Code.wp _ _ _ _ _
    -- stops at: ret
    refine wp_ret ?_
    have r_1_0 := h3.cell 1 rfl 0 rfl
    have r_1_1 := h3.cell 1 rfl 1 rfl
    first | show bodyPost _ _ _ _ _ _ | (simp only [Exit.then]; show bodyPost _ _ _ _ _ _) | (simp only [Exit.inBlock]; show bodyPost _ _ _ _ _ _) | (simp only [Exit.inBlock, Exit.then]; show bodyPost _ _ _ _ _ _) | (simp only [Exit.noGoto, Exit.inBlock, Exit.then]; show bodyPost _ _ _ _ _ _)
    refine bodyPost_ret (v := ?_) ?_ rfl ?_
    rotate_left
    · simp only [results, Tryz.results16]; go_simp; with_reducible rfl
    clear r_1_0 r_1_1
    exact ⟨H, rfl, h3.post⟩
end Go.Proofs.YtkhjcmbppcimnaaGreatDoor
