/-
Skew heaps with their least element apart, as every heap of this set is spoken of: values, what lies in memory, the operations' contracts, what they keep.
-/
import Derived.Test.YteigmfkkeofcaaaGreatDoorOnRoot
namespace Go.Proofs.YteigmfkkeofcaaaGreatDoor
open Go Go.RowKit
set_option linter.unusedVariables false

namespace Hp
theorem text_nil_one (x : El) : text (meld nil (insert x nil)) = text (insert x nil) := rfl
theorem text_one_nil (x : El) : text (meld (insert x nil) nil) = text (insert x nil) := rfl
theorem text_pop_one (x : El) : text (pop (insert x nil)) = text nil := rfl
end Hp
/-- The heap of elements put in one by one; how many comparisons, and how many things made. -/
def Hp.ofS (l : List El) : Hp × Nat × Nat := l.foldl (fun s x => (Hp.insert x s.1, s.2.1 + Hp.insC x s.1, s.2.2 + Hp.insD x s.1)) (Hp.nil, 0, 0)
def Hp.ofL (l : List El) : Hp := (Hp.ofS l).1
def Hp.ofC (l : List El) : Nat := (Hp.ofS l).2.1
def Hp.ofD (l : List El) : Nat := (Hp.ofS l).2.2
theorem Hp.ofL_nil : Hp.ofL [] = Hp.nil := rfl
theorem Hp.ofC_nil : Hp.ofC [] = 0 := rfl
theorem Hp.ofD_nil : Hp.ofD [] = 0 := rfl
theorem Hp.ofS_snoc (l : List El) (x : El) : Hp.ofS (l ++ [x]) = (Hp.insert x (Hp.ofL l), Hp.ofC l + Hp.insC x (Hp.ofL l), Hp.ofD l + Hp.insD x (Hp.ofL l)) := by
  unfold Hp.ofS
  rw [List.foldl_append]
  rfl
theorem Hp.ofL_snoc' (l : List El) (x : El) : Hp.ofL (l ++ [x]) = Hp.insert x (Hp.ofL l) := by unfold Hp.ofL; rw [Hp.ofS_snoc]; rfl
theorem Hp.ofC_snoc (l : List El) (x : El) : Hp.ofC (l ++ [x]) = Hp.ofC l + Hp.insC x (Hp.ofL l) := by unfold Hp.ofC; rw [Hp.ofS_snoc]; rfl
theorem Hp.ofD_snoc (l : List El) (x : El) : Hp.ofD (l ++ [x]) = Hp.ofD l + Hp.insD x (Hp.ofL l) := by unfold Hp.ofD; rw [Hp.ofS_snoc]; rfl
theorem Hp.ofL_eq (l : List El) : Hp.ofL l = l.foldl (fun t x => Hp.insert x t) Hp.nil := by
  unfold Hp.ofL Hp.ofS
  have : ∀ (s : Hp × Nat × Nat), (l.foldl (fun s x => (Hp.insert x s.1, s.2.1 + Hp.insC x s.1, s.2.2 + Hp.insD x s.1)) s).1 = l.foldl (fun t x => Hp.insert x t) s.1 := by
    induction l with
    | nil => intro s; rfl
    | cons x l ih => intro s; exact ih _
  exact this _
theorem Hp.ofL_ind {p : List El → Hp → Prop} (h0 : p [] Hp.nil) (h1 : ∀ l x t, p l t → p (l ++ [x]) (Hp.insert x t)) (l : List El) : p l (Hp.ofL l) := by
  have key : ∀ (n : Nat) (l : List El), l.length = n → p l (Hp.ofL l) := by
    intro n
    induction n with
    | zero => intro l hl; obtain rfl := List.eq_nil_of_length_eq_zero hl; exact h0
    | succ n ih =>
      intro l hl
      obtain ⟨k, x, rfl⟩ : ∃ k x, l = k ++ [x] := ⟨l.dropLast, l.getLast (by intro e; rw [e] at hl; simp at hl), (List.dropLast_concat_getLast _).symm⟩
      rw [Hp.ofL_snoc']
      exact h1 k x _ (ih k (by simpa using hl))
  exact key _ l rfl
theorem Hp.ok_ofL (l : List El) : Hp.ok (Hp.ofL l) := Hp.ofL_ind (p := fun _ t => Hp.ok t) Hp.ok_nil (fun _ x _ h => Hp.ok_insert x h) l
theorem Hp.els_ofL (l : List El) : (Hp.els (Hp.ofL l)).Perm l :=
  (Hp.ofL_ind (p := fun l t => Hp.ok t ∧ (Hp.els t).Perm l) ⟨Hp.ok_nil, by rw [Hp.els_nil]⟩ (fun l x t h => ⟨Hp.ok_insert x h.1, (Hp.els_insert x h.1).trans ((h.2.cons x).trans (List.perm_append_singleton x l).symm)⟩) l).2

/-- A heap and where it lies. -/
def HpR (H : GH) (p : Option Addr) (t : Hp) : Prop := RtR H p t ∧ Hp.ok t ∧ ∀ a ∈ Hp.els t, El.fits a
theorem HpR.mono {H H' : GH} {t : Hp} {p : Option Addr} (h : HpR H p t) (hl : H.le H') : HpR H' p t := ⟨h.1.mono hl, h.2⟩
theorem HpR.nil (H : GH) : HpR H none Hp.nil := ⟨rfl, Hp.ok_nil, by simp [Hp.els]⟩
theorem HpR.ok {H : GH} {t : Hp} {p : Option Addr} (h : HpR H p t) : Hp.ok t := h.2.1
theorem HpR.fit {H : GH} {t : Hp} {p : Option Addr} (h : HpR H p t) : ∀ a ∈ Hp.els t, El.fits a := h.2.2
theorem Hp.fit_pop {t : Hp} (ht : Hp.ok t) (h : ∀ a ∈ Hp.els t, El.fits a) : ∀ a ∈ Hp.els (Hp.pop t), El.fits a := fun a ha => by
  cases hm : Hp.min? t with
  | none => rw [Hp.pop_none ht hm] at ha; exact h a ha
  | some x => exact h a ((Hp.min_perm ht hm).subset (by simp [ha]))

section
variable {w : World} {H : GH} {m : Option Nat} {c d : Int} {p q : Option Addr} {s t : Hp}
theorem hmeld_ok (hpre : Pre w H m c d) (hn : Hp.size s + Hp.size t < 900000) (hs : HpR H p s) (ht : HpR H q t) :
    Calls Tryz.prog 10 #[hV p, mV m, hV q] w fun e w' => ∃ r H', e = .returned (hV r) ∧ Post w H m w' H' (c + Hp.meldC s t) (d + Hp.meldD s t) ∧ HpR H' r (Hp.meld s t) :=
  (rmeld_ok H w m c d p q s t hpre hn hs.1 ht.1).mono fun e w' ⟨r, H', h1, h2, h3⟩ => ⟨r, H', h1, h2, h3, Hp.ok_meld hs.ok ht.ok, fun a ha => by
    rcases List.mem_append.1 ((Hp.els_meld hs.ok ht.ok).subset ha) with h | h
    · exact hs.fit a h
    · exact ht.fit a h⟩
theorem hinsert_ok (x : El) (hx : x.fits) (hpre : Pre w H m c d) (hn : Hp.size t < 900000) (ht : HpR H p t) :
    Calls Tryz.prog 8 #[hV p, mV m, elV x] w fun e w' => ∃ r H', e = .returned (hV r) ∧ Post w H m w' H' (c + Hp.insC x t) (d + Hp.insD x t) ∧ HpR H' r (Hp.insert x t) :=
  (rinsert_ok H w m c d p x t hpre hn ht.1).mono fun e w' ⟨r, H', h1, h2, h3⟩ => ⟨r, H', h1, h2, h3, Hp.ok_insert x ht.ok, fun a ha => by
    rcases List.mem_cons.1 ((Hp.els_insert x ht.ok).subset ha) with rfl | h
    · exact hx
    · exact ht.fit a h⟩
theorem hmin_ok (hpre : Pre w H m c d) (hn : Hp.size t < 900000) (ht : HpR H p t) :
    Calls Tryz.prog 16 #[hV p, mV m] w fun e w' => ∃ H', e = .returned (.tuple #[elV ((Hp.min? t).getD (0, 0)), .bool (Hp.min? t).isSome]) ∧ Post w H m w' H' (c + Hp.minC t) d :=
  (rmin_ok H w m c d p t hpre ht.1).mono fun e w' ⟨H', h1, h2⟩ => ⟨H', h1, by rw [show c + ((Hp.minC t : Nat) : Int) = c from by unfold Hp.minC; omega]; exact h2⟩
theorem hpop_ok (hpre : Pre w H m c d) (hn : Hp.size t < 900000) (ht : HpR H p t) :
    Calls Tryz.prog 12 #[hV p, mV m] w fun e w' => ∃ r H', e = .returned (.tuple #[hV r, .bool (Hp.min? t).isSome]) ∧ Post w H m w' H' (c + Hp.popC t) (d + Hp.popD t) ∧ HpR H' r (Hp.pop t) :=
  (rpop_ok H w m c d p t hpre hn ht.1).mono fun e w' ⟨r, H', h1, h2, h3⟩ => ⟨r, H', h1, h2, h3, Hp.ok_pop ht.ok, Hp.fit_pop ht.ok ht.fit⟩
theorem hsize_ok (hf : Fits w H) (hn : Hp.size t < 900000) (ht : HpR H p t) :
    Calls Tryz.prog 20 #[hV p] w fun e w' => ∃ H', e = .returned (.int .i64 (Hp.size t : Nat)) ∧ Post w H none w' H' 0 0 :=
  rsize_ok H w p t hf hn ht.1
theorem hshow_ok (htab : TabH H) (hf : Fits w H) (hn : Hp.size t < 900000) (ht : HpR H p t) :
    Calls Tryz.prog 18 #[hV p] w fun e w' => ∃ H', e = .returned (.string ⟨(Hp.text t).toArray⟩) ∧ Post w H none w' H' 0 0 :=
  rshow_ok H w p t hf htab hn ht.fit ht.1
end
set_option maxRecDepth 100000 in
set_option maxHeartbeats 2000000 in
theorem hof_ok {w : World} {H : GH} {m : Option Nat} {c d : Int} {v : Value} {xs : List El} (hx : ∀ a ∈ xs, El.fits a) (hpre : Pre w H m c d) (hn : xs.length < 900000) (hr : ElRep H v xs) :
    Calls Tryz.prog 14 #[mV m, v] w fun e w' => ∃ r H', e = .returned (hV r) ∧ Post w H m w' H' (c + Hp.ofC xs) (d + Hp.ofD xs) ∧ HpR H' r (Hp.ofL xs) := by
  obtain ⟨a, cap, rfl, hc1, hc2⟩ := hr.nil_or
  unfold maxLen at hc2
  go_enter Tryz.func14, Tryz.ntmps14
  have h0 := St.start hpre
  refine wp_seq ?_
  refine wp_region_lit ?_
  refine wpList_plainQ rfl (fun K Q' hK => ?_); go_simp
  refine h0.k_alloc (fun w1 h1 => ?_)
  refine hK _ _ ?_; clear hK K; try clear Q'
  refine wpList_nil ?_
  show Code.wp _ _ _ _ _
  refine wp_seq ?_
  refine wp_region_lit ?_
  iterate 1 (refine wpList_plainQ rfl (fun K Q' hK => ?_); go_simp; refine hK _ _ ?_; clear hK K; try clear Q')
  refine wpList_plainQ rfl (fun K Q' hK => ?_); go_simp
  refine h1.k_alloc (fun w2 h2 => ?_)
  refine hK _ _ ?_; clear hK K; try clear Q'
  have c_0 := h2.cell 1 rfl 0 rfl
  have f_0 := h2.free 1 rfl 0
  refine wpList_plainQ rfl (fun K Q' hK => ?_); go_simp
  clear c_0 f_0
  refine h2.k_set 1 rfl (fun w3 h3 => ?_)
  refine hK _ _ ?_; clear hK K; try clear Q'
  refine wpList_nil ?_
  show Code.wp _ _ _ _ _
  refine wp_seq ?_
  refine wp_seq ?_
  refine wp_region_lit ?_
  iterate 3 (refine wpList_plainQ rfl (fun K Q' hK => ?_); go_simp; refine hK _ _ ?_; clear hK K; try clear Q')
  refine wpList_nil ?_
  show Code.wp _ _ _ _ _
  refine wp_block ?_
  -- stops at: loop
  go_loopw [11] (fun v11 wr => ∃ (k : Nat) (q : Option Addr) (H' : GH), k ≤ xs.length ∧ v11 = .int .i64 k ∧ St w H m (c + Hp.ofC (xs.take k)) (d + Hp.ofD (xs.take k)) wr H' [(w.heap.size, .cells #[.pointer none] 29), (w1.heap.size, .cells #[.pointer q] 29)] [] ∧ HpR H' q (Hp.ofL (xs.take k))) (fun v11 _ => xs.length - (intOf v11).toNat)
  case atStart => exact ⟨0, none, H, by omega, rfl, by simpa [Hp.ofC_nil, Hp.ofD_nil] using h3, by simpa [Hp.ofL_nil] using HpR.nil H⟩
  case round =>
    obtain ⟨k, q, H1, hk1, rfl, hs, hq⟩ := hrel
    by_cases hk : k < xs.length
    · obtain ⟨b, off, cap2, ee, _⟩ := hr.ne_nil (by omega)
      simp only [Value.slice.injEq, true_and] at ee
      obtain ⟨rfl, rfl⟩ := ee
      obtain ⟨c1, c2⟩ := elRep_cells hr (k := k) (a := xs[k]) (by simp [hk])
      have hxk := hx xs[k] (List.getElem_mem hk)
      obtain ⟨x, hx⟩ : ∃ x, Hid (xs[k] = x) := ⟨xs[k], show _ = _ from rfl⟩
      rw [hx.out] at c1 c2 hxk
      have e1 : IntKind.i64.wrap ((k : Int) + 1) = (k : Int) + 1 := IntWalk.i64_in _ (by omega)
      have htk : xs.take (k + 1) = xs.take k ++ [x] := by rw [List.take_add_one, List.getElem?_eq_getElem hk, hx.out]; rfl
      have hsz : Hp.size (Hp.ofL (xs.take k)) < 900000 := by rw [Hp.size_eq, (Hp.els_ofL _).length_eq]; simp; omega
      refine wp_seq ?_
      refine wp_region_lit ?_
      iterate 1 (refine wpList_plainQ rfl (fun K Q' hK => ?_); go_simp; refine hK _ _ ?_; clear hK K; try clear Q')
      refine wpList_nil ?_
      show Code.wp _ _ _ _ _
      refine wp_seq ?_
      -- stops at: cond
      refine wp_cond_true (rfl) ?_
      refine wp_skip ?_
      show Code.wp _ _ _ _ _
      refine wp_seq ?_
      refine wp_block ?_
      refine wp_seq ?_
      refine wp_region_lit ?_
      iterate 1 (refine wpList_plainQ rfl (fun K Q' hK => ?_); go_simp; refine hK _ _ ?_; clear hK K; try clear Q')
      -- stops at: load (Go.Op.load 32 (Go.Operand.tmp 13)) slot 14
      have ce := c1.out _ (hs.fits.le hs.le)
      have ce2 := c2.out _ (hs.fits.le hs.le)
      iterate 1 (refine wpList_plainQ rfl (fun K Q' hK => ?_); go_simp; refine hK _ _ ?_; clear hK K; try clear Q')
      clear ce ce2
      refine wpList_plainQ rfl (fun K Q' hK => ?_); go_simp
      refine hs.k_alloc (fun w4 h4 => ?_)
      refine hK _ _ ?_; clear hK K; try clear Q'
      have c_0 := h4.cell 2 rfl 0 rfl
      have f_0 := h4.free 2 rfl 0
      have c_1 := h4.cell 2 rfl 1 rfl
      have f_1 := h4.free 2 rfl 1
      refine wpList_plainQ rfl (fun K Q' hK => ?_); go_simp
      clear c_0 f_0 c_1 f_1
      refine (h4.set (i := 2) rfl 0 _).k_set 2 rfl (fun w5 h5 => ?_)
      refine hK _ _ ?_; clear hK K; try clear Q'
      refine wpList_nil ?_
      show Code.wp _ _ _ _ _
      refine wp_region_lit ?_
      have c_1_0 := h5.cell 1 rfl 0 rfl
      have c_2_0 := h5.cell 2 rfl 0 rfl
      have c_2_1 := h5.cell 2 rfl 1 rfl
      iterate 3 (refine wpList_plainQ rfl (fun K Q' hK => ?_); go_simp; refine hK _ _ ?_; clear hK K; try clear Q')
      clear c_1_0 c_2_0 c_2_1
      -- stops at: eff:call (Go.Op.call {'callee': (Go.Callee.value (Go.Operand.func 8)), 'args': [(Go.Operand.tmp 15), (Go.Operand.tmp 16), (Go.Operand.tmp 17)], 'argTypes': [29, 25, 32]} slot 18
      refine wpList_plainQ rfl (fun K Q' hK => ?_); go_simp
      refine (hinsert_ok x hxk h5.pre hsz hq).mono ?_
      rintro e wA ⟨q2, H2, rfl, hp2, hq2⟩
      have h6 := h5.call hp2
      refine hK _ _ ?_; clear hK K; try clear Q'
      have c_0 := h6.cell 1 rfl 0 rfl
      have f_0 := h6.free 1 rfl 0
      refine wpList_plainQ rfl (fun K Q' hK => ?_); go_simp
      clear c_0 f_0
      refine h6.k_set 1 rfl (fun w7 h7 => ?_)
      refine hK _ _ ?_; clear hK K; try clear Q'
      refine wpList_nil ?_
      show Code.wp _ _ _ _ _
      refine wp_region_lit ?_
      iterate 2 (refine wpList_plainQ rfl (fun K Q' hK => ?_); go_simp; refine hK _ _ ?_; clear hK K; try clear Q')
      refine wpList_nil ?_
      -- stops at: end ('roundend',)
      show _ ∧ _
      go_roundw
      case rel =>
        refine ⟨k + 1, q2, H2, by omega, by simp, ?_, by rw [htk, Hp.ofL_snoc']; exact hq2⟩
        have h98 := h7.take 2
        rw [htk, Hp.ofC_snoc, Hp.ofD_snoc, Int.natCast_add, Int.natCast_add, ← Int.add_assoc, ← Int.add_assoc]
        exact h98
      case measure => simp [intOf]; omega
    · obtain rfl : k = xs.length := by omega
      refine wp_seq ?_
      refine wp_region_lit ?_
      iterate 1 (refine wpList_plainQ rfl (fun K Q' hK => ?_); go_simp; refine hK _ _ ?_; clear hK K; try clear Q')
      refine wpList_nil ?_
      show Code.wp _ _ _ _ _
      refine wp_seq ?_
      -- stops at: cond
      refine wp_cond_false (rfl) ?_
      refine wp_exit ?_
      show Code.wp _ _ _ _ _
      refine wp_seq ?_
      refine wp_region_lit ?_
      have c_1_0 := hs.cell 1 rfl 0 rfl
      iterate 1 (refine wpList_plainQ rfl (fun K Q' hK => ?_); go_simp; refine hK _ _ ?_; clear hK K; try clear Q')
      clear c_1_0
      have c_0 := hs.cell 0 rfl 0 rfl
      have f_0 := hs.free 0 rfl 0
      refine wpList_plainQ rfl (fun K Q' hK => ?_); go_simp
      clear c_0 f_0
      refine hs.k_set 0 rfl (fun w8 h8 => ?_)
      refine hK _ _ ?_; clear hK K; try clear Q'
      refine wpList_nil ?_
      show Code.wp _ _ _ _ _
      -- stops at: ret
      refine wp_ret ?_
      have r_0_0 := h8.cell 0 rfl 0 rfl
      first | show bodyPost _ _ _ _ _ _ | (simp only [Exit.then]; show bodyPost _ _ _ _ _ _) | (simp only [Exit.inBlock]; show bodyPost _ _ _ _ _ _) | (simp only [Exit.inBlock, Exit.then]; show bodyPost _ _ _ _ _ _) | (simp only [Exit.noGoto, Exit.inBlock, Exit.then]; show bodyPost _ _ _ _ _ _)
      refine bodyPost_ret (v := ?_) ?_ rfl ?_
      rotate_left
      · simp only [results, Tryz.results14]; go_simp; with_reducible rfl
      clear r_0_0
      rw [List.take_length] at *
      exact ⟨q, H1, rfl, h8.post, hq⟩
end Go.Proofs.YteigmfkkeofcaaaGreatDoor
