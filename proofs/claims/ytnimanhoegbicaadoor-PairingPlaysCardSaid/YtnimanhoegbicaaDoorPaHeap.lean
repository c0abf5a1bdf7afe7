/-
Pairing heaps, as every heap of this set is spoken of: values, what lies in memory, the operations' contracts, what they keep.
-/
import Derived.Test.YtnimanhoegbicaaDoorOdShow
namespace Go.Proofs.YtnimanhoegbicaaDoor
open Go Go.RowKit
set_option linter.unusedVariables false

/-- A heap as plain data. -/
abbrev Hp := PT
namespace Hp
abbrev els (t : Hp) : List El := PT.els t
abbrev size (t : Hp) : Nat := PT.size t
abbrev nil : Hp := PT.nil
abbrev meld (s t : Hp) : Hp := PT.meld s t
abbrev insert (x : El) (t : Hp) : Hp := PT.insert x t
abbrev ofL (l : List El) : Hp := PT.ofL l
abbrev pop (t : Hp) : Hp := PT.pop t
abbrev text (t : Hp) : List UInt8 := PT.text t
abbrev min? (t : Hp) : Option El := PT.min? t
/-- How many comparisons, and how many things made. -/
def meldC (s t : Hp) : Nat := PT.meldN s t
def meldD (s t : Hp) : Nat := PT.meldN s t
def insC (x : El) (t : Hp) : Nat := PT.meldN (.node x .nil .nil) t
def insD (x : El) (t : Hp) : Nat := 1 + PT.meldN (.node x .nil .nil) t
def ofC (l : List El) : Nat := PT.ofN l
def ofD (l : List El) : Nat := l.length + PT.ofN l
def minC (_ : Hp) : Nat := 0
def popC (t : Hp) : Nat := PT.popN t
def popD (t : Hp) : Nat := PT.popN t
def ok (t : Hp) : Prop := PT.one t ∧ PT.ok t

theorem size_eq (t : Hp) : size t = (els t).length := rfl
theorem els_nil : els nil = [] := rfl
theorem ok_nil : ok nil := ⟨trivial, trivial⟩
theorem ok_meld {s t : Hp} (hs : ok s) (ht : ok t) : ok (meld s t) := ⟨PT.one_meld hs.1 ht.1, PT.ok_meld hs.1 ht.1 hs.2 ht.2⟩
theorem ok_insert (x : El) {t : Hp} (ht : ok t) : ok (insert x t) := ⟨PT.one_insert x ht.1, PT.ok_insert x ht.1 ht.2⟩
theorem ok_ofL (l : List El) : ok (ofL l) := ⟨PT.one_ofL l, PT.ok_ofL l⟩
theorem ok_pop {t : Hp} (ht : ok t) : ok (pop t) := ⟨PT.one_pop t, PT.ok_pop t ht.2⟩
theorem els_meld {s t : Hp} (hs : ok s) (ht : ok t) : (els (meld s t)).Perm (els s ++ els t) := PT.meld_perm hs.1 ht.1
theorem els_insert (x : El) {t : Hp} (ht : ok t) : (els (insert x t)).Perm (x :: els t) := PT.insert_perm x ht.1
theorem els_ofL (l : List El) : (els (ofL l)).Perm l := PT.ofL_perm l
theorem min_none {t : Hp} (_ : ok t) (h : min? t = none) : els t = [] := PT.min_none h
theorem min_perm {t : Hp} (ht : ok t) {x : El} (h : min? t = some x) : (x :: els (pop t)).Perm (els t) := PT.min_perm ht.1 h
theorem min_least {t : Hp} (ht : ok t) {x : El} (h : min? t = some x) : ∀ y ∈ els (pop t), El.le x y := PT.min_least ht.1 ht.2 h
theorem pop_nil : pop nil = nil := rfl
theorem pop_none {t : Hp} (_ : ok t) (h : min? t = none) : pop t = t := by
  cases t with
  | nil => rfl
  | node => cases h
theorem min_nil : min? nil = none := rfl
theorem ofL_eq (l : List El) : ofL l = l.foldl (fun t x => insert x t) nil := by
  show (PT.ofS l).1 = _
  have : ∀ (s : PT × Nat), (l.foldl (fun (s : PT × Nat) x => (PT.insert x s.1, s.2 + PT.meldN (.node x .nil .nil) s.1)) s).1 = l.foldl (fun t x => PT.insert x t) s.1 := by
    induction l with
    | nil => intro s; rfl
    | cons x l ih => intro s; exact ih _
  exact this _
theorem text_nil_one (x : El) : text (meld nil (insert x nil)) = text (insert x nil) := rfl
theorem text_one_nil (x : El) : text (meld (insert x nil) nil) = text (insert x nil) := rfl
theorem text_pop_one (x : El) : text (pop (insert x nil)) = text nil := rfl
theorem ofC_nil : ofC [] = 0 := rfl
theorem ofD_nil : ofD [] = 0 := rfl
theorem ofC_snoc (l : List El) (x : El) : ofC (l ++ [x]) = ofC l + insC x (ofL l) := PT.ofN_snoc l x
theorem ofD_snoc (l : List El) (x : El) : ofD (l ++ [x]) = ofD l + insD x (ofL l) := by
  unfold ofD insD
  rw [PT.ofN_snoc, List.length_append]
  show l.length + 1 + (PT.ofN l + PT.meldN (.node x .nil .nil) (PT.ofL l)) = l.length + PT.ofN l + (1 + PT.meldN (.node x .nil .nil) (PT.ofL l))
  omega
end Hp

/-- A heap and where it lies. -/
def HpR (H : GH) (p : Option Addr) (t : Hp) : Prop := HeapR H p t ∧ PT.ok t ∧ ∀ a ∈ Hp.els t, El.fits a
theorem HpR.mono {H H' : GH} {t : Hp} {p : Option Addr} (h : HpR H p t) (hl : H.le H') : HpR H' p t := ⟨h.1.mono hl, h.2⟩
theorem HpR.nil (H : GH) : HpR H none Hp.nil := ⟨HeapR.nil H, trivial, by simp [Hp.els, PT.els]⟩
theorem HpR.ok {H : GH} {t : Hp} {p : Option Addr} (h : HpR H p t) : Hp.ok t := ⟨h.1.one, h.2.1⟩
theorem HpR.fit {H : GH} {t : Hp} {p : Option Addr} (h : HpR H p t) : ∀ a ∈ Hp.els t, El.fits a := h.2.2
theorem Hp.fit_pop {t : Hp} (ht : Hp.ok t) (h : ∀ a ∈ Hp.els t, El.fits a) : ∀ a ∈ Hp.els (Hp.pop t), El.fits a := fun a ha => by
  cases hm : Hp.min? t with
  | none =>
    have e := Hp.min_none ht hm
    cases t with
    | nil => exact h a ha
    | node => cases hm
  | some x => exact h a ((Hp.min_perm ht hm).subset (by simp [ha]))

section
variable {w : World} {H : GH} {m : Option Nat} {c d : Int} {p q : Option Addr} {s t : Hp}
theorem hmeld_ok (hpre : Pre w H m c d) (hn : Hp.size s + Hp.size t < 900000) (hs : HpR H p s) (ht : HpR H q t) :
    Calls Tryd.prog 10 #[hV p, mV m, hV q] w fun e w' => ∃ r H', e = .returned (hV r) ∧ Post w H m w' H' (c + Hp.meldC s t) (d + Hp.meldD s t) ∧ HpR H' r (Hp.meld s t) :=
  (meld_ok H w m c d p q s t hpre (show PT.size s + PT.size t < _ by have : PT.size s + PT.size t < 900000 := hn; omega) hs.1 ht.1).mono fun e w' ⟨r, H', h1, h2, h3⟩ => ⟨r, H', h1, h2, h3, (Hp.ok_meld hs.ok ht.ok).2, fun a ha => by
    rcases List.mem_append.1 ((Hp.els_meld hs.ok ht.ok).subset ha) with h | h
    · exact hs.fit a h
    · exact ht.fit a h⟩
theorem hinsert_ok (x : El) (hx : x.fits) (hpre : Pre w H m c d) (hn : Hp.size t < 900000) (ht : HpR H p t) :
    Calls Tryd.prog 8 #[hV p, mV m, elV x] w fun e w' => ∃ r H', e = .returned (hV r) ∧ Post w H m w' H' (c + Hp.insC x t) (d + Hp.insD x t) ∧ HpR H' r (Hp.insert x t) :=
  (insert_ok H w m c d p x t hpre hn ht.1).mono fun e w' ⟨r, H', h1, h2, h3⟩ => ⟨r, H', h1, by unfold Hp.insC Hp.insD; rw [show d + ((1 + PT.meldN (.node x .nil .nil) t : Nat) : Int) = d + 1 + PT.meldN (.node x .nil .nil) t by omega]; exact h2, h3, (Hp.ok_insert x ht.ok).2, fun a ha => by
    rcases List.mem_cons.1 ((Hp.els_insert x ht.ok).subset ha) with rfl | h
    · exact hx
    · exact ht.fit a h⟩
theorem hof_ok {v : Value} {xs : List El} (hx : ∀ a ∈ xs, El.fits a) (hpre : Pre w H m c d) (hn : xs.length < 900000) (hr : ElRep H v xs) :
    Calls Tryd.prog 14 #[mV m, v] w fun e w' => ∃ r H', e = .returned (hV r) ∧ Post w H m w' H' (c + Hp.ofC xs) (d + Hp.ofD xs) ∧ HpR H' r (Hp.ofL xs) :=
  (of_ok H w m c d v xs hpre hn hr).mono fun e w' ⟨r, H', h1, h2, h3⟩ => ⟨r, H', h1, by unfold Hp.ofC Hp.ofD; rw [show d + ((xs.length + PT.ofN xs : Nat) : Int) = d + xs.length + PT.ofN xs by omega]; exact h2, h3, PT.ok_ofL xs, fun a ha => hx a ((Hp.els_ofL xs).subset ha)⟩
theorem hmin_ok (hpre : Pre w H m c d) (_hn : Hp.size t < 900000) (ht : HpR H p t) :
    Calls Tryd.prog 16 #[hV p, mV m] w fun e w' => ∃ H', e = .returned (.tuple #[elV ((Hp.min? t).getD (0, 0)), .bool (Hp.min? t).isSome]) ∧ Post w H m w' H' (c + Hp.minC t) d :=
  (min_ok H w p (mV m) t hpre.fits ht.1).mono fun e w' ⟨h1, h2⟩ => ⟨H, h1, by unfold Hp.minC; rw [show c + ((0 : Nat) : Int) = c by omega]; exact (Post.of_keep hpre.fits h2).of_none hpre⟩
theorem hpop_ok (hpre : Pre w H m c d) (hn : Hp.size t < 900000) (ht : HpR H p t) :
    Calls Tryd.prog 12 #[hV p, mV m] w fun e w' => ∃ r H', e = .returned (.tuple #[hV r, .bool (Hp.min? t).isSome]) ∧ Post w H m w' H' (c + Hp.popC t) (d + Hp.popD t) ∧ HpR H' r (Hp.pop t) :=
  (pop_ok H w m c d p t hpre hn ht.1).mono fun e w' ⟨r, H', h1, h2, h3⟩ => ⟨r, H', h1, h2, h3, (Hp.ok_pop ht.ok).2, Hp.fit_pop ht.ok ht.fit⟩
theorem hsize_ok (hf : Fits w H) (_hn : Hp.size t < 900000) (ht : HpR H p t) :
    Calls Tryd.prog 20 #[hV p] w fun e w' => ∃ H', e = .returned (.int .i64 (Hp.size t : Nat)) ∧ Post w H none w' H' 0 0 :=
  (size_ok H w p t hf ht.1).mono fun e w' ⟨h1, h2⟩ => ⟨H, h1, Post.of_keep hf h2⟩
theorem hshow_ok (htab : TabH H) (hf : Fits w H) (hn : Hp.size t < 900000) (ht : HpR H p t) :
    Calls Tryd.prog 18 #[hV p] w fun e w' => ∃ H', e = .returned (.string ⟨(Hp.text t).toArray⟩) ∧ Post w H none w' H' 0 0 :=
  show_ok H w p t hf htab ht.1 ht.fit hn
end
end Go.Proofs.YtnimanhoegbicaaDoor
