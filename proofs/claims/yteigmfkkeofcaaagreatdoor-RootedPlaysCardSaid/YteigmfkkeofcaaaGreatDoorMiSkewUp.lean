/-
Skew heaps: ranks rise, sizes are powers of two at least; so there are few trees, and few steps.
-/
import Derived.Test.YteigmfkkeofcaaaGreatDoorMdSkew
import Derived.Test.YteigmfkkeofcaaaGreatDoorMfBits
namespace Go.Proofs.YteigmfkkeofcaaaGreatDoor
set_option linter.unusedVariables false
section
variable {α : Type} (key : α → El)
/-- Trees side by side, of all ranks below r, the greatest one first; few things stand beside each root. -/
def RT.sk : Nat → RT α → Prop
  | 0, .nil => True
  | r + 1, .node x b k n => b.length ≤ r ∧ k.len = r ∧ RT.sk r k ∧ RT.sk r n
  | _, _ => False
theorem RT.sk_size {r : Nat} {t : RT α} (h : t.sk r) : 2 ^ r ≤ t.els.length + 1 := by
  induction t generalizing r with
  | nil => cases r with
    | zero => simp
    | succ r => exact h.elim
  | node x b k n ihk ihn => cases r with
    | zero => exact h.elim
    | succ r =>
      have h1 := ihk h.2.2.1
      have h2 := ihn h.2.2.2
      rw [RT.els, Nat.pow_succ]
      simp
      omega
def Tr.sk (t : Tr α) : Prop := t.b.length ≤ t.rank ∧ t.k.sk t.rank
theorem Tr.sk_size {t : Tr α} (h : t.sk) : 2 ^ t.rank ≤ t.size := by
  have := RT.sk_size h.2
  rw [Tr.size, Tr.els]
  simp; omega
theorem Tr.sk_leaf (x : α) : (Tr.leaf x).sk := ⟨Nat.le_refl _, trivial⟩
theorem Tr.sk_link {a b : Tr α} (ha : a.sk) (hb : b.sk) (h : a.rank = b.rank) : (Tr.link key a b).sk ∧ (Tr.link key a b).b.length ≤ a.rank := by
  have hr := Tr.link_rank key h
  cases hl : El.lt (key b.x) (key a.x) with
  | true =>
    rw [Tr.link_lt key hl] at hr ⊢
    have hb1 := hb.1
    refine ⟨⟨?_, ?_⟩, by rw [h]; exact hb1⟩
    · rw [hr, h]; exact Nat.le_trans hb1 (Nat.le_succ _)
    · rw [hr]
      exact ⟨ha.1, rfl, ha.2, by have := hb.2; rw [← h] at this; exact this⟩
  | false =>
    rw [Tr.link_ge key hl] at hr ⊢
    refine ⟨⟨?_, ?_⟩, ha.1⟩
    · rw [hr]; exact Nat.le_trans ha.1 (Nat.le_succ _)
    · rw [hr]
      exact ⟨by rw [h]; exact hb.1, h.symm, by have := hb.2; rw [← h] at this; exact this, ha.2⟩
theorem Tr.skew_b (x : α) (a b : Tr α) : (Tr.skew key x a b).b.length = (Tr.link key a b).b.length + 1 ∧ (Tr.skew key x a b).k = (Tr.link key a b).k := by
  cases h : El.lt (key (Tr.link key a b).x) (key x) with
  | true => rw [Tr.skew_lt key h]; exact ⟨rfl, rfl⟩
  | false => rw [Tr.skew_ge key h]; exact ⟨rfl, rfl⟩
theorem Tr.sk_skew (x : α) {a b : Tr α} (ha : a.sk) (hb : b.sk) (h : a.rank = b.rank) : (Tr.skew key x a b).sk ∧ (Tr.skew key x a b).rank = a.rank + 1 := by
  obtain ⟨h1, h2⟩ := Tr.sk_link key ha hb h
  obtain ⟨h3, h4⟩ := Tr.skew_b key x a b
  have hr := Tr.skew_rank key x a b
  have hl := Tr.link_rank key h
  refine ⟨⟨by rw [h3, hr, hl]; omega, ?_⟩, by rw [hr, hl]⟩
  rw [h4, hr]
  exact h1.2
namespace Rw
/-- Ranks rise, from lo on. -/
def sup (lo : Nat) : List (Tr α) → Prop
  | [] => True
  | t :: l => lo ≤ t.rank ∧ t.sk ∧ sup (t.rank + 1) l
/-- .. but for the first two. -/
def wup : List (Tr α) → Prop
  | [] => True
  | t :: l => t.sk ∧ sup t.rank l
theorem sup_le {lo lo' : Nat} {l : List (Tr α)} (h : sup lo l) (hl : lo' ≤ lo) : sup lo' l := by
  cases l with
  | nil => trivial
  | cons t l => exact ⟨Nat.le_trans hl h.1, h.2⟩
theorem wup_sup {lo : Nat} {l : List (Tr α)} (h : sup lo l) : wup l := by
  cases l with
  | nil => trivial
  | cons t l => exact ⟨h.2.1, sup_le h.2.2 (Nat.le_succ _)⟩
theorem put_sup {t : Tr α} {l : List (Tr α)} {lo : Nat} (ht : t.sk) (hlo : lo ≤ t.rank) (hl : sup t.rank l) : sup lo (put key t l) := by
  induction l generalizing t lo with
  | nil => exact ⟨hlo, ht, trivial⟩
  | cons f l ih =>
    obtain ⟨h1, h2, h3⟩ := hl
    by_cases h : t.rank < f.rank
    · rw [put_lt key l h]
      exact ⟨hlo, ht, h, h2, h3⟩
    · have e : t.rank = f.rank := by omega
      rw [put_ge key l h]
      have hr := Tr.link_rank key e
      exact ih (Tr.sk_link key ht h2 e).1 (by omega) (by rw [hr, e]; exact h3)
theorem meld_sup : ∀ (a b : List (Tr α)) (lo : Nat), sup lo a → sup lo b → sup lo (meld key a b) := by
  refine meld_cases (fun b => ?_) (fun f a => ?_) (fun f a g b h ih => ?_) (fun f a g b h ih => ?_) (fun f a g b h ih => ?_)
  · exact fun lo _ hb => hb
  · exact fun lo ha _ => by rw [meld_nil']; exact ha
  · intro lo ha hb
    rw [meld_lt key a b h]
    exact ⟨ha.1, ha.2.1, ih _ ha.2.2 ⟨h, hb.2⟩⟩
  · intro lo ha hb
    rw [meld_gt key a b h]
    exact ⟨hb.1, hb.2.1, ih _ ⟨h, ha.2⟩ hb.2.2⟩
  · intro lo ha hb
    rw [meld_eq key a b h]
    have hr := Tr.link_rank key h
    refine put_sup key (Tr.sk_link key ha.2.1 hb.2.1 h).1 (by have := ha.1; omega) ?_
    rw [hr]
    exact ih _ ha.2.2 (by rw [h]; exact hb.2.2)
theorem sup_erase {l : List (Tr α)} {lo : Nat} (h : sup lo l) (i : Nat) : sup lo (l.eraseIdx i) := by
  induction l generalizing lo i with
  | nil => exact h
  | cons t l ih =>
    cases i with
    | zero => exact sup_le h.2.2 (by have := h.1; omega)
    | succ i => exact ⟨h.1, h.2.1, ih h.2.2 i⟩
theorem wup_erase {l : List (Tr α)} (h : wup l) (i : Nat) : wup (l.eraseIdx i) := by
  cases l with
  | nil => exact h
  | cons t l =>
    cases i with
    | zero => exact wup_sup h.2
    | succ i => exact ⟨h.1, sup_erase h.2 i⟩
theorem sup_snoc {l : List (Tr α)} {lo : Nat} {t : Tr α} (h : sup lo l) (hl : ∀ s ∈ l, s.rank < t.rank) (hlo : lo ≤ t.rank) (ht : t.sk) : sup lo (l ++ [t]) := by
  induction l generalizing lo with
  | nil => exact ⟨hlo, ht, trivial⟩
  | cons s l ih => exact ⟨h.1, h.2.1, ih h.2.2 (fun u hu => hl u (by simp [hu])) (hl s (by simp))⟩
theorem sup_kids {r : Nat} {t : RT α} (h : t.sk r) : sup 0 t.toL.reverse ∧ (∀ s ∈ t.toL, s.rank < r) ∧ t.toL.length = r := by
  induction t generalizing r with
  | nil =>
    cases r with
    | zero => exact ⟨trivial, by simp [RT.toL], rfl⟩
    | succ r => exact h.elim
  | node x b k n _ ih =>
    cases r with
    | zero => exact h.elim
    | succ r =>
      obtain ⟨h1, h2, h3, h4⟩ := h
      obtain ⟨i1, i2, i3⟩ := ih h4
      have hb : Tr.sk (⟨x, b, k⟩ : Tr α) := ⟨by show b.length ≤ k.len; omega, by show k.sk k.len; rw [h2]; exact h3⟩
      have hr : (⟨x, b, k⟩ : Tr α).rank = r := h2
      refine ⟨?_, fun s hs => ?_, by simp [RT.toL, i3]⟩
      · rw [RT.toL, List.reverse_cons]
        exact sup_snoc i1 (fun s hs => by rw [hr]; exact i2 s (List.mem_reverse.1 hs)) (Nat.zero_le _) hb
      · rcases List.mem_cons.1 hs with rfl | hs
        · rw [hr]; omega
        · have := i2 s hs; omega
theorem sup_mem {l : List (Tr α)} {lo : Nat} (h : sup lo l) : ∀ t ∈ l, t.sk := by
  induction l generalizing lo with
  | nil => intro t ht; simp at ht
  | cons s l ih =>
    intro t ht
    rcases List.mem_cons.1 ht with rfl | ht
    · exact h.2.1
    · exact ih h.2.2 t ht
theorem wup_mem {l : List (Tr α)} (h : wup l) : ∀ t ∈ l, t.sk := by
  cases l with
  | nil => intro t ht; simp at ht
  | cons s l =>
    intro t ht
    rcases List.mem_cons.1 ht with rfl | ht
    · exact h.1
    · exact sup_mem h.2 t ht
theorem mem_size {l : List (Tr α)} {t : Tr α} (h : t ∈ l) : t.size ≤ size l := by
  induction l with
  | nil => simp at h
  | cons s l ih =>
    rw [size_cons]
    rcases List.mem_cons.1 h with rfl | h
    · omega
    · have := ih h; omega
theorem rank_bits {l : List (Tr α)} {t : Tr α} (h : t ∈ l) (ht : t.sk) : t.rank < bits (size l) := bits_of_pow (Nat.le_trans (Tr.sk_size ht) (mem_size h))
theorem sup_length {B lo : Nat} {l : List (Tr α)} (h : sup lo l) (hb : ∀ t ∈ l, t.rank < B) : l = [] ∨ lo + l.length ≤ B := by
  induction l generalizing lo with
  | nil => exact .inl rfl
  | cons t l ih =>
    right
    have h1 := hb t (by simp)
    have h2 := h.1
    rcases ih h.2.2 (fun s hs => hb s (by simp [hs])) with rfl | h3
    · simp; omega
    · simp; omega
/-- As many trees as bits at most, and one more. -/
theorem wup_length {l : List (Tr α)} (h : wup l) : l.length ≤ bits (size l) + 1 := by
  cases l with
  | nil => simp
  | cons t l =>
    have hb : ∀ s ∈ l, s.rank < bits (size (t :: l)) := fun s hs => rank_bits (by simp [hs]) (sup_mem h.2 s hs)
    rcases sup_length (sup_le h.2 (Nat.zero_le _)) hb with rfl | h3
    · simp
    · simp; omega
end Rw
namespace Sk
theorem level_sup {l : List (Tr α)} (h : Rw.wup l) : Rw.sup 0 (level key l) := by
  cases l with
  | nil => trivial
  | cons t l => exact Rw.put_sup key h.1 (Nat.zero_le _) h.2
theorem level_len (l : List (Tr α)) : (level key l).length + levelN key l = l.length := by
  cases l with
  | nil => rfl
  | cons t l => exact Rw.put_length key t l
theorem meld_wup {a b : List (Tr α)} (ha : Rw.wup a) (hb : Rw.wup b) : Rw.wup (meld key a b) :=
  Rw.wup_sup (Rw.meld_sup key _ _ 0 (level_sup key ha) (level_sup key hb))
theorem meldN_le (a b : List (Tr α)) : meldN key a b ≤ a.length + b.length := by
  have h1 := level_len key a
  have h2 := level_len key b
  have h3 := Rw.meld_length key (level key a) (level key b)
  unfold meldN
  omega
theorem insert_wup (x : α) {l : List (Tr α)} (h : Rw.wup l) : Rw.wup (insert key x l) := by
  match l, h with
  | [], _ => exact ⟨Tr.sk_leaf x, trivial⟩
  | [a], h => exact ⟨Tr.sk_leaf x, Nat.zero_le _, h.1, trivial⟩
  | a :: b :: r, h =>
    by_cases e : a.rank = b.rank
    · rw [insert_eq key r e]
      obtain ⟨h1, h2⟩ := Tr.sk_skew key x h.1 h.2.2.1 e
      refine ⟨h1, ?_⟩
      rw [h2, e]
      exact h.2.2.2
    · rw [insert_ne key r e]
      have := h.2.1
      exact ⟨Tr.sk_leaf x, Nat.zero_le _, h.1, by omega, h.2.2⟩
theorem insert_steps (l : List (Tr α)) : insC l + insD l ≤ 4 := by
  match l with
  | [] => show 0 + 1 ≤ 4; omega
  | [a] => show 0 + 1 ≤ 4; omega
  | a :: b :: r =>
    by_cases e : a.rank = b.rank
    · simp only [insC, insD, if_pos e]; omega
    · simp only [insC, insD, if_neg e]; omega
theorem inserts_wup (xs : List α) {l : List (Tr α)} (h : Rw.wup l) : Rw.wup (inserts key l xs) := by
  unfold inserts
  induction xs generalizing l with
  | nil => exact h
  | cons x xs ih => exact ih (insert_wup key x h)
theorem inserts_steps (xs : List α) (l : List (Tr α)) : insertsC key l xs + insertsD key l xs ≤ 4 * xs.length := by
  induction xs generalizing l with
  | nil => exact Nat.le_refl _
  | cons x xs ih =>
    have h1 := insert_steps l
    have h2 := ih (insert key x l)
    show (insC l + insertsC key _ xs) + (insD l + insertsD key _ xs) ≤ _
    simp
    omega
theorem after_wup {t : Tr α} {l : List (Tr α)} (ht : t.sk) (h : Rw.wup l) : Rw.wup (after key t l) :=
  Rw.wup_sup (Rw.meld_sup key _ _ 0 (Rw.sup_kids ht.2).1 (level_sup key h))
theorem afterN_le {t : Tr α} {l : List (Tr α)} (ht : t.sk) : afterN key t l ≤ t.rank + l.length := by
  have h1 := level_len key l
  have h2 := Rw.meld_length key t.k.toL.reverse (level key l)
  have h3 := (Rw.sup_kids ht.2).2.2
  unfold afterN
  rw [List.length_reverse] at h2
  omega
theorem pop_wup {l : List (Tr α)} (h : Rw.wup l) : Rw.wup (pop key l) := by
  cases hm : Rw.minT key l with
  | none => rw [pop_none key hm]; trivial
  | some t => rw [pop_some key hm]; exact inserts_wup key _ (after_wup key (Rw.wup_mem h t (Rw.minT_mem key hm)) (Rw.wup_erase h _))
/-- Taking out makes few steps. -/
theorem pop_steps {l : List (Tr α)} (h : Rw.wup l) : popC key l + popD key l ≤ 9 * bits (Rw.size l) - 6 := by
  cases hm : Rw.minT key l with
  | none => unfold popC popD; rw [hm]; exact Nat.zero_le _
  | some t =>
    have hmem := Rw.minT_mem key hm
    have ht := Rw.wup_mem h t hmem
    have hr := Rw.rank_bits hmem ht
    have hl := Rw.wup_length h
    have ha := afterN_le key (l := l.eraseIdx (Rw.least key l)) ht
    have hi := inserts_steps key t.b (after key t (l.eraseIdx (Rw.least key l)))
    have hb := ht.1
    have hlt : Rw.least key l < l.length := (List.getElem?_eq_some_iff.1 (show l[Rw.least key l]? = some t from hm)).1
    have he : (l.eraseIdx (Rw.least key l)).length = l.length - 1 := by rw [List.length_eraseIdx]; simp [hlt]
    unfold popC popD
    rw [hm]
    simp only
    rw [he] at ha
    omega
end Sk
end
end Go.Proofs.YteigmfkkeofcaaaGreatDoor
