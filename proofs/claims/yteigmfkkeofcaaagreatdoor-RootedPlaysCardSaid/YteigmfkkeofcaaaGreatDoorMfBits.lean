/-
Binomial heaps: ranks rise, sizes are powers of two; so there are as many trees as bits.
-/
import Derived.Test.YteigmfkkeofcaaaGreatDoorMcRank
namespace Go.Proofs.YteigmfkkeofcaaaGreatDoor
set_option linter.unusedVariables false
section
variable {α : Type} (key : α → El)
/-- Trees side by side, of all ranks below r, the greatest one first, each complete. -/
def RT.bi : Nat → RT α → Prop
  | 0, .nil => True
  | r + 1, .node x b k n => b = [] ∧ k.len = r ∧ RT.bi r k ∧ RT.bi r n
  | _, _ => False
theorem RT.bi_len {r : Nat} {t : RT α} (h : t.bi r) : t.len = r := by
  induction t generalizing r with
  | nil => cases r with
    | zero => rfl
    | succ r => exact h.elim
  | node x b k n _ ih => cases r with
    | zero => exact h.elim
    | succ r => rw [RT.len, ih h.2.2.2]
theorem RT.bi_size {r : Nat} {t : RT α} (h : t.bi r) : t.els.length + 1 = 2 ^ r := by
  induction t generalizing r with
  | nil => cases r with
    | zero => rfl
    | succ r => exact h.elim
  | node x b k n ihk ihn => cases r with
    | zero => exact h.elim
    | succ r =>
      have h1 := ihk h.2.2.1
      have h2 := ihn h.2.2.2
      rw [RT.els, h.1, Nat.pow_succ]
      simp
      omega
/-- A complete tree. -/
def Tr.bi (t : Tr α) : Prop := t.b = [] ∧ t.k.bi t.rank
theorem Tr.bi_size {t : Tr α} (h : t.bi) : t.size = 2 ^ t.rank := by
  have := RT.bi_size h.2
  rw [Tr.size, Tr.els, h.1]
  simp; omega
theorem Tr.bi_leaf (x : α) : (Tr.leaf x).bi := ⟨rfl, trivial⟩
theorem Tr.bi_link {a b : Tr α} (ha : a.bi) (hb : b.bi) (h : a.rank = b.rank) : (Tr.link key a b).bi := by
  have hr := Tr.link_rank key h
  cases hl : El.lt (key b.x) (key a.x) with
  | true =>
    rw [Tr.link_lt key hl] at hr ⊢
    refine ⟨hb.1, ?_⟩
    rw [hr]
    exact ⟨ha.1, rfl, ha.2, by have := hb.2; rw [← h] at this; exact this⟩
  | false =>
    rw [Tr.link_ge key hl] at hr ⊢
    refine ⟨ha.1, ?_⟩
    rw [hr]
    exact ⟨hb.1, h.symm, by have := hb.2; rw [← h] at this; exact this, ha.2⟩
namespace Rw
/-- Ranks rise, from lo on; each tree is complete. -/
def up (lo : Nat) : List (Tr α) → Prop
  | [] => True
  | t :: l => lo ≤ t.rank ∧ t.bi ∧ up (t.rank + 1) l
theorem up_le {lo lo' : Nat} {l : List (Tr α)} (h : up lo l) (hl : lo' ≤ lo) : up lo' l := by
  cases l with
  | nil => trivial
  | cons t l => exact ⟨Nat.le_trans hl h.1, h.2⟩
theorem put_up {t : Tr α} {l : List (Tr α)} {lo : Nat} (ht : t.bi) (hlo : lo ≤ t.rank) (hl : up t.rank l) : up lo (put key t l) := by
  induction l generalizing t lo with
  | nil => exact ⟨hlo, ht, trivial⟩
  | cons f l ih =>
    obtain ⟨h1, h2, h3⟩ := hl
    by_cases h : t.rank < f.rank
    · rw [put_lt key l h]
      exact ⟨hlo, ht, h, h2, h3⟩
    · have e : t.rank = f.rank := by omega
      rw [put_ge key l h]
      have hr := Tr.link_rank key e
      exact ih (Tr.bi_link key ht h2 e) (by omega) (by rw [hr, e]; exact h3)
theorem meld_up : ∀ (a b : List (Tr α)) (lo : Nat), up lo a → up lo b → up lo (meld key a b) := by
  refine meld_cases (fun b => ?_) (fun f a => ?_) (fun f a g b h ih => ?_) (fun f a g b h ih => ?_) (fun f a g b h ih => ?_)
  · exact fun lo _ hb => hb
  · exact fun lo ha _ => by rw [meld_nil']; exact ha
  · intro lo ha hb
    rw [meld_lt key a b h]
    exact ⟨ha.1, ha.2.1, ih _ ha.2.2 ⟨h, hb.2⟩⟩
  · intro lo ha hb
    rw [meld_gt key a b h]
    exact ⟨hb.1, hb.2.1, ih _ ⟨h, ha.2⟩ hb.2.2⟩
  · intro lo ha hb
    rw [meld_eq key a b h]
    have hr := Tr.link_rank key h
    refine put_up key (Tr.bi_link key ha.2.1 hb.2.1 h) (by have := ha.1; omega) ?_
    rw [hr]
    exact ih _ ha.2.2 (by rw [h]; exact hb.2.2)
theorem meld_length : ∀ (a b : List (Tr α)), (meld key a b).length + meldN key a b = a.length + b.length := by
  refine meld_cases (fun b => ?_) (fun f a => ?_) (fun f a g b h ih => ?_) (fun f a g b h ih => ?_) (fun f a g b h ih => ?_)
  · rw [meld_nil, meldN_nil]; simp
  · rw [meld_nil', meldN_nil']; simp
  · rw [meld_lt key a b h, meldN_lt key a b h]; simp at *; omega
  · rw [meld_gt key a b h, meldN_gt key a b h]; simp at *; omega
  · rw [meld_eq key a b h, meldN_eq key a b h]
    have := put_length key (Tr.link key f g) (meld key a b)
    simp; omega
theorem up_erase {l : List (Tr α)} {lo : Nat} (h : up lo l) (i : Nat) : up lo (l.eraseIdx i) := by
  induction l generalizing lo i with
  | nil => exact h
  | cons t l ih =>
    cases i with
    | zero => exact up_le h.2.2 (by have := h.1; omega)
    | succ i => exact ⟨h.1, h.2.1, ih h.2.2 i⟩
theorem up_snoc {l : List (Tr α)} {lo : Nat} {t : Tr α} (h : up lo l) (hl : ∀ s ∈ l, s.rank < t.rank) (hlo : lo ≤ t.rank) (ht : t.bi) : up lo (l ++ [t]) := by
  induction l generalizing lo with
  | nil => exact ⟨hlo, ht, trivial⟩
  | cons s l ih => exact ⟨h.1, h.2.1, ih h.2.2 (fun u hu => hl u (by simp [hu])) (hl s (by simp))⟩
theorem up_kids {r : Nat} {t : RT α} (h : t.bi r) : up 0 t.toL.reverse ∧ ∀ s ∈ t.toL, s.rank < r := by
  induction t generalizing r with
  | nil => exact ⟨trivial, by simp [RT.toL]⟩
  | node x b k n _ ih =>
    cases r with
    | zero => exact h.elim
    | succ r =>
      obtain ⟨h1, h2, h3, h4⟩ := h
      obtain ⟨i1, i2⟩ := ih h4
      have hb : Tr.bi (⟨x, b, k⟩ : Tr α) := ⟨h1, by show k.bi k.len; rw [h2]; exact h3⟩
      have hr : (⟨x, b, k⟩ : Tr α).rank = r := h2
      refine ⟨?_, fun s hs => ?_⟩
      · rw [RT.toL, List.reverse_cons]
        exact up_snoc i1 (fun s hs => by rw [hr]; exact i2 s (List.mem_reverse.1 hs)) (Nat.zero_le _) hb
      · rcases List.mem_cons.1 hs with rfl | hs
        · rw [hr]; omega
        · have := i2 s hs; omega
theorem up_mem {l : List (Tr α)} {lo : Nat} (h : up lo l) : ∀ t ∈ l, t.bi := by
  induction l generalizing lo with
  | nil => intro t ht; simp at ht
  | cons s l ih =>
    intro t ht
    rcases List.mem_cons.1 ht with rfl | ht
    · exact h.2.1
    · exact ih h.2.2 t ht
end Rw
end
/-- How many bits are set; how many there are. -/
def ones (n : Nat) : Nat := if h : n = 0 then 0 else ones (n / 2) + n % 2
decreasing_by omega
def bits (n : Nat) : Nat := if h : n = 0 then 0 else bits (n / 2) + 1
decreasing_by omega
theorem ones_zero : ones 0 = 0 := by unfold ones; simp
theorem bits_zero : bits 0 = 0 := by unfold bits; simp
theorem ones_pos {n : Nat} (h : n ≠ 0) : ones n = ones (n / 2) + n % 2 := by rw [ones, dif_neg h]
theorem bits_pos {n : Nat} (h : n ≠ 0) : bits n = bits (n / 2) + 1 := by rw [bits, dif_neg h]
theorem ones_le (n : Nat) : ones n ≤ bits n := by
  induction n using Nat.strongRecOn with
  | _ n ih =>
    by_cases h : n = 0
    · subst h; rw [ones_zero]; omega
    · rw [ones_pos h, bits_pos h]
      have := ih (n / 2) (by omega)
      omega
theorem ones_two (n : Nat) : ones (2 * n) = ones n := by
  by_cases h : n = 0
  · subst h; rfl
  · rw [ones_pos (by omega), show 2 * n / 2 = n by omega, show 2 * n % 2 = 0 by omega]; rfl
theorem ones_two1 (n : Nat) : ones (2 * n + 1) = ones n + 1 := by
  rw [ones_pos (by omega), show (2 * n + 1) / 2 = n by omega, show (2 * n + 1) % 2 = 1 by omega]
theorem bits_of_pow {r n : Nat} (h : 2 ^ r ≤ n) : r < bits n := by
  induction r generalizing n with
  | zero => rw [bits_pos (by simp at h; omega)]; omega
  | succ r ih =>
    have h2 : 2 ^ r ≤ n / 2 := by rw [Nat.pow_succ] at h; omega
    have hp : 0 < 2 ^ r := Nat.two_pow_pos r
    rw [bits_pos (by omega)]
    have := ih h2
    omega
/-- The sum of powers of rising ranks. -/
def powSum (rs : List Nat) : Nat := (rs.map (2 ^ ·)).sum
theorem ones_powSum : ∀ (n : Nat) (rs : List Nat), (∀ r ∈ rs, r < n) → rs.Pairwise (· < ·) → ones (powSum rs) = rs.length := by
  intro n
  induction n with
  | zero =>
    intro rs h _
    cases rs with
    | nil => exact ones_zero
    | cons r rs => exact absurd (h r (by simp)) (by omega)
  | succ n ih =>
    intro rs h hp
    have key : ∀ (rs : List Nat), (∀ r ∈ rs, 1 ≤ r ∧ r < n + 1) → rs.Pairwise (· < ·) → ∃ ks : List Nat, rs = ks.map (· + 1) ∧ (∀ k ∈ ks, k < n) ∧ ks.Pairwise (· < ·) ∧ powSum rs = 2 * powSum ks := by
      intro rs h1 h2
      refine ⟨rs.map (· - 1), ?_, ?_, ?_, ?_⟩
      · rw [List.map_map]
        conv => lhs; rw [← List.map_id rs]
        refine List.map_congr_left fun r hr => ?_
        have := h1 r hr
        simp; omega
      · intro k hk
        obtain ⟨r, hr, rfl⟩ := List.mem_map.1 hk
        have := h1 r hr
        omega
      · refine List.pairwise_map.2 (h2.imp_of_mem fun ha hb hab => ?_)
        have := h1 _ ha
        omega
      · unfold powSum
        clear h2
        induction rs with
        | nil => rfl
        | cons r rs ih2 =>
          have h3 := ih2 fun r hr => h1 r (by simp [hr])
          have h4 := h1 r (by simp)
          obtain ⟨q, rfl⟩ : ∃ q, r = q + 1 := ⟨r - 1, by omega⟩
          simp only [List.map_cons, List.sum_cons, Nat.add_sub_cancel] at h3 ⊢
          rw [h3, Nat.pow_succ]
          omega
    cases rs with
    | nil => exact ones_zero
    | cons r rs =>
      rw [List.pairwise_cons] at hp
      by_cases h0 : r = 0
      · subst h0
        obtain ⟨ks, e1, e2, e3, e4⟩ := key rs (fun s hs => ⟨hp.1 s hs, h s (by simp [hs])⟩) hp.2
        have e5 : powSum (0 :: rs) = 2 * powSum ks + 1 := by
          have : powSum (0 :: rs) = 1 + powSum rs := by simp [powSum]
          rw [this, e4]; omega
        rw [e5, ones_two1, ih ks e2 e3, e1]
        simp
      · obtain ⟨ks, e1, e2, e3, e4⟩ := key (r :: rs) (fun s hs => ⟨by rcases List.mem_cons.1 hs with rfl | hs
                                                                      · omega
                                                                      · have := hp.1 s hs; omega, h s hs⟩) (List.pairwise_cons.2 hp)
        rw [e4, ones_two, ih ks e2 e3, e1]
        simp
theorem le_sum_mem {l : List Nat} {r : Nat} (h : r ∈ l) : r ≤ l.sum := by
  induction l with
  | nil => simp at h
  | cons x l ih =>
    rw [List.sum_cons]
    rcases List.mem_cons.1 h with rfl | h
    · omega
    · have := ih h; omega
theorem Rw.up_ranks {α : Type} {l : List (Tr α)} {lo : Nat} (h : Rw.up lo l) : (l.map Tr.rank).Pairwise (· < ·) ∧ (∀ t ∈ l, lo ≤ t.rank) ∧ Rw.size l = powSum (l.map Tr.rank) := by
  induction l generalizing lo with
  | nil => exact ⟨.nil, by simp, rfl⟩
  | cons t l ih =>
    obtain ⟨i1, i2, i3⟩ := ih h.2.2
    refine ⟨?_, fun s hs => ?_, ?_⟩
    · rw [List.map_cons, List.pairwise_cons]
      refine ⟨fun r hr => ?_, i1⟩
      obtain ⟨s, hs, rfl⟩ := List.mem_map.1 hr
      have := i2 s hs
      omega
    · rcases List.mem_cons.1 hs with rfl | hs
      · exact h.1
      · have := i2 s hs; have := h.1; omega
    · rw [Rw.size_cons, i3, Tr.bi_size h.2.1]
      simp [powSum]
/-- As many trees as bits are set. -/
theorem Rw.up_count {α : Type} {l : List (Tr α)} (h : Rw.up 0 l) : l.length = ones (Rw.size l) := by
  obtain ⟨i1, i2, i3⟩ := Rw.up_ranks h
  obtain ⟨n, hn⟩ : ∃ n, ∀ r ∈ l.map Tr.rank, r < n := by
    refine ⟨(l.map Tr.rank).sum + 1, fun r hr => ?_⟩
    have := le_sum_mem hr
    omega
  rw [i3, ones_powSum n _ hn i1, List.length_map]
end Go.Proofs.YteigmfkkeofcaaaGreatDoor
