/-
Trees with ranks as texts.
-/
import Derived.Test.YteigmfkkeofcaaaGreatDoorOcRank
import Derived.Test.YteigmfkkeofcaaaGreatDoorNcText
namespace Go.Proofs.YteigmfkkeofcaaaGreatDoor
open Go Go.RowKit
set_option linter.unusedVariables false

/-- The texts of trees side by side. -/
def RT.sh : RT El → List (List UInt8)
  | .nil => []
  | .node x b k n => (40 :: (El.text x ++ (b.flatMap fun y => 32 :: 43 :: El.text y) ++ ((RT.sh k).flatMap fun s => 32 :: s) ++ [41])) :: RT.sh n
/-- A tree's text. -/
def Tr.text (t : Tr El) : List UInt8 := 40 :: (El.text t.x ++ (t.b.flatMap fun y => 32 :: 43 :: El.text y) ++ ((RT.sh t.k).flatMap fun s => 32 :: s) ++ [41])
theorem RT.sh_eq (t : RT El) : RT.sh t = t.toL.map Tr.text := by
  induction t with
  | nil => rfl
  | node x b k n _ ih => rw [RT.sh, RT.toL, List.map_cons, ih]; rfl
theorem RT.sh_length (t : RT El) : (RT.sh t).length = t.len := by rw [RT.sh_eq, List.length_map, RT.toL_length]
theorem flat_text_len (b : List El) (h : ∀ a ∈ b, El.fits a) : (b.flatMap fun y => 32 :: 43 :: El.text y).length ≤ 50 * b.length := by
  induction b with
  | nil => simp
  | cons x b ih =>
    have := El.text_len (h x (by simp))
    have := ih fun a ha => h a (by simp [ha])
    simp only [List.flatMap_cons, List.length_append, List.length_cons]
    omega
theorem RT.sh_sum (t : RT El) (h : ∀ a ∈ t.els, El.fits a) : ((RT.sh t).flatMap fun s => 32 :: s).length ≤ 60 * t.els.length := by
  induction t with
  | nil => simp [RT.sh]
  | node x b k n ih1 ih2 =>
    have h1 := ih1 fun a ha => h a (by simp [RT.els, ha])
    have h2 := ih2 fun a ha => h a (by simp [RT.els, ha])
    have h3 := El.text_len (h x (by simp [RT.els]))
    have h4 := flat_text_len b fun a ha => h a (by simp [RT.els, ha])
    simp only [RT.sh, RT.els, List.flatMap_cons, List.length_append, List.length_cons, List.length_nil] at *
    omega
theorem flatMap_take_le {α β : Type} (f : α → List β) (l : List α) (i : Nat) : ((l.take i).flatMap f).length ≤ (l.flatMap f).length := by
  have := congrArg (fun l => (l.flatMap f).length) (List.take_append_drop i l)
  simp only [List.flatMap_append, List.length_append] at this
  omega

/-! ### A builder among what is the call's own -/
theorem wstr_ok {w0 w : World} {H0 : GH} {b : Nat} {p : Option Addr} {v : Value} {l : List UInt8} (s : List UInt8) (hf0 : Fits w0 H0) (h : St w0 H0 none 0 0 w H0 [(b, .cells #[.pointer p, v] 154)] [⟨v, 5, 1, l.length, Lib.byteCells l⟩]) (hp : p = none ∨ p = some ⟨b, 0, none⟩) (hl : l.length + s.length ≤ 1000000000) :
    Calls Tryz.prog 90 #[.pointer (some ⟨b, 0, none⟩), .string ⟨s.toArray⟩] w fun e w' => (∃ u, e = .returned u) ∧ ∃ v', St w0 H0 none 0 0 w' H0 [(b, .cells #[.pointer (some ⟨b, 0, none⟩), v'] 154)] [⟨v', 5, 1, (l ++ s).length, Lib.byteCells (l ++ s)⟩] := by
  obtain ⟨h1, h2, h3, _⟩ := h.own _ (List.mem_singleton.2 rfl)
  obtain ⟨hr1, hr2⟩ := h.rows _ (List.mem_singleton.2 rfl)
  have hne := h.rowsL _ (List.mem_singleton.2 rfl) _ (List.mem_singleton.2 rfl)
  simp only at h1 h2 h3 hr1 hr2 hne
  have hlen : (Lib.byteCells l).length = l.length := Lib.byteCells_length l
  have hB : Lib.IsBuilder 154 5 w0.heap.size b (Lib.byteCells l) w := by
    rcases hp with rfl | rfl
    · exact .inl ⟨h2, v, h1, by rw [hlen]; exact hr1, hne⟩
    · exact .inr ⟨h2, v, h1, by rw [hlen]; exact hr1, hne⟩
  refine (Tryz.Builder_WriteString w0.heap.size b (Lib.byteCells l) ⟨s.toArray⟩ w hB (by rw [hlen]; show l.length + s.toArray.size ≤ _; simp; omega) h.keep.size).mono ?_
  rintro e w' ⟨rfl, ⟨_, v', e1, e2, e3⟩, hb⟩
  refine ⟨⟨_, rfl⟩, v', ?_⟩
  have hk : Keep none w0 w' := ⟨hb.os.trans h.keep.os, hb.tape.trans h.keep.tape, hb.output.trans h.keep.output, Nat.le_trans h.keep.size hb.size, fun k hk hm => (hb.block k hk).trans (h.keep.block k hk hm)⟩
  · have hcell : Lib.byteCells l ++ Lib.strCells ⟨s.toArray⟩ = Lib.byteCells (l ++ s) := by rw [Lib.strCells_eq]; simp [Lib.byteCells]
    rw [hcell, Lib.byteCells_length] at e2
    refine ⟨Pre.none (fun k o e => by rw [hk.block k (hf0.lt e) (by simp)]; exact hf0 k o e) 0 0, hk, GH.le_refl _, fun _ _ e => .inl e, fun q hq => ?_, List.pairwise_singleton _ _, fun r hr => ?_, fun r hr q hq => ?_, List.pairwise_singleton _ _, fun q hq => ?_, fun _ _ e => .inl e⟩
    · obtain rfl := List.mem_singleton.1 hq
      exact ⟨e1, h2, h3, by simp⟩
    · obtain rfl := List.mem_singleton.1 hr
      exact ⟨e2, fun g hg => ⟨hf0.none (e2.lt g hg).1, by simp⟩⟩
    · obtain rfl := List.mem_singleton.1 hr
      obtain rfl := List.mem_singleton.1 hq
      exact e3
    · obtain rfl := List.mem_singleton.1 hq
      rfl
theorem bstr_ok {w0 w : World} {H0 : GH} {b : Nat} {v : Value} {l : List UInt8} (h : St w0 H0 none 0 0 w H0 [(b, .cells #[.pointer (some ⟨b, 0, none⟩), v] 154)] [⟨v, 5, 1, l.length, Lib.byteCells l⟩]) :
    Calls Tryz.prog 91 #[.pointer (some ⟨b, 0, none⟩)] w fun e w' => e = .returned (.string ⟨l.toArray⟩) ∧ Keep none w0 w' := by
  obtain ⟨h1, h2, h3, _⟩ := h.own _ (List.mem_singleton.2 rfl)
  obtain ⟨hr1, hr2⟩ := h.rows _ (List.mem_singleton.2 rfl)
  have hne := h.rowsL _ (List.mem_singleton.2 rfl) _ (List.mem_singleton.2 rfl)
  simp only at h1 h2 h3 hr1 hr2 hne
  have hlen : (Lib.byteCells l).length = l.length := Lib.byteCells_length l
  refine (Tryz.Builder_String_any w0.heap.size b l w (.inr ⟨h2, v, h1, by rw [hlen]; exact hr1, hne⟩) h.keep.size).mono ?_
  rintro e w' ⟨rfl, hb⟩
  exact ⟨rfl, hb.os.trans h.keep.os, hb.tape.trans h.keep.tape, hb.output.trans h.keep.output, Nat.le_trans h.keep.size hb.size, fun k hk hm => (hb.block k hk).trans (h.keep.block k hk hm)⟩

set_option maxRecDepth 100000 in
set_option maxHeartbeats 4000000 in
theorem tshow_all (t : RT El) : ∀ (H : GH) (w : World) (ps : List (Option Addr)), Fits w H → TabH H → TreesR H t ps → (∀ a ∈ t.els, El.fits a) → t.els.length < 900000 → ∀ (i : Nat) (p : Option Addr), ps[i]? = some p →
    ∃ s, Hid ((RT.sh t)[i]? = some s) ∧ Calls Tryz.prog 69 #[.pointer p] w fun e w' => e = .returned (.string ⟨s.toArray⟩) ∧ Keep none w w' := by
  induction t with
  | nil =>
    intro H w ps _ _ hk _ _ i p hi
    obtain rfl : ps = [] := hk
    simp at hi
  | node x b k n ih1 ih2 =>
    intro H w ps hf htab hk hfit hsz i p hi
    obtain ⟨bt, bv, kv, rs, ss, kt, rest, rfl, hrs, hss, hbt, sb, sk, sx, st, hrest⟩ := hk
    have hszn : k.els.length < 900000 ∧ n.els.length < 900000 ∧ b.length < 900000 := by
      simp [RT.els] at hsz
      omega
    cases i with
    | succ i =>
      obtain ⟨s, h1, h2⟩ := ih2 H w rest hf htab hrest (fun a ha => hfit a (by simp [RT.els, ha])) hszn.2.1 i p (by simpa using hi)
      exact ⟨s, h1, h2⟩
    | zero =>
      obtain rfl : some ⟨bt, 0, none⟩ = p := by simpa using hi
      refine ⟨_, rfl, ?_⟩
      have hpre : Pre w H none 0 0 := Pre.none hf 0 0
      have hx := hfit x (by simp [RT.els])
      have hfb : ∀ a ∈ b, El.fits a := fun a ha => hfit a (by simp [RT.els, ha])
      have hle := RT.sh_sum k fun a ha => hfit a (by simp [RT.els, ha])
      have hbl := flat_text_len b hfb
      have hkt : kt.length < 900000 := by have := st.length; have := k.len_le; have := hszn.1; omega
      have hshl : Hid ((RT.sh k).length = kt.length) := by rw [RT.sh_length, st.length]; rfl
      have htl := El.text_len hx
      obtain ⟨tx, htx⟩ : ∃ s, Hid (El.text x = s) := ⟨El.text x, show _ = _ from rfl⟩
      obtain ⟨fb, hfbe⟩ : ∃ s, Hid ((b.flatMap fun y => 32 :: 43 :: El.text y) = s) := ⟨_, show _ = _ from rfl⟩
      obtain ⟨fk, hfke⟩ : ∃ s, Hid (((RT.sh k).flatMap fun s => 32 :: s) = s) := ⟨_, show _ = _ from rfl⟩
      rw [htx.out] at htl
      have l1 : ¬ 9223372036854775807 < 1 + tx.length := by omega
      obtain ⟨aB, cB, rfl, _, _⟩ := sb.1.nil_or
      obtain ⟨aK, cK, rfl, _, _⟩ := sk.1.nil_or
      go_enter Tryz.func69, Tryz.ntmps69
      have h0 := St.start hpre
      refine wp_seq ?_
      refine wp_region_lit ?_
      iterate 1 (refine wpList_plainQ rfl (fun K Q' hK => ?_); go_simp; refine hK _ _ ?_; clear hK K; try clear Q')
      refine wpList_nil ?_
      show Code.wp _ _ _ _ _
      refine wp_seq ?_
      refine wp_seq ?_
      refine wp_region_lit ?_
      iterate 2 (refine wpList_plainQ rfl (fun K Q' hK => ?_); go_simp; refine hK _ _ ?_; clear hK K; try clear Q')
      refine wpList_nil ?_
      show Code.wp _ _ _ _ _
      -- stops at: cond
      refine wp_cond_false (rfl) ?_
      refine wp_skip ?_
      show Code.wp _ _ _ _ _
      refine wp_seq ?_
      refine wp_region_lit ?_
      refine wpList_plainQ rfl (fun K Q' hK => ?_); go_simp
      refine h0.k_alloc (fun w1 h1 => ?_)
      refine hK _ _ ?_; clear hK K; try clear Q'
      refine wpList_nil ?_
      show Code.wp _ _ _ _ _
      refine wp_seq ?_
      refine wp_region_lit ?_
      have c_hbt_1 := h1.gh hbt 1 rfl
      have c_hbt_2 := h1.gh hbt 2 rfl
      iterate 5 (refine wpList_plainQ rfl (fun K Q' hK => ?_); go_simp; refine hK _ _ ?_; clear hK K; try clear Q')
      clear c_hbt_1 c_hbt_2
      -- stops at: eff:call (Go.Op.call {'callee': (Go.Callee.invoke (Go.Operand.tmp 14) ('str', 'Key')), 'args': [], 'argTypes': []}) slot 15
      refine wpList_plainQ rfl (fun K Q' hK => ?_); go_simp
      refine (key_ok H _ x h1.fits (fun _ _ => trivial)).mono ?_
      rintro e wK ⟨rfl, hkK⟩
      have h2 := h1.callk hkK
      refine hK _ _ ?_; clear hK K; try clear Q'
      -- stops at: eff:call (Go.Op.call {'callee': (Go.Callee.value (Go.Operand.func 35)), 'args': [(Go.Operand.tmp 15)], 'argTypes': [32]}) slot 16
      refine wpList_plainQ rfl (fun K Q' hK => ?_); go_simp
      refine (etext_ok H _ x hx h2.fits htab).mono ?_
      rintro e wA ⟨rfl, hkA⟩
      rw [htx.out]
      have h3 := h2.callk hkA
      refine hK _ _ ?_; clear hK K; try clear Q'
      iterate 1 (refine wpList_plainQ rfl (fun K Q' hK => ?_); go_simp; refine hK _ _ ?_; clear hK K; try clear Q')
      -- stops at: eff:call (Go.Op.call {'callee': (Go.Callee.value (Go.Operand.func 90)), 'args': [(Go.Operand.tmp 3), (Go.Operand.tmp 17)], 'argTypes': [154, 9]}) slot 18
      have hR := h3.row0 5 1
      refine wpList_plainQ rfl (fun K Q' hK => ?_); go_simp
      rw [show ((⟨#[40]⟩ : ByteArray) ++ ⟨(tx).toArray⟩) = ⟨(40 :: tx).toArray⟩ from ByteArray.ext (by simp)]
      refine (wstr_ok (l := []) (40 :: tx) hf (hR.take 1).base (.inl rfl) ?leq).mono ?_
      case leq => simp only [List.length_cons, List.length_nil]; omega
      rintro e wB ⟨⟨uB, rfl⟩, vB, hB⟩
      refine hK _ _ ?_; clear hK K; try clear Q'
      refine wpList_nil ?_
      show Code.wp _ _ _ _ _
      refine wp_seq ?_
      refine wp_seq ?_
      refine wp_region_lit ?_
      have c_hbt_3 := hB.gh hbt 3 rfl
      iterate 6 (refine wpList_plainQ rfl (fun K Q' hK => ?_); go_simp; refine hK _ _ ?_; clear hK K; try clear Q')
      clear c_hbt_3
      refine wpList_nil ?_
      show Code.wp _ _ _ _ _
      refine wp_block ?_
      -- stops at: loop
      have sb' : ElRep H (.slice aB b.length cB) b := sb.1
      go_loopw [24] (fun v24 wr => ∃ (j : Nat) (v : Value), j ≤ b.length ∧ v24 = .int .i64 j ∧ St w H none 0 0 wr H [(w.heap.size, .cells #[.pointer (some ⟨w.heap.size, 0, none⟩), v] 154)] [⟨v, 5, 1, (40 :: (tx ++ (b.take j).flatMap fun y => 32 :: 43 :: El.text y)).length, Lib.byteCells (40 :: (tx ++ (b.take j).flatMap fun y => 32 :: 43 :: El.text y))⟩]) (fun v24 _ => b.length - (intOf v24).toNat)
      case atStart =>
        refine ⟨0, vB, by omega, rfl, ?_⟩
        have e : (40 :: (tx ++ (b.take 0).flatMap fun y => 32 :: 43 :: El.text y)) = [] ++ (40 :: tx) := by simp
        rw [e]
        exact hB
      case round =>
        obtain ⟨j, v, hj, rfl, hs⟩ := hrel
        have hlj : (40 :: (tx ++ (b.take j).flatMap fun y => 32 :: 43 :: El.text y)).length ≤ 90000000 := by
          have := flatMap_take_le (fun y => 32 :: 43 :: El.text y) b j
          rw [hfbe.out] at this hbl
          simp only [List.length_cons, List.length_append]; omega
        by_cases hlt : j < b.length
        · obtain ⟨b9, o9, cap9, ee, _⟩ := sb'.ne_nil (by omega)
          simp only [Value.slice.injEq, true_and] at ee
          obtain ⟨rfl, rfl⟩ := ee
          obtain ⟨c1, c2⟩ := elRep_cells sb' (k := j) (a := b[j]) (by simp [hlt])
          obtain ⟨y, hy⟩ : ∃ y0, Hid (b[j] = y0) := ⟨b[j], show _ = _ from rfl⟩
          rw [hy.out] at c1 c2
          have hly : b[j]? = some y := by rw [List.getElem?_eq_getElem hlt, hy.out]
          have htk : Hid (b.take (j + 1) = b.take j ++ [y]) := by show _ = _; rw [List.take_add_one, hly]; rfl
          have e1 : IntKind.i64.wrap ((j : Int) + 1) = (j : Int) + 1 := IntWalk.i64_in _ (by omega)
          have fy : El.fits y := by rw [← hy.out]; exact hfb _ (List.getElem_mem hlt)
          have hyl := El.text_len fy
          obtain ⟨ty, hty⟩ : ∃ s, Hid (El.text y = s) := ⟨El.text y, show _ = _ from rfl⟩
          rw [hty.out] at hyl
          have l2 : ¬ 9223372036854775807 < 2 + ty.length := by omega
          clear hly
          refine wp_seq ?_
          refine wp_region_lit ?_
          iterate 1 (refine wpList_plainQ rfl (fun K Q' hK => ?_); go_simp; refine hK _ _ ?_; clear hK K; try clear Q')
          refine wpList_nil ?_
          show Code.wp _ _ _ _ _
          refine wp_seq ?_
          -- stops at: cond
          refine wp_cond_true (rfl) ?_
          refine wp_skip ?_
          show Code.wp _ _ _ _ _
          refine wp_seq ?_
          refine wp_block ?_
          refine wp_seq ?_
          refine wp_region_lit ?_
          iterate 1 (refine wpList_plainQ rfl (fun K Q' hK => ?_); go_simp; refine hK _ _ ?_; clear hK K; try clear Q')
          -- stops at: load (Go.Op.load 32 (Go.Operand.tmp 26)) slot 27
          have ce := c1.out _ hs.fits
          have ce2 := c2.out _ hs.fits
          iterate 1 (refine wpList_plainQ rfl (fun K Q' hK => ?_); go_simp; refine hK _ _ ?_; clear hK K; try clear Q')
          clear ce ce2
          refine wpList_plainQ rfl (fun K Q' hK => ?_); go_simp
          refine hs.k_alloc (fun w4 h4 => ?_)
          refine hK _ _ ?_; clear hK K; try clear Q'
          have c_0 := h4.cell 1 rfl 0 rfl
          have f_0 := h4.free 1 rfl 0
          have c_1 := h4.cell 1 rfl 1 rfl
          have f_1 := h4.free 1 rfl 1
          refine wpList_plainQ rfl (fun K Q' hK => ?_); go_simp
          clear c_0 f_0 c_1 f_1
          refine (h4.set (i := 1) rfl 0 _).k_set 1 rfl (fun w5 h5 => ?_)
          refine hK _ _ ?_; clear hK K; try clear Q'
          refine wpList_nil ?_
          show Code.wp _ _ _ _ _
          refine wp_region_lit ?_
          have c_1_0 := h5.cell 1 rfl 0 rfl
          have c_1_1 := h5.cell 1 rfl 1 rfl
          iterate 2 (refine wpList_plainQ rfl (fun K Q' hK => ?_); go_simp; refine hK _ _ ?_; clear hK K; try clear Q')
          clear c_1_0 c_1_1
          -- stops at: eff:call (Go.Op.call {'callee': (Go.Callee.invoke (Go.Operand.tmp 29) ('str', 'Key')), 'args': [], 'argTypes': []}) slot 30
          refine wpList_plainQ rfl (fun K Q' hK => ?_); go_simp
          refine (key_ok H _ y h5.fits (fun _ _ => trivial)).mono ?_
          rintro e wK ⟨rfl, hkK⟩
          have h6 := h5.callk hkK
          refine hK _ _ ?_; clear hK K; try clear Q'
          -- stops at: eff:call (Go.Op.call {'callee': (Go.Callee.value (Go.Operand.func 35)), 'args': [(Go.Operand.tmp 30)], 'argTypes': [32]}) slot 31
          refine wpList_plainQ rfl (fun K Q' hK => ?_); go_simp
          refine (etext_ok H _ y fy h6.fits htab).mono ?_
          rintro e wA ⟨rfl, hkA⟩
          rw [hty.out]
          have h7 := h6.callk hkA
          refine hK _ _ ?_; clear hK K; try clear Q'
          iterate 1 (refine wpList_plainQ rfl (fun K Q' hK => ?_); go_simp; refine hK _ _ ?_; clear hK K; try clear Q')
          -- stops at: eff:call (Go.Op.call {'callee': (Go.Callee.value (Go.Operand.func 90)), 'args': [(Go.Operand.tmp 3), (Go.Operand.tmp 32)], 'argTypes': [154, 9]}) slot 33
          refine wpList_plainQ rfl (fun K Q' hK => ?_); go_simp
          rw [show ((⟨#[32, 43]⟩ : ByteArray) ++ ⟨(ty).toArray⟩) = ⟨(32 :: 43 :: ty).toArray⟩ from ByteArray.ext (by simp)]
          refine (wstr_ok (l := _) (32 :: 43 :: ty) hf (h7.take 1).base (.inr rfl) ?leq).mono ?_
          case leq => simp only [List.length_cons, List.length_append] at hlj ⊢; omega
          rintro e wC ⟨⟨uC, rfl⟩, vC, hC⟩
          refine hK _ _ ?_; clear hK K; try clear Q'
          refine wpList_nil ?_
          show Code.wp _ _ _ _ _
          refine wp_region_lit ?_
          iterate 2 (refine wpList_plainQ rfl (fun K Q' hK => ?_); go_simp; refine hK _ _ ?_; clear hK K; try clear Q')
          refine wpList_nil ?_
          -- stops at: end ('roundend',)
          show _ ∧ _
          go_roundw
          case rel =>
            refine ⟨j + 1, vC, by omega, by simp, ?_⟩
            have e : (40 :: (tx ++ (b.take (j + 1)).flatMap fun y => 32 :: 43 :: El.text y)) = (40 :: (tx ++ (b.take j).flatMap fun y => 32 :: 43 :: El.text y)) ++ (32 :: 43 :: ty) := by
              rw [htk.out, List.flatMap_append, ← hty.out]; simp
            rw [e]
            exact hC
          case measure => simp [intOf]; omega
        · obtain rfl : j = b.length := by omega
          rw [List.take_length, hfbe.out] at hs hlj
          have hflk : fk.length ≤ 60 * k.els.length := by rw [← hfke.out]; exact hle
          clear hle hbl
          refine wp_seq ?_
          refine wp_region_lit ?_
          iterate 1 (refine wpList_plainQ rfl (fun K Q' hK => ?_); go_simp; refine hK _ _ ?_; clear hK K; try clear Q')
          refine wpList_nil ?_
          show Code.wp _ _ _ _ _
          refine wp_seq ?_
          -- stops at: cond
          refine wp_cond_false (rfl) ?_
          refine wp_exit ?_
          show Code.wp _ _ _ _ _
          refine wp_seq ?_
          refine wp_seq ?_
          refine wp_region_lit ?_
          have c_hbt_4 := hs.gh hbt 4 rfl
          iterate 6 (refine wpList_plainQ rfl (fun K Q' hK => ?_); go_simp; refine hK _ _ ?_; clear hK K; try clear Q')
          clear c_hbt_4
          refine wpList_nil ?_
          show Code.wp _ _ _ _ _
          refine wp_block ?_
          -- stops at: loop
          go_loopw [40] (fun v40 wr => ∃ (j : Nat) (v : Value), j ≤ kt.length ∧ v40 = .int .i64 j ∧ St w H none 0 0 wr H [(w.heap.size, .cells #[.pointer (some ⟨w.heap.size, 0, none⟩), v] 154)] [⟨v, 5, 1, (40 :: (tx ++ fb ++ ((RT.sh k).take j).flatMap fun s => 32 :: s)).length, Lib.byteCells (40 :: (tx ++ fb ++ ((RT.sh k).take j).flatMap fun s => 32 :: s))⟩]) (fun v40 _ => kt.length - (intOf v40).toNat)
          case atStart =>
            refine ⟨0, v, by omega, rfl, ?_⟩
            have e : (40 :: (tx ++ fb ++ ((RT.sh k).take 0).flatMap fun s => 32 :: s)) = 40 :: (tx ++ fb) := by simp
            rw [e]
            exact hs
          case round =>
            obtain ⟨j, v, hj, rfl, hs⟩ := hrel
            have hlj2 : (40 :: (tx ++ fb ++ ((RT.sh k).take j).flatMap fun s => 32 :: s)).length ≤ 90000000 + 60 * 900000 := by
              have := flatMap_take_le (fun s => (32 : UInt8) :: s) (RT.sh k) j
              rw [hfke.out] at this
              simp only [List.length_cons, List.length_append] at *; omega
            by_cases hlt : j < kt.length
            · obtain ⟨b9, o9, _, e9, _⟩ := sk.1.ne_nil (by omega)
              simp only [Value.slice.injEq, true_and] at e9
              obtain ⟨rfl, rfl⟩ := e9
              obtain ⟨pj, hpj⟩ : ∃ pj, kt[j]? = some pj := ⟨kt[j], by simp⟩
              have gj : (kt.map Value.pointer)[j]? = some (.pointer pj) := by simp [hpj]
              have cR : Hid (∀ W', Fits W' H → W'.cell? ⟨b9, o9 + j, none⟩ = some (.pointer pj)) := fun W' hF => sk.1.cell hF j gj
              have e8 : IntKind.i64.wrap ((j : Int) + 1) = (j : Int) + 1 := IntWalk.i64_in _ (by omega)
              refine wp_seq ?_
              refine wp_region_lit ?_
              iterate 1 (refine wpList_plainQ rfl (fun K Q' hK => ?_); go_simp; refine hK _ _ ?_; clear hK K; try clear Q')
              refine wpList_nil ?_
              show Code.wp _ _ _ _ _
              refine wp_seq ?_
              -- stops at: cond
              refine wp_cond_true (rfl) ?_
              refine wp_skip ?_
              show Code.wp _ _ _ _ _
              refine wp_seq ?_
              refine wp_block ?_
              refine wp_seq ?_
              refine wp_region_lit ?_
              iterate 1 (refine wpList_plainQ rfl (fun K Q' hK => ?_); go_simp; refine hK _ _ ?_; clear hK K; try clear Q')
              -- stops at: load (Go.Op.load 94 (Go.Operand.tmp 42)) slot 43
              have ce := cR.out _ hs.fits
              iterate 1 (refine wpList_plainQ rfl (fun K Q' hK => ?_); go_simp; refine hK _ _ ?_; clear hK K; try clear Q')
              clear ce
              iterate 1 (refine wpList_plainQ rfl (fun K Q' hK => ?_); go_simp; refine hK _ _ ?_; clear hK K; try clear Q')
              refine wpList_nil ?_
              show Code.wp _ _ _ _ _
              refine wp_region_lit ?_
              iterate 1 (refine wpList_plainQ rfl (fun K Q' hK => ?_); go_simp; refine hK _ _ ?_; clear hK K; try clear Q')
              -- stops at: eff:call (Go.Op.call {'callee': (Go.Callee.value (Go.Operand.func 69)), 'args': [(Go.Operand.tmp 44)], 'argTypes': [94]}) slot 45
              obtain ⟨s, hs1, hs2⟩ := ih1 H wr kt hs.fits htab st (fun a ha => hfit a (by simp [RT.els, ha])) hszn.1 j pj hpj
              have hsl : s.length ≤ 60 * k.els.length := by
                have h1 := flatMap_take_le (fun s => (32 : UInt8) :: s) (RT.sh k) (j + 1)
                rw [List.take_add_one, hs1.out, List.flatMap_append, hfke.out] at h1
                simp at h1
                omega
              have l3 : ¬ 9223372036854775807 < 1 + s.length := by omega
              refine wpList_plainQ rfl (fun K Q' hK => ?_); go_simp
              refine hs2.mono ?_
              rintro e wE ⟨rfl, hkE⟩
              have h8 := hs.callk hkE
              refine hK _ _ ?_; clear hK K; try clear Q'
              iterate 1 (refine wpList_plainQ rfl (fun K Q' hK => ?_); go_simp; refine hK _ _ ?_; clear hK K; try clear Q')
              -- stops at: eff:call (Go.Op.call {'callee': (Go.Callee.value (Go.Operand.func 90)), 'args': [(Go.Operand.tmp 3), (Go.Operand.tmp 46)], 'argTypes': [154, 9]}) slot 47
              refine wpList_plainQ rfl (fun K Q' hK => ?_); go_simp
              rw [show ((⟨#[32]⟩ : ByteArray) ++ ⟨(s).toArray⟩) = ⟨(32 :: s).toArray⟩ from ByteArray.ext (by simp)]
              refine (wstr_ok (l := _) (32 :: s) hf (h8.take 1).base (.inr rfl) ?leq).mono ?_
              case leq => simp only [List.length_cons, List.length_append] at hlj2 ⊢; omega
              rintro e wD ⟨⟨uD, rfl⟩, vD, hD⟩
              refine hK _ _ ?_; clear hK K; try clear Q'
              refine wpList_nil ?_
              show Code.wp _ _ _ _ _
              refine wp_region_lit ?_
              iterate 2 (refine wpList_plainQ rfl (fun K Q' hK => ?_); go_simp; refine hK _ _ ?_; clear hK K; try clear Q')
              refine wpList_nil ?_
              -- stops at: end ('roundend',)
              show _ ∧ _
              go_roundw
              case rel =>
                refine ⟨j + 1, vD, by omega, by simp, ?_⟩
                have e : (40 :: (tx ++ fb ++ ((RT.sh k).take (j + 1)).flatMap fun s => 32 :: s)) = (40 :: (tx ++ fb ++ ((RT.sh k).take j).flatMap fun s => 32 :: s)) ++ (32 :: s) := by
                  rw [List.take_add_one, hs1.out, List.flatMap_append]; simp
                rw [e]
                exact hD
              case measure => simp [intOf]; omega
            · obtain rfl : j = kt.length := by omega
              rw [← hshl.out, List.take_length, hfke.out] at hs hlj2
              refine wp_seq ?_
              refine wp_region_lit ?_
              iterate 1 (refine wpList_plainQ rfl (fun K Q' hK => ?_); go_simp; refine hK _ _ ?_; clear hK K; try clear Q')
              refine wpList_nil ?_
              show Code.wp _ _ _ _ _
              refine wp_seq ?_
              -- stops at: cond
              refine wp_cond_false (rfl) ?_
              refine wp_exit ?_
              show Code.wp _ _ _ _ _
              refine wp_seq ?_
              refine wp_region_lit ?_
              -- stops at: eff:call (Go.Op.call {'callee': (Go.Callee.value (Go.Operand.func 90)), 'args': [(Go.Operand.tmp 3), (Go.Operand.const (Go.Value.string {'data': [41]}))], 'argTypes': [1 slot 49
              refine wpList_plainQ rfl (fun K Q' hK => ?_); go_simp
              refine (wstr_ok [41] hf (hs.take 1).base (.inr rfl) ?leq).mono ?_
              case leq => simp only [List.length_cons, List.length_append, List.length_nil] at hlj2 ⊢; omega
              rintro e wF ⟨⟨uF, rfl⟩, vF, hF⟩
              refine hK _ _ ?_; clear hK K; try clear Q'
              refine wpList_nil ?_
              show Code.wp _ _ _ _ _
              refine wp_seq ?_
              refine wp_region_lit ?_
              -- stops at: eff:call (Go.Op.call {'callee': (Go.Callee.value (Go.Operand.func 91)), 'args': [(Go.Operand.tmp 3)], 'argTypes': [154]}) slot 50
              refine wpList_plainQ rfl (fun K Q' hK => ?_); go_simp
              refine (bstr_ok hF).mono ?_
              rintro e wG ⟨rfl, hkG⟩
              refine hK _ _ ?_; clear hK K; try clear Q'
              have hG := (St.start hpre).callk hkG
              iterate 1 (refine wpList_plainQ rfl (fun K Q' hK => ?_); go_simp; refine hK _ _ ?_; clear hK K; try clear Q')
              refine wpList_nil ?_
              show Code.wp _ _ _ _ _
              -- stops at: ret
              refine wp_ret ?_
              go_ret
              refine ⟨?_, hG.post.keep⟩
              have e : El.text x ++ (b.flatMap fun y => 32 :: 43 :: El.text y) ++ ((RT.sh k).flatMap fun s => 32 :: s) ++ [41] = tx ++ (fb ++ (fk ++ [41])) := by rw [htx.out, hfbe.out, hfke.out]; simp
              rw [e]
              rfl

theorem tshow_ok (H : GH) (w : World) (p : Option Addr) (t : Tr El) (hf : Fits w H) (htab : TabH H) (ht : TrR H p t) (hfit : ∀ a ∈ t.els, El.fits a) (hn : t.size < 900000) :
    Calls Tryz.prog 69 #[.pointer p] w fun e w' => e = .returned (.string ⟨(Tr.text t).toArray⟩) ∧ Keep none w w' := by
  have e : (RT.node t.x t.b t.k .nil).els = t.els := by simp [RT.els, Tr.els]
  obtain ⟨s, h1, h2⟩ := tshow_all (.node t.x t.b t.k .nil) H w [p] hf htab ht (by rw [e]; exact hfit) (by rw [e]; exact hn) 0 p rfl
  have e2 : s = Tr.text t := by
    have := h1.out
    simp [RT.sh] at this
    rw [← this]
    simp [Tr.text]
  rw [← e2]
  exact h2
end Go.Proofs.YteigmfkkeofcaaaGreatDoor
