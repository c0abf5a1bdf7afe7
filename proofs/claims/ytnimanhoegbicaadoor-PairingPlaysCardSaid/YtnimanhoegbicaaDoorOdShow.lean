/-
Pairing heaps as texts.
-/
import Derived.Test.YtnimanhoegbicaaDoorOcPop
import Derived.Test.YtnimanhoegbicaaDoorNcText
namespace Go.Proofs.YtnimanhoegbicaaDoor
open Go Go.RowKit
set_option linter.unusedVariables false

namespace PT
/-- The texts of trees side by side. -/
def sh : PT → List (List UInt8)
  | nil => []
  | node x k n => (40 :: (Lib.join (El.text x :: sh k) [32] ++ [41])) :: sh n
/-- A heap's text. -/
def text : PT → List UInt8
  | nil => [46]
  | node x k _ => 40 :: (Lib.join (El.text x :: sh k) [32] ++ [41])
theorem sh_length (t : PT) : (sh t).length = len t := by
  induction t with
  | nil => rfl
  | node x k n _ ih => simp [sh, len, ih]
/-- What the texts come to, a byte more for each. -/
def shSum (l : List (List UInt8)) : Nat := Lib.lens l + l.length
theorem shSum_cons (x : List UInt8) (l : List (List UInt8)) : shSum (x :: l) = x.length + 1 + shSum l := by
  simp [shSum, Lib.lens]; omega
theorem sh_le (t : PT) (h : ∀ a ∈ els t, El.fits a) : shSum (sh t) ≤ 60 * size t := by
  induction t with
  | nil => simp [sh, shSum, Lib.lens, size, els]
  | node x k n ih1 ih2 =>
    have h1 := ih1 fun a ha => h a (by simp [els, ha])
    have h2 := ih2 fun a ha => h a (by simp [els, ha])
    have h3 := El.text_len (h x (by simp [els]))
    have h4 := Lib.join_length (El.text x) (sh k) [32]
    rw [sh, shSum_cons]
    simp only [List.length_cons, List.length_append, List.length_nil, h4]
    simp only [shSum] at h1
    simp [size, els, Lib.lens] at *
    omega
end PT

theorem einfoS : ElemInfo Tryd.prog 77 9 (.string ⟨#[]⟩) 1 16 :=
  ⟨Tryd.underlying77, info_parts (by kernel_rfl), rfl, by decide⟩
/-- A string as a cell. -/
abbrev strV (s : List UInt8) : Value := .string ⟨s.toArray⟩
theorem join_ok (H : GH) (w : World) (b o n c : Nat) (xs : List (List UInt8)) (sep : List UInt8) (hf : Fits w H) (hr : SliceRep H 1 (.slice (some ⟨b, o, none⟩) n c) n (xs.map strV)) (hn : n = xs.length) (h0 : 0 < n) (hN : n ≤ 100000000) (hl : (Lib.join xs sep).length ≤ 140737488355328) :
    Calls Tryd.prog 31 #[.slice (some ⟨b, o, none⟩) n c, .string ⟨sep.toArray⟩] w fun e w' => e = .returned (.string ⟨(Lib.join xs sep).toArray⟩) ∧ Keep none w w' := by
  have hxs : (xs.map fun s => (⟨s.toArray⟩ : ByteArray)).map (·.data.toList) = xs := by
    rw [List.map_map]
    conv => rhs; rw [← List.map_id xs]
    exact List.map_congr_left fun _ _ => rfl
  obtain ⟨_, _, _, e, hc, hm⟩ := hr.ne_nil h0
  simp only [Value.slice.injEq, Option.some.injEq, Addr.mk.injEq, true_and] at e
  obtain ⟨_, rfl⟩ := e
  have hb : b < w.heap.size := by
    rcases hr.2 with ⟨h, _⟩ | ⟨b', off', cap', cs, T, f, h1, h2, h3, h4, h5⟩
    · omega
    · simp only [Value.slice.injEq, Option.some.injEq, Addr.mk.injEq] at h1
      obtain ⟨⟨rfl, _⟩, _⟩ := h1
      exact hf.lt h4
  subst hn
  have key := Tryd.strings_Join b o c (xs.map fun s => (⟨s.toArray⟩ : ByteArray)) ⟨sep.toArray⟩ w (fun j x hj => by
    rw [List.getElem?_map] at hj
    obtain ⟨s, hs, rfl⟩ := Option.map_eq_some_iff.1 hj
    exact hr.cell hf j (by rw [List.getElem?_map, hs]; rfl)) hb (by simp; omega) (by simpa using hc) (by rw [hxs]; exact hl)
  rw [List.length_map, hxs] at key
  exact key.mono fun e w' ⟨h1, h2⟩ => ⟨h1, Keep.of_below h2⟩
theorem toList_mk (l : List UInt8) : (ByteArray.mk l.toArray).data.toList = l := rfl

set_option maxRecDepth 100000 in
set_option maxHeartbeats 4000000 in
theorem show_all (t : PT) : ∀ (H : GH) (w : World) (ps : List (Option Addr)), Fits w H → TabH H → KidsR H t ps → (∀ a ∈ PT.els t, El.fits a) → PT.size t < 900000 → ∀ (i : Nat) (p : Option Addr), ps[i]? = some p →
    ∃ s, Hid ((PT.sh t)[i]? = some s) ∧ Calls Tryd.prog 18 #[hV p] w fun e w' => ∃ H', e = .returned (.string ⟨s.toArray⟩) ∧ Post w H none w' H' 0 0 := by
  induction t with
  | nil =>
    intro H w ps _ _ hk _ _ i p hi
    obtain rfl : ps = [] := hk
    simp at hi
  | node x k n ih1 ih2 =>
    intro H w ps hf htab hk hfit hsz i p hi
    obtain ⟨bt, qt, nt, kt, rest, rfl, ys, hbt, yc, yk, hrest⟩ := hk
    have hszn : PT.size k < 900000 ∧ PT.size n < 900000 := by
      rw [size_node] at hsz
      simp [PT.size, PT.els] at *
      omega
    cases i with
    | succ i =>
      obtain ⟨s, h1, h2⟩ := ih2 H w rest hf htab hrest (fun a ha => hfit a (by simp [PT.els, ha])) hszn.2 i p (by simpa using hi)
      exact ⟨s, h1, h2⟩
    | zero =>
      obtain rfl : some ⟨bt, 0, none⟩ = p := by simpa using hi
      refine ⟨_, rfl, ?_⟩
      have hpre : Pre w H none 0 0 := Pre.none hf 0 0
      have hx := hfit x (by simp [PT.els])
      have hle := PT.sh_le k fun a ha => hfit a (by simp [PT.els, ha])
      have hkt : kt.length < 900000 := by have := yk.length; have := len_le_size k; have := hszn.1; unfold PT.size at this; omega
      have hshl : Hid ((PT.sh k).length = kt.length) := by rw [PT.sh_length, yk.length]; rfl
      have htl := El.text_len hx
      obtain ⟨tx, htx⟩ : ∃ s, Hid (El.text x = s) := ⟨El.text x, show _ = _ from rfl⟩
      rw [htx.out] at htl
      go_enter Tryd.func18, Tryd.ntmps18
      have h0 := St.start hpre
      refine wp_seq ?_
      refine wp_region_lit ?_
      refine wpList_plainQ rfl (fun K Q' hK => ?_); go_simp
      refine h0.k_alloc (fun w1 h1 => ?_)
      refine hK _ _ ?_; clear hK K; try clear Q'
      iterate 1 (refine wpList_plainQ rfl (fun K Q' hK => ?_); go_simp; refine hK _ _ ?_; clear hK K; try clear Q')
      refine wpList_nil ?_
      show Code.wp _ _ _ _ _
      refine wp_seq ?_
      refine wp_seq ?_
      refine wp_region_lit ?_
      have c_0_0 := h1.cell 0 rfl 0 rfl
      iterate 3 (refine wpList_plainQ rfl (fun K Q' hK => ?_); go_simp; refine hK _ _ ?_; clear hK K; try clear Q')
      clear c_0_0
      refine wpList_nil ?_
      show Code.wp _ _ _ _ _
      -- stops at: cond
      refine wp_cond_false (rfl) ?_
      refine wp_skip ?_
      show Code.wp _ _ _ _ _
      refine wp_seq ?_
      refine wp_region_lit ?_
      have c_0_0 := h1.cell 0 rfl 0 rfl
      have c_hbt_0 := h1.gh hbt 0 rfl
      have c_hbt_1 := h1.gh hbt 1 rfl
      iterate 5 (refine wpList_plainQ rfl (fun K Q' hK => ?_); go_simp; refine hK _ _ ?_; clear hK K; try clear Q')
      clear c_0_0 c_hbt_0 c_hbt_1
      -- stops at: eff:call (Go.Op.call {'callee': (Go.Callee.value (Go.Operand.func 29)), 'args': [(Go.Operand.tmp 13)], 'argTypes': [32]}) slot 14
      refine wpList_plainQ rfl (fun K Q' hK => ?_); go_simp
      refine (etext_ok H _ x hx h1.fits htab).mono ?_
      rintro e wA ⟨rfl, hkA⟩
      rw [htx.out]
      have h2 := h1.callk hkA
      refine hK _ _ ?_; clear hK K; try clear Q'
      refine wpList_plainQ rfl (fun K Q' hK => ?_); go_simp
      refine h2.k_alloc (fun w3 h3 => ?_)
      refine hK _ _ ?_; clear hK K; try clear Q'
      iterate 1 (refine wpList_plainQ rfl (fun K Q' hK => ?_); go_simp; refine hK _ _ ?_; clear hK K; try clear Q')
      refine wpList_nil ?_
      show Code.wp _ _ _ _ _
      refine wp_seq ?_
      refine wp_seq ?_
      refine wp_region_lit ?_
      have c_0_0 := h3.cell 0 rfl 0 rfl
      have c_hbt_2 := h3.gh hbt 2 rfl
      iterate 5 (refine wpList_plainQ rfl (fun K Q' hK => ?_); go_simp; refine hK _ _ ?_; clear hK K; try clear Q')
      clear c_0_0 c_hbt_2
      -- stops at: eff:call (Go.Op.call {'callee': (Go.Callee.value (Go.Operand.func 30)), 'args': [(Go.Operand.tmp 20)], 'argTypes': [67]}) slot 21
      have hR := h3.rowOf 1 rfl 1 1 rfl (by unfold maxLen; omega)
      refine wpList_plainQ rfl (fun K Q' hK => ?_); go_simp
      refine (CHp.all_ok H _ qt kt (by omega) hR.fits yc).mono ?_
      rintro e wB ⟨v, rfl, hpB⟩
      obtain ⟨H5, h55, rA, leA⟩ := (hR.callrow hpB).settleRow 1 rfl
      obtain ⟨aA, cA, rfl, _, _⟩ := rA.nil_or
      have hbt_4 := leA _ _ hbt
      refine hK _ _ ?_; clear hK K; try clear Q'
      iterate 2 (refine wpList_plainQ rfl (fun K Q' hK => ?_); go_simp; refine hK _ _ ?_; clear hK K; try clear Q')
      refine wpList_nil ?_
      show Code.wp _ _ _ _ _
      refine wp_block ?_
      -- stops at: loop
      go_loopw [3, 23] (fun v3 v23 wr => ∃ (j : Nat) (H' : GH), j ≤ kt.length ∧ v23 = .int .i64 j ∧ H5.le H' ∧ St w H none 0 0 wr H' [(w.heap.size, .cells #[.pointer (some ⟨bt, 0, none⟩)] 29)] [⟨v3, 9, 1, 1 + j, (tx :: (PT.sh k).take j).map strV⟩]) (fun _ v23 _ => kt.length - (intOf v23).toNat)
      case atStart => exact ⟨0, H5, by omega, rfl, GH.le_refl _, by simpa [strV] using h55⟩
      case round =>
        obtain ⟨j, H6, hj, rfl, hle6, hs6⟩ := hrel
        obtain ⟨g3, c3, rfl⟩ := hs6.row_some 0 rfl (by omega)
        by_cases hlt : j < kt.length
        · obtain ⟨b9, o9, _, e9, _⟩ := rA.ne_nil (by omega)
          simp only [Value.slice.injEq, true_and] at e9
          obtain ⟨rfl, rfl⟩ := e9
          obtain ⟨pj, hpj⟩ : ∃ pj, kt[j]? = some pj := ⟨kt[j], by simp⟩
          have gj : (kt.map Value.pointer)[j]? = some (.pointer pj) := by simp [hpj]
          have cR : Hid (∀ W', Fits W' H5 → W'.cell? ⟨b9, o9 + j, none⟩ = some (.pointer pj)) := fun W' hF => rA.cell hF j gj
          have e8 : IntKind.i64.wrap ((j : Int) + 1) = (j : Int) + 1 := IntWalk.i64_in _ (by omega)
          refine wp_seq ?_
          refine wp_region_lit ?_
          iterate 1 (refine wpList_plainQ rfl (fun K Q' hK => ?_); go_simp; refine hK _ _ ?_; clear hK K; try clear Q')
          refine wpList_nil ?_
          show Code.wp _ _ _ _ _
          refine wp_seq ?_
          -- stops at: cond
          refine wp_cond_true (rfl) ?_
          refine wp_skip ?_
          show Code.wp _ _ _ _ _
          refine wp_seq ?_
          refine wp_block ?_
          refine wp_seq ?_
          refine wp_region_lit ?_
          iterate 1 (refine wpList_plainQ rfl (fun K Q' hK => ?_); go_simp; refine hK _ _ ?_; clear hK K; try clear Q')
          -- stops at: load (Go.Op.load 29 (Go.Operand.tmp 25)) slot 26
          have ce := cR.out _ (hs6.fits.le hle6)
          iterate 1 (refine wpList_plainQ rfl (fun K Q' hK => ?_); go_simp; refine hK _ _ ?_; clear hK K; try clear Q')
          clear ce
          refine wpList_plainQ rfl (fun K Q' hK => ?_); go_simp
          refine hs6.k_alloc (fun w5 h5 => ?_)
          refine hK _ _ ?_; clear hK K; try clear Q'
          have c_0 := h5.cell 1 rfl 0 rfl
          have f_0 := h5.free 1 rfl 0
          refine wpList_plainQ rfl (fun K Q' hK => ?_); go_simp
          clear c_0 f_0
          refine h5.k_set 1 rfl (fun w6 h6 => ?_)
          refine hK _ _ ?_; clear hK K; try clear Q'
          refine wpList_nil ?_
          show Code.wp _ _ _ _ _
          refine wp_region_lit ?_
          have c_1_0 := h6.cell 1 rfl 0 rfl
          iterate 2 (refine wpList_plainQ rfl (fun K Q' hK => ?_); go_simp; refine hK _ _ ?_; clear hK K; try clear Q')
          clear c_1_0
          -- stops at: eff:call (Go.Op.call {'callee': (Go.Callee.value (Go.Operand.func 18)), 'args': [(Go.Operand.tmp 28)], 'argTypes': [29]}) slot 29
          obtain ⟨s, hs1, hs2⟩ := ih1 H6 w6 kt h6.fits (htab.mono (leA.trans hle6)) (yk.mono (leA.trans hle6)) (fun a ha => hfit a (by simp [PT.els, ha])) hszn.1 j pj hpj
          refine wpList_plainQ rfl (fun K Q' hK => ?_); go_simp
          refine hs2.mono ?_
          rintro e wE ⟨H8, rfl, hpE⟩
          have h7 := h6.call0 hpE
          refine hK _ _ ?_; clear hK K; try clear Q'
          refine wpList_plainQ rfl (fun K Q' hK => ?_); go_simp
          refine h7.k_alloc (fun w8 h8 => ?_)
          refine hK _ _ ?_; clear hK K; try clear Q'
          -- stops at: eff:Builtin.append (Go.Op.call {'callee': (Go.Callee.builtin Go.Builtin.append), 'args': [(Go.Operand.tmp 27), (Go.Operand.tmp 30)], 'argTypes': [77, 77]}) slot 31
          refine wpList_plainQ rfl (fun K Q' hK => ?_)
          refine h8.op_append 0 rfl rfl einfoS rfl [.string ⟨s.toArray⟩] rfl rfl (fun q u hj => ?_) (by simp [Value.oneCell']) (by omega) (by unfold maxLen; omega) (fun v' wF hF oF hnF => ?_)
          · match q, hj with
            | 0, hj => exact h8.cell 2 rfl 0 hj
          refine hK _ _ ?_; clear hK K; try clear Q'
          iterate 1 (refine wpList_plainQ rfl (fun K Q' hK => ?_); go_simp; refine hK _ _ ?_; clear hK K; try clear Q')
          refine wpList_nil ?_
          show Code.wp _ _ _ _ _
          refine wp_region_lit ?_
          iterate 2 (refine wpList_plainQ rfl (fun K Q' hK => ?_); go_simp; refine hK _ _ ?_; clear hK K; try clear Q')
          refine wpList_nil ?_
          -- stops at: end ('roundend',)
          show _ ∧ _
          go_roundw
          case rel =>
            refine ⟨j + 1, H8, by omega, by simp, hle6.trans hpE.le, ?_⟩
            rw [List.take_add_one, hs1.out, ← Nat.add_assoc]
            rw [show (tx :: ((PT.sh k).take j ++ (some s).toList)).map strV = (tx :: (PT.sh k).take j).map strV ++ [.string ⟨s.toArray⟩] by simp [strV]]
            exact hF.take 1
          case measure => simp [intOf]; omega
        · obtain rfl : j = kt.length := by omega
          refine wp_seq ?_
          refine wp_region_lit ?_
          iterate 1 (refine wpList_plainQ rfl (fun K Q' hK => ?_); go_simp; refine hK _ _ ?_; clear hK K; try clear Q')
          refine wpList_nil ?_
          show Code.wp _ _ _ _ _
          refine wp_seq ?_
          -- stops at: cond
          refine wp_cond_false (rfl) ?_
          refine wp_exit ?_
          show Code.wp _ _ _ _ _
          refine wp_seq ?_
          refine wp_region_lit ?_
          iterate 1 (refine wpList_plainQ rfl (fun K Q' hK => ?_); go_simp; refine hK _ _ ?_; clear hK K; try clear Q')
          -- stops at: eff:call (Go.Op.call {'callee': (Go.Callee.value (Go.Operand.func 31)), 'args': [(Go.Operand.tmp 33), (Go.Operand.const (Go.Value.string {'data': [32]}))], 'argTypes': [ slot 34
          obtain ⟨H9, h99, rS, leS⟩ := hs6.settleRow 0 rfl
          have hxs : (tx :: (PT.sh k).take kt.length) = El.text x :: PT.sh k := by rw [← hshl.out, List.take_length, htx.out]
          rw [hxs] at rS
          have hjl := Lib.join_length (El.text x) (PT.sh k) [32]
          have hjn : (Lib.join (El.text x :: PT.sh k) [32]).length ≤ 100000000 := by
            rw [hjl]
            have := hszn.1
            rw [htx.out]
            simp [PT.shSum, Lib.lens] at *
            omega
          obtain ⟨jt, hjt⟩ : ∃ s, Hid (Lib.join (El.text x :: PT.sh k) [32] = s) := ⟨_, show _ = _ from rfl⟩
          have hj2 := hjn
          rw [hjt.out] at hj2
          have l5 : ¬ 9223372036854775807 < jt.length + 1 := by omega
          have l5' : ¬ 9223372036854775807 < 1 + jt.length := by omega
          have l6 : ¬ 9223372036854775807 < jt.length + 1 + 1 := by omega
          have l6' : ¬ 9223372036854775807 < 1 + jt.length + 1 := by omega
          clear hjl
          refine wpList_plainQ rfl (fun K Q' hK => ?_); go_simp
          refine (join_ok H9 _ _ _ _ _ (El.text x :: PT.sh k) [32] h99.fits rS (by simp [hshl.out]; omega) (by omega) (by omega) (by omega)).mono ?_
          rintro e wJ ⟨rfl, hkJ⟩
          rw [hjt.out]
          have h10 := h99.callk hkJ
          refine hK _ _ ?_; clear hK K; try clear Q'
          iterate 3 (refine wpList_plainQ rfl (fun K Q' hK => ?_); go_simp; refine hK _ _ ?_; clear hK K; try clear Q')
          refine wpList_nil ?_
          show Code.wp _ _ _ _ _
          -- stops at: ret
          refine wp_ret ?_
          go_ret
          refine ⟨H9, ?_, h10.post⟩
          rw [hjt.out]
          show Ending.returned (.string ((⟨#[40]⟩ ++ ⟨jt.toArray⟩ : ByteArray) ++ ⟨#[41]⟩)) = _
          rw [show ((⟨#[40]⟩ ++ ⟨jt.toArray⟩ : ByteArray) ++ ⟨#[41]⟩) = ⟨(40 :: (jt ++ [41])).toArray⟩ from ByteArray.ext (by simp)]

set_option maxRecDepth 100000 in
set_option maxHeartbeats 1000000 in
theorem show_ok (H : GH) (w : World) (p : Option Addr) (t : PT) (hf : Fits w H) (htab : TabH H) (ht : HeapR H p t) (hfit : ∀ a ∈ PT.els t, El.fits a) (hn : PT.size t < 900000) :
    Calls Tryd.prog 18 #[hV p] w fun e w' => ∃ H', e = .returned (.string ⟨(PT.text t).toArray⟩) ∧ Post w H none w' H' 0 0 := by
  rcases ht with ⟨rfl, rfl⟩ | ⟨x, k, rfl, ht⟩
  · have hpre : Pre w H none 0 0 := Pre.none hf 0 0
    go_enter Tryd.func18, Tryd.ntmps18
    have h0 := St.start hpre
    refine wp_seq ?_
    refine wp_region_lit ?_
    refine wpList_plainQ rfl (fun K Q' hK => ?_); go_simp
    refine h0.k_alloc (fun w1 h1 => ?_)
    refine hK _ _ ?_; clear hK K; try clear Q'
    iterate 1 (refine wpList_plainQ rfl (fun K Q' hK => ?_); go_simp; refine hK _ _ ?_; clear hK K; try clear Q')
    refine wpList_nil ?_
    show Code.wp _ _ _ _ _
    refine wp_seq ?_
    refine wp_seq ?_
    refine wp_region_lit ?_
    have c_0_0 := h1.cell 0 rfl 0 rfl
    iterate 3 (refine wpList_plainQ rfl (fun K Q' hK => ?_); go_simp; refine hK _ _ ?_; clear hK K; try clear Q')
    clear c_0_0
    refine wpList_nil ?_
    show Code.wp _ _ _ _ _
    -- stops at: cond
    refine wp_cond_true (rfl) ?_
    refine wp_seq ?_
    refine wp_region_lit ?_
    iterate 1 (refine wpList_plainQ rfl (fun K Q' hK => ?_); go_simp; refine hK _ _ ?_; clear hK K; try clear Q')
    refine wpList_nil ?_
    show Code.wp _ _ _ _ _
    -- stops at: ret
    refine wp_ret ?_
    go_ret
    exact ⟨H, rfl, h1.post⟩
  · obtain ⟨s, h1, h2⟩ := show_all (.node x k .nil) H w [p] hf htab ht hfit hn 0 p rfl
    have e : s = PT.text (.node x k .nil) := by
      have := h1.out
      simp [PT.sh] at this
      exact this.symm
    rw [← e]
    exact h2
end Go.Proofs.YtnimanhoegbicaaDoor
