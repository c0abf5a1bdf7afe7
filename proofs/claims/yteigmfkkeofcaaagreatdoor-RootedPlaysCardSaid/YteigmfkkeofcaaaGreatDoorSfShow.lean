/-
The document's trees and rows of trees as texts.
-/
import Derived.Test.YteigmfkkeofcaaaGreatDoorSeRows
import Derived.Test.YteigmfkkeofcaaaGreatDoorScText
import Derived.Test.YteigmfkkeofcaaaGreatDoorOdRank
namespace Go.Proofs.YteigmfkkeofcaaaGreatDoor
open Go Go.RowKit
set_option linter.unusedVariables false

theorem toL_sub {k : RT El} {t : Tr El} (h : t ∈ k.toL) : (∀ a ∈ t.els, a ∈ k.els) ∧ t.size ≤ k.els.length := by
  have he := Rw.toL_els k
  obtain ⟨i, hi⟩ := List.getElem?_of_mem h
  refine ⟨fun a ha => ?_, ?_⟩
  · rw [← he]; exact List.mem_flatMap.2 ⟨t, h, ha⟩
  · have := size_mem hi
    rw [← he]; exact this
set_option maxRecDepth 100000 in
set_option maxHeartbeats 8000000 in
theorem r5show_all (t : RT El) : ∀ tr ∈ t.toL, ∀ (H : GH) (w : World) (v : Value), Fits w H → (∀ a ∈ tr.els, El.fits a) → tr.size < 900000 → TrV H v tr →
    Calls Tryz.prog 94 #[v] w fun e w' => e = .returned (.string ⟨(Tr.text tr).toArray⟩) ∧ Keep none w w' := by
  induction t with
  | nil => intro tr h; simp [RT.toL] at h
  | node x b k n ih1 ih2 =>
    intro tr htr H w v hf hfit hn hv
    rcases List.mem_cons.1 htr with rfl | htr
    · clear ih2 htr
      have hpre : Pre w H none 0 0 := Pre.none hf 0 0
      have hx := hfit x (by simp [Tr.els])
      have hfb : ∀ a ∈ b, El.fits a := fun a ha => hfit a (by simp [Tr.els, ha])
      have hfk : ∀ a ∈ k.els, El.fits a := fun a ha => hfit a (by simp [Tr.els, ha])
      have hsz : 1 + b.length + k.els.length < 900000 := by
        have h5 : (⟨x, b, k⟩ : Tr El).size = 1 + b.length + k.els.length := by simp [Tr.size, Tr.els]; omega
        omega
      have hle := RT.sh_sum k hfk
      have hbl := flat_text_len b hfb
      have htl := El.text_len hx
      have hshl : (RT.sh k).length = k.len := RT.sh_length k
      have hkl := k.len_le
      obtain ⟨aB, cB, aK, cK, r, sz, rfl, hr, hz, hb1, hk1⟩ := hv.form
      have d0 : ((sz : Int) == 0) = false := beq_eq_false_iff_ne.2 (by have h5 := hz.out; have h6 := Tr.rank_lt (⟨x, b, k⟩ : Tr El); omega)
      simp only at hb1 hk1
      obtain ⟨nb, hnb⟩ : ∃ m, Hid (b.length = m) := ⟨_, show _ = _ from rfl⟩
      obtain ⟨nk, hnk⟩ : ∃ m, Hid (k.toL.length = m) := ⟨_, show _ = _ from rfl⟩
      have hnk2 : Hid (k.len = nk) := by rw [← hnk.out, RT.toL_length]; exact (show _ = _ from rfl)
      have hnbl : nb < 900000 := by have := hnb.out; omega
      have hnkl : nk < 900000 := by have := hnk2.out; omega
      obtain ⟨tx, htx⟩ : ∃ s, Hid (El.text x = s) := ⟨El.text x, show _ = _ from rfl⟩
      obtain ⟨fb, hfbe⟩ : ∃ s, Hid ((b.flatMap fun y => 32 :: 43 :: El.text y) = s) := ⟨_, show _ = _ from rfl⟩
      obtain ⟨fk, hfke⟩ : ∃ s, Hid (((RT.sh k).flatMap fun s => 32 :: s) = s) := ⟨_, show _ = _ from rfl⟩
      have etext : Hid (Tr.text ⟨x, b, k⟩ = 40 :: (tx ++ fb ++ fk ++ [41])) := by show _ = _; rw [← htx.out, ← hfbe.out, ← hfke.out]; rfl
      have htl2 : tx.length ≤ 43 := by rw [← htx.out]; exact htl
      have hfbl : fb.length ≤ 45000000 := by rw [← hfbe.out]; omega
      have hfkl : fk.length ≤ 54000000 := by rw [← hfke.out]; omega
      have l1 : ¬ 9223372036854775807 < 1 + tx.length := by omega
      have hb1' := hb1
      rw [hnb.out] at hb1
      rw [hnk.out] at hk1
      rw [show (⟨x, b, k⟩ : Tr El).b.length = nb from hnb.out, show (⟨x, b, k⟩ : Tr El).k.toL.length = nk from hnk.out]
      clear htl hle hbl hshl hkl
      go_enter Tryz.func94, Tryz.ntmps94
      have h0 := St.start hpre
      refine wp_seq ?_
      repeat (first | simp only [List.nil_append] at h0 | simp only [List.cons_append] at h0 | simp only [List.set_cons_zero] at h0 | simp only [List.set_cons_succ] at h0 | simp only [List.eraseIdx_zero] at h0 | simp only [List.tail_cons] at h0 | simp only [List.eraseIdx_cons_zero] at h0 | simp only [List.eraseIdx_cons_succ] at h0 | simp only [List.setIfInBounds_toArray] at h0)
      refine wp_region_lit ?_
      refine wpList_plainQ rfl (fun K Q' hK => ?_); go_simp
      refine h0.k_alloc (fun w1 h1 => ?_)
      refine hK _ _ ?_; clear hK K; try clear Q'
      iterate 1 (refine wpList_plainQ rfl (fun K Q' hK => ?_); go_simp; refine hK _ _ ?_; clear hK K; try clear Q')
      refine wpList_nil ?_
      show Code.wp _ _ _ _ _
      refine wp_seq ?_
      refine wp_seq ?_
      repeat (first | simp only [List.nil_append] at h1 | simp only [List.cons_append] at h1 | simp only [List.set_cons_zero] at h1 | simp only [List.set_cons_succ] at h1 | simp only [List.eraseIdx_zero] at h1 | simp only [List.tail_cons] at h1 | simp only [List.eraseIdx_cons_zero] at h1 | simp only [List.eraseIdx_cons_succ] at h1 | simp only [List.setIfInBounds_toArray] at h1)
      refine wp_region_lit ?_
      have c_0_5 := h1.cell 0 rfl 5 rfl
      iterate 3 (refine wpList_plainQ rfl (fun K Q' hK => ?_); go_simp; refine hK _ _ ?_; clear hK K; try clear Q')
      clear c_0_5
      refine wpList_nil ?_
      show Code.wp _ _ _ _ _
      -- stops at: cond
      refine wp_cond_false (rfl) ?_
      refine wp_skip ?_
      show Code.wp _ _ _ _ _
      refine wp_seq ?_
      refine wp_region_lit ?_
      have c_0_1 := h1.cell 0 rfl 1 rfl
      have c_0_2 := h1.cell 0 rfl 2 rfl
      iterate 2 (refine wpList_plainQ rfl (fun K Q' hK => ?_); go_simp; refine hK _ _ ?_; clear hK K; try clear Q')
      clear c_0_1 c_0_2
      -- stops at: eff:call (Go.Op.call {'callee': (Go.Callee.value (Go.Operand.func 37)), 'args': [(Go.Operand.tmp 10)], 'argTypes': [32]}) slot 11
      refine wpList_plainQ rfl (fun K Q' hK => ?_); go_simp
      refine (rtext_ok H _ x hx h1.fits).mono ?_
      rintro e wA ⟨rfl, hkA⟩
      rw [htx.out]
      have h2 := h1.callk hkA
      refine hK _ _ ?_; clear hK K; try clear Q'
      iterate 2 (refine wpList_plainQ rfl (fun K Q' hK => ?_); go_simp; refine hK _ _ ?_; clear hK K; try clear Q')
      refine wpList_nil ?_
      show Code.wp _ _ _ _ _
      refine wp_seq ?_
      refine wp_seq ?_
      repeat (first | simp only [List.nil_append] at h2 | simp only [List.cons_append] at h2 | simp only [List.set_cons_zero] at h2 | simp only [List.set_cons_succ] at h2 | simp only [List.eraseIdx_zero] at h2 | simp only [List.tail_cons] at h2 | simp only [List.eraseIdx_cons_zero] at h2 | simp only [List.eraseIdx_cons_succ] at h2 | simp only [List.setIfInBounds_toArray] at h2)
      refine wp_region_lit ?_
      iterate 1 (refine wpList_plainQ rfl (fun K Q' hK => ?_); go_simp; refine hK _ _ ?_; clear hK K; try clear Q')
      refine wpList_nil ?_
      show Code.wp _ _ _ _ _
      refine wp_block ?_
      -- stops at: loop
      go_loopw [3, 4] (fun v3 v4 wr => ∃ (j : Nat) (s : List UInt8), j ≤ nb ∧ v4 = .int .i64 j ∧ v3 = .string ⟨s.toArray⟩ ∧ Hid (s = 40 :: (tx ++ (b.take j).flatMap fun y => 32 :: 43 :: El.text y)) ∧ St w H none 0 0 wr H [(w.heap.size, .cells #[.int .i64 (r : Int), .int .i64 x.1, .int .i64 x.2, .slice aB nb cB, .slice aK nk cK, .int .i64 (sz : Int)] 103)] []) (fun _ v4 _ => nb - (intOf v4).toNat)
      case atStart => exact ⟨0, 40 :: tx, by omega, rfl, rfl, by show _ = _; simp, h2⟩
      case round =>
        obtain ⟨j, s, hj, rfl, rfl, hs1, hs⟩ := hrel
        have hsl : s.length ≤ 45000050 := by
          have h5 := flatMap_take_le (fun y : El => (32 : UInt8) :: 43 :: El.text y) b j
          rw [hs1.out]
          rw [hfbe.out] at h5
          simp only [List.length_cons, List.length_append]
          omega
        by_cases hlt : j < nb
        · obtain ⟨b9, o9, cap9, e9, _⟩ := hb1.ne_nil (by omega)
          simp only [Value.slice.injEq, true_and] at e9
          obtain ⟨rfl, rfl⟩ := e9
          obtain ⟨y, hy⟩ : ∃ y, b[j]? = some y := ⟨b[j]'(by have := hnb.out; omega), by simp⟩
          have hyf := hfb y (List.mem_of_getElem? hy)
          obtain ⟨c1, c2⟩ := elRep_cells hb1 (k := j) (a := y) hy
          obtain ⟨ty, hty⟩ : ∃ s, Hid (El.text y = s) := ⟨El.text y, show _ = _ from rfl⟩
          have htyl : ty.length ≤ 43 := by rw [← hty.out]; exact El.text_len hyf
          have l2 : ¬ 9223372036854775807 < 2 + ty.length := by omega
          have l3 : ¬ 9223372036854775807 < s.length + (2 + ty.length) := by omega
          have e8 : IntKind.i64.wrap ((j : Int) + 1) = (j : Int) + 1 := IntWalk.i64_in _ (by omega)
          refine wp_seq ?_
          refine wp_seq ?_
          repeat (first | simp only [List.nil_append] at hs | simp only [List.cons_append] at hs | simp only [List.set_cons_zero] at hs | simp only [List.set_cons_succ] at hs | simp only [List.eraseIdx_zero] at hs | simp only [List.tail_cons] at hs | simp only [List.eraseIdx_cons_zero] at hs | simp only [List.eraseIdx_cons_succ] at hs | simp only [List.setIfInBounds_toArray] at hs)
          refine wp_region_lit ?_
          have c_0_3 := hs.cell 0 rfl 3 rfl
          iterate 5 (refine wpList_plainQ rfl (fun K Q' hK => ?_); go_simp; refine hK _ _ ?_; clear hK K; try clear Q')
          clear c_0_3
          refine wpList_nil ?_
          show Code.wp _ _ _ _ _
          -- stops at: cond
          refine wp_cond_true (rfl) ?_
          refine wp_skip ?_
          show Code.wp _ _ _ _ _
          refine wp_seq ?_
          refine wp_block ?_
          refine wp_region_lit ?_
          have c_0_3 := hs.cell 0 rfl 3 rfl
          iterate 5 (refine wpList_plainQ rfl (fun K Q' hK => ?_); go_simp; refine hK _ _ ?_; clear hK K; try clear Q')
          clear c_0_3
          -- stops at: load (Go.Op.load 32 (Go.Operand.tmp 24)) slot 25
          have ce := c1.out _ hs.fits
          have ce2 := c2.out _ hs.fits
          iterate 1 (refine wpList_plainQ rfl (fun K Q' hK => ?_); go_simp; refine hK _ _ ?_; clear hK K; try clear Q')
          clear ce ce2
          -- stops at: eff:call (Go.Op.call {'callee': (Go.Callee.value (Go.Operand.func 37)), 'args': [(Go.Operand.tmp 25)], 'argTypes': [32]}) slot 26
          refine wpList_plainQ rfl (fun K Q' hK => ?_); go_simp
          refine (rtext_ok H _ y hyf hs.fits).mono ?_
          rintro e wC ⟨rfl, hkC⟩
          rw [hty.out]
          have h3 := hs.callk hkC
          refine hK _ _ ?_; clear hK K; try clear Q'
          iterate 3 (refine wpList_plainQ rfl (fun K Q' hK => ?_); go_simp; refine hK _ _ ?_; clear hK K; try clear Q')
          refine wpList_nil ?_
          show Code.wp _ _ _ _ _
          repeat (first | simp only [List.nil_append] at h3 | simp only [List.cons_append] at h3 | simp only [List.set_cons_zero] at h3 | simp only [List.set_cons_succ] at h3 | simp only [List.eraseIdx_zero] at h3 | simp only [List.tail_cons] at h3 | simp only [List.eraseIdx_cons_zero] at h3 | simp only [List.eraseIdx_cons_succ] at h3 | simp only [List.setIfInBounds_toArray] at h3)
          refine wp_region_lit ?_
          iterate 3 (refine wpList_plainQ rfl (fun K Q' hK => ?_); go_simp; refine hK _ _ ?_; clear hK K; try clear Q')
          refine wpList_nil ?_
          -- stops at: end ('roundend',)
          show _ ∧ _
          go_roundw
          case rel =>
            refine ⟨j + 1, s ++ 32 :: 43 :: ty, by omega, by simp, congrArg Value.string (ByteArray.ext (by simp)), ?_, h3⟩
            show _ = _
            rw [List.take_add_one, hy, hs1.out, ← hty.out]
            simp
          case measure => simp [intOf]; omega
        · obtain rfl : j = nb := by omega
          have hs2 : Hid (s = 40 :: (tx ++ fb)) := by show _ = _; rw [hs1.out, ← hfbe.out, ← hnb.out, List.take_length]
          clear hs1
          refine wp_seq ?_
          refine wp_seq ?_
          repeat (first | simp only [List.nil_append] at hs | simp only [List.cons_append] at hs | simp only [List.set_cons_zero] at hs | simp only [List.set_cons_succ] at hs | simp only [List.eraseIdx_zero] at hs | simp only [List.tail_cons] at hs | simp only [List.eraseIdx_cons_zero] at hs | simp only [List.eraseIdx_cons_succ] at hs | simp only [List.setIfInBounds_toArray] at hs)
          refine wp_region_lit ?_
          have c_0_3 := hs.cell 0 rfl 3 rfl
          iterate 5 (refine wpList_plainQ rfl (fun K Q' hK => ?_); go_simp; refine hK _ _ ?_; clear hK K; try clear Q')
          clear c_0_3
          refine wpList_nil ?_
          show Code.wp _ _ _ _ _
          -- stops at: cond
          refine wp_cond_false (rfl) ?_
          refine wp_exit ?_
          show Code.wp _ _ _ _ _
          refine wp_seq ?_
          refine wp_seq ?_
          refine wp_region_lit ?_
          iterate 1 (refine wpList_plainQ rfl (fun K Q' hK => ?_); go_simp; refine hK _ _ ?_; clear hK K; try clear Q')
          refine wpList_nil ?_
          show Code.wp _ _ _ _ _
          refine wp_block ?_
          -- stops at: loop
          go_loopw [3, 5] (fun v3 v5 wr => ∃ (i : Nat) (q : List UInt8), i ≤ nk ∧ v5 = .int .i64 i ∧ v3 = .string ⟨q.toArray⟩ ∧ Hid (q = s ++ ((RT.sh k).take i).flatMap fun y => 32 :: y) ∧ St w H none 0 0 wr H [(w.heap.size, .cells #[.int .i64 (r : Int), .int .i64 x.1, .int .i64 x.2, .slice aB j cB, .slice aK nk cK, .int .i64 (sz : Int)] 103)] []) (fun _ v5 _ => nk - (intOf v5).toNat)
          case atStart => exact ⟨0, s, by omega, rfl, rfl, by show _ = _; simp, hs⟩
          case round =>
            clear hs
            obtain ⟨i, q, hi, rfl, rfl, hq1, hs⟩ := hrel
            have hql : q.length ≤ 100000000 := by
              have h5 := flatMap_take_le (fun y : List UInt8 => (32 : UInt8) :: y) (RT.sh k) i
              rw [hq1.out]
              rw [hfke.out] at h5
              simp only [List.length_append]
              omega
            by_cases hlt : i < nk
            · obtain ⟨y, hy⟩ : ∃ y, k.toL[i]? = some y := ⟨k.toL[i]'(by have := hnk.out; omega), by simp⟩
              have hyk := List.mem_of_getElem? hy
              obtain ⟨hy1, hy2⟩ := toL_sub hyk
              have hsh : (RT.sh k)[i]? = some (Tr.text y) := by rw [RT.sh_eq, List.getElem?_map, hy]; rfl
              obtain ⟨ty, hty⟩ : ∃ s, Hid (Tr.text y = s) := ⟨Tr.text y, show _ = _ from rfl⟩
              obtain ⟨b9, o9, cap9, e9⟩ : ∃ b o c, (Value.slice aK nk cK) = .slice (some ⟨b, o, none⟩) nk c := by
                obtain ⟨cs, h1, _⟩ := hk1
                rw [hnk.out] at h1
                obtain ⟨b, o, c, e, _⟩ := h1.ne_nil (by omega)
                exact ⟨b, o, c, e⟩
              simp only [Value.slice.injEq, true_and] at e9
              obtain ⟨rfl, rfl⟩ := e9
              obtain ⟨bv, kv, r2, z2, hc, hr2, hz2, hb2, hk2⟩ := hk1.at i hy
              have htv : TrV H (tV r2 y.x bv kv z2) y := ⟨bv, kv, r2, z2, rfl, hr2, hz2, hb2, hk2⟩
              obtain ⟨aB2, cB2, rfl, _, _⟩ := hb2.nil_or
              obtain ⟨aK2, cK2, rfl, _, _⟩ := hk2.form
              have htyl : ty.length ≤ 54000000 := by
                have h5 := flatMap_take_le (fun y : List UInt8 => (32 : UInt8) :: y) (RT.sh k) (i + 1)
                rw [hfke.out, List.take_add_one, hsh, hty.out] at h5
                simp only [List.flatMap_append, Option.toList, List.flatMap_cons, List.flatMap_nil, List.length_append, List.length_cons, List.append_nil] at h5
                omega
              have l2 : ¬ 9223372036854775807 < 1 + ty.length := by omega
              have l3 : ¬ 9223372036854775807 < q.length + (1 + ty.length) := by omega
              have e8 : IntKind.i64.wrap ((i : Int) + 1) = (i : Int) + 1 := IntWalk.i64_in _ (by omega)
              have hrec := ih1 y hyk H
              rw [hty.out] at hrec
              refine wp_seq ?_
              refine wp_seq ?_
              refine wp_region_lit ?_
              have c_0_4 := hs.cell 0 rfl 4 rfl
              iterate 5 (refine wpList_plainQ rfl (fun K Q' hK => ?_); go_simp; refine hK _ _ ?_; clear hK K; try clear Q')
              clear c_0_4
              refine wpList_nil ?_
              show Code.wp _ _ _ _ _
              -- stops at: cond
              refine wp_cond_true (rfl) ?_
              refine wp_skip ?_
              show Code.wp _ _ _ _ _
              refine wp_seq ?_
              refine wp_block ?_
              refine wp_region_lit ?_
              have c_0_4 := hs.cell 0 rfl 4 rfl
              iterate 5 (refine wpList_plainQ rfl (fun K Q' hK => ?_); go_simp; refine hK _ _ ?_; clear hK K; try clear Q')
              clear c_0_4
              -- stops at: load (Go.Op.load 103 (Go.Operand.tmp 40)) slot 41
              have ce := hc.out _ hs.fits
              obtain ⟨q0, q1, q2, q3, q4, q5⟩ := ce
              iterate 1 (refine wpList_plainQ rfl (fun K Q' hK => ?_); go_simp; refine hK _ _ ?_; clear hK K; try clear Q')
              clear q0 q1 q2 q3 q4 q5
              -- stops at: eff:call (Go.Op.call {'callee': (Go.Callee.value (Go.Operand.func 94)), 'args': [(Go.Operand.tmp 41)], 'argTypes': [103]}) slot 42
              refine wpList_plainQ rfl (fun K Q' hK => ?_); go_simp
              refine (hrec _ _ hs.fits (fun a ha => hfk a (hy1 a ha)) (by omega) htv).mono ?_
              rintro e wC ⟨rfl, hkC⟩
              have h4 := hs.callk hkC
              refine hK _ _ ?_; clear hK K; try clear Q'
              iterate 3 (refine wpList_plainQ rfl (fun K Q' hK => ?_); go_simp; refine hK _ _ ?_; clear hK K; try clear Q')
              refine wpList_nil ?_
              show Code.wp _ _ _ _ _
              repeat (first | simp only [List.nil_append] at h4 | simp only [List.cons_append] at h4 | simp only [List.set_cons_zero] at h4 | simp only [List.set_cons_succ] at h4 | simp only [List.eraseIdx_zero] at h4 | simp only [List.tail_cons] at h4 | simp only [List.eraseIdx_cons_zero] at h4 | simp only [List.eraseIdx_cons_succ] at h4 | simp only [List.setIfInBounds_toArray] at h4)
              refine wp_region_lit ?_
              iterate 3 (refine wpList_plainQ rfl (fun K Q' hK => ?_); go_simp; refine hK _ _ ?_; clear hK K; try clear Q')
              refine wpList_nil ?_
              -- stops at: end ('roundend',)
              show _ ∧ _
              go_roundw
              case rel =>
                refine ⟨i + 1, q ++ 32 :: ty, by omega, by simp, congrArg Value.string (ByteArray.ext (by simp)), ?_, h4⟩
                show _ = _
                rw [List.take_add_one, hsh, hq1.out, ← hty.out]
                simp
              case measure => simp [intOf]; omega
            · obtain rfl : i = nk := by omega
              have l2 : ¬ 9223372036854775807 < q.length + 1 := by omega
              have hq2 : Hid (Tr.text ⟨x, b, k⟩ = q ++ [41]) := by
                show _ = _
                rw [etext.out, hq1.out, hs2.out, ← hfke.out, ← hnk2.out, ← RT.sh_length k, List.take_length]
                simp
              refine wp_seq ?_
              refine wp_seq ?_
              refine wp_region_lit ?_
              have c_0_4 := hs.cell 0 rfl 4 rfl
              iterate 5 (refine wpList_plainQ rfl (fun K Q' hK => ?_); go_simp; refine hK _ _ ?_; clear hK K; try clear Q')
              clear c_0_4
              refine wpList_nil ?_
              show Code.wp _ _ _ _ _
              -- stops at: cond
              refine wp_cond_false (rfl) ?_
              refine wp_exit ?_
              show Code.wp _ _ _ _ _
              refine wp_seq ?_
              refine wp_region_lit ?_
              iterate 3 (refine wpList_plainQ rfl (fun K Q' hK => ?_); go_simp; refine hK _ _ ?_; clear hK K; try clear Q')
              refine wpList_nil ?_
              show Code.wp _ _ _ _ _
              -- stops at: ret
              refine wp_ret ?_
              go_ret
              refine ⟨?_, hs.post.keep⟩
              rw [hq2.out]
              show Ending.returned (.string ((⟨q.toArray⟩ : ByteArray) ++ ⟨#[41]⟩)) = _
              rw [show ((⟨q.toArray⟩ : ByteArray) ++ ⟨#[41]⟩) = ⟨(q ++ [41]).toArray⟩ from ByteArray.ext (by simp)]
    · exact ih2 tr htr H w v hf hfit hn hv

theorem r5show_ok (H : GH) (w : World) (v : Value) (tr : Tr El) (hf : Fits w H) (hfit : ∀ a ∈ tr.els, El.fits a) (hn : tr.size < 900000) (hv : TrV H v tr) :
    Calls Tryz.prog 94 #[v] w fun e w' => e = .returned (.string ⟨(Tr.text tr).toArray⟩) ∧ Keep none w w' :=
  r5show_all (.node tr.x tr.b tr.k .nil) tr (by simp [RT.toL]) H w v hf hfit hn hv
end Go.Proofs.YteigmfkkeofcaaaGreatDoor
