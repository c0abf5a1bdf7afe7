/-
ConsPlays: its walk.
-/
import Derived.Test.YtallllpjjhcaoaaKeRefs
import Derived.Test.YtallllpjjhcaoaaJcAwake
import Derived.Test.YtallllpjjhcaoaaKaQ
import Derived.Test.YtallllpjjhcaoaaKbRow
namespace Go.Proofs.Ytallllpjjhcaoaa
open Go Go.RowKit

/-- An act: its kind, two places and a number. -/
structure Play where
  kind : Nat
  at_ : Nat
  to_ : Nat
  x : Int
def Play.cells (a : Play) : List Value := [.int .u8 a.kind, .int .u8 a.at_, .int .u8 a.to_, .int .i64 a.x]
def Play.ok (a : Play) : Prop := a.kind ≤ 255 ∧ a.at_ ≤ 255 ∧ a.to_ ≤ 255 ∧ a.x ≤ 9223372036854775807
abbrev PlayRep (H : GH) (v : Value) (ls : List Play) : Prop := SliceRep H 4 v ls.length (ls.flatMap Play.cells)

theorem flatMap_cells_get (ls : List Play) (k : Nat) (a : Play) (h : ls[k]? = some a) (i : Nat) (hi : i < 4) : (ls.flatMap Play.cells)[k * 4 + i]? = a.cells[i]? := by
  induction ls generalizing k with
  | nil => simp at h
  | cons b ls ih =>
    rw [List.flatMap_cons]
    cases k with
    | zero =>
      simp only [List.getElem?_cons_zero, Option.some.injEq] at h
      subst h
      rw [List.getElem?_append_left (by simp [Play.cells]; omega)]
      simp
    | succ k =>
      rw [List.getElem?_append_right (by simp [Play.cells]; omega)]
      have : (k + 1) * 4 + i - b.cells.length = k * 4 + i := by simp [Play.cells]; omega
      rw [this]
      exact ih k (by simpa using h)

/-- What the two rows hold. -/
def Held (H : GH) (B : Nat) (ps : List (Option Addr × Value × List Int)) : Prop :=
  ∀ p ∈ ps, ConsRep 60 H p.1 (p.2.2.map (Value.int .i64)) ∧ IntRep H p.2.1 p.2.2 ∧ p.2.2.length ≤ B
theorem Held.mono {H H' : GH} {B B' : Nat} {ps : List (Option Addr × Value × List Int)} (h : Held H B ps) (hl : H.le H') (hb : B ≤ B') : Held H' B' ps :=
  fun p hp => ⟨(h p hp).1.mono hl, (h p hp).2.1.mono hl, Nat.le_trans (h p hp).2.2 hb⟩
theorem Held.snoc {H : GH} {B : Nat} {ps : List (Option Addr × Value × List Int)} (h : Held H B ps) {q : Option Addr} {v : Value} {xs : List Int} (h1 : ConsRep 60 H q (xs.map (Value.int .i64))) (h2 : IntRep H v xs) (h3 : xs.length ≤ B) : Held H B (ps ++ [(q, v, xs)]) := by
  intro p hp
  rcases List.mem_append.1 hp with hp | hp
  · exact h p hp
  · obtain rfl := List.mem_singleton.1 hp
    exact ⟨h1, h2, h3⟩

theorem infoL : ElemInfo Try.prog 37 26 (.agg #[.pointer none]) 1 8 :=
  ⟨Try.underlying37, info_parts (by kernel_rfl), rfl, by decide⟩
theorem infoS : ElemInfo Try.prog 38 22 (.slice none 0 0) 1 24 :=
  ⟨Try.underlying38, info_parts (by kernel_rfl), rfl, by decide⟩


theorem St.k_setRow {w0 w : World} {H0 H : GH} {m : Option Nat} {c d : Int} {L : List (Nat × Obj)} {R : List Row} (h : St w0 H0 m c d w H L R) (i : Nat) {g n cap size : Nat} {e : TypeId} {xs : List Value} (hi : R[i]? = some ⟨.slice (some ⟨g, 0, none⟩) n cap, e, size, n, xs⟩) (j : Nat) {u : Value} {K : Act → World → Prop} {a : Act}
    (hk : ∀ w', St w0 H0 m c d w' H L (R.set i ⟨.slice (some ⟨g, 0, none⟩) n cap, e, size, n, xs.set j u⟩) → K a w') : K a (w.setCell ⟨g, j, none⟩ u) := hk _ (h.setRow i hi j u)

/-- What holds ahead of each round of the first loop. -/
def PlayInv (w : World) (H H2 : GH) (ls : List Play) (v6 v7 v8 : Value) (wr : World) : Prop :=
  ∃ (k : Nat) (ps : List (Option Addr × Value × List Int)) (H' : GH), k ≤ ls.length ∧ Hid (ps.length = k + 1) ∧ v8 = .int .i64 k ∧ H2.le H' ∧ Held H' (200 + k) ps ∧
    St w H none 0 0 wr H' [] [⟨v6, 26, 1, ps.length, ps.map (fun p => .pointer p.1)⟩, ⟨v7, 22, 1, ps.length, ps.map (fun p => p.2.1)⟩]

/-- .. of the second. -/
def PlayInv2 (w : World) (H H7 : GH) (n : Nat) (v13 : Value) (wr : World) : Prop :=
  ∃ (j : Nat) (H8 : GH), j ≤ n ∧ v13 = .int .i64 j ∧ H7.le H8 ∧ St w H none 0 0 wr H8 [] []
/-- .. and of the third. -/
def PlayInv3 (w : World) (H H9 : GH) (n : Nat) (vy v17 : Value) (wr : World) : Prop :=
  ∃ (i : Nat) (zs : List Value), i ≤ n ∧ v17 = .int .i64 i ∧ zs.length = n ∧ (∀ z ∈ zs, ∃ c, z = Value.int .i64 c) ∧ St w H none 0 0 wr H9 [] [⟨vy, 3, 1, n, zs⟩]

set_option maxRecDepth 100000 in
set_option maxHeartbeats 16000000 in
theorem plays_walk (H : GH) (w : World) (v u : Value) (xs : List Int) (ls : List Play) (hok : ∀ a ∈ ls, a.ok) (hf : Fits w H) (hr : IntRep H v xs) (hs : PlayRep H u ls) :
    Calls Try.prog 4 #[v, u] w fun e w' => e = .returned (.bool true) ∧ Keep none w w' := by
  have hpre : Pre w H none 0 0 := Pre.none hf 0 0
  obtain ⟨a, cap, rfl, hc1, hc2⟩ := hr.nil_or
  obtain ⟨b, cap2, rfl, hd1, hd2⟩ := hs.nil_or
  have hc3 : xs.length ≤ 9223372036854775807 := by unfold maxLen at hc2; omega
  have hd3 : ls.length ≤ 9223372036854775807 := by unfold maxLen at hd2; omega
  clear hc2 hd2
  by_cases hl : xs.length ≤ 30
  · have hl1 : decide ((30 : Int) < (xs.length : Int)) = false := by simp; omega
    by_cases hm : ls.length ≤ 20
    · have hl2 : decide ((20 : Int) < (ls.length : Int)) = false := by simp; omega
      go_enter Try.func4, Try.ntmps4
      have h0 := St.start hpre
      refine wp_seq ?_
      refine wp_region_lit ?_
      iterate 1 (refine wpList_plainQ rfl (fun K Q' hK => ?_); go_simp; refine hK _ _ ?_; clear hK K; try clear Q')
      refine wpList_nil ?_
      show Code.wp _ _ _ _ _
      refine wp_seq ?_
      refine wp_region_lit ?_
      -- stops at: eff:call (Go.Op.call {'callee': (Go.Callee.value (Go.Operand.func 6)), 'args': [], 'argTypes': []}) slot 18
      refine wpList_plainQ rfl (fun K Q' hK => ?_); go_simp
      refine (awake_ok _).mono ?_
      rintro e wA ⟨rfl, hkA⟩
      have h1 := h0.callk hkA
      refine hK _ _ ?_; clear hK K; try clear Q'
      iterate 1 (refine wpList_plainQ rfl (fun K Q' hK => ?_); go_simp; refine hK _ _ ?_; clear hK K; try clear Q')
      refine wpList_nil ?_
      show Code.wp _ _ _ _ _
      refine wp_seq ?_
      refine wp_seq ?_
      refine wp_region_lit ?_
      iterate 2 (refine wpList_plainQ rfl (fun K Q' hK => ?_); go_simp; refine hK _ _ ?_; clear hK K; try clear Q')
      refine wpList_nil ?_
      show Code.wp _ _ _ _ _
      -- stops at: cond
      refine wp_cond_false (rfl) ?_
      refine wp_skip ?_
      show Code.wp _ _ _ _ _
      refine wp_seq ?_
      refine wp_seq ?_
      refine wp_region_lit ?_
      iterate 4 (refine wpList_plainQ rfl (fun K Q' hK => ?_); go_simp; refine hK _ _ ?_; clear hK K; try clear Q')
      first | go_skip | (iterate 3 (refine wpList_stepQ (o := { dst := _, op := _, type := _, pos := _, after := _, guard := some (3, false) }) (fun K Q' hK => ?_); go_simp; refine hK _ _ ?_; clear hK K; try clear Q')) | skip
      iterate 1 (refine wpList_plainQ rfl (fun K Q' hK => ?_); go_simp; refine hK _ _ ?_; clear hK K; try clear Q')
      refine wpList_nil ?_
      show Code.wp _ _ _ _ _
      -- stops at: cond
      refine wp_cond_false (rfl) ?_
      refine wp_skip ?_
      show Code.wp _ _ _ _ _
      refine wp_seq ?_
      refine wp_region_lit ?_
      iterate 1 (refine wpList_plainQ rfl (fun K Q' hK => ?_); go_simp; refine hK _ _ ?_; clear hK K; try clear Q')
      -- stops at: eff:call (Go.Op.call {'callee': (Go.Callee.value (Go.Operand.func 7)), 'args': [(Go.Operand.tmp 29)], 'argTypes': [22]}) slot 30
      refine wpList_plainQ rfl (fun K Q' hK => ?_); go_simp
      refine (CInt.of_ok H _ _ xs (by omega) h1.fits hr).mono ?_
      rintro e wB ⟨q, H2, rfl, hp2, hq⟩
      have h2 := h1.call0 hp2
      refine hK _ _ ?_; clear hK K; try clear Q'
      have hr2 := hr.mono hp2.le
      refine wpList_plainQ rfl (fun K Q' hK => ?_); go_simp
      refine h2.k_alloc (fun w3 h3 => ?_)
      refine hK _ _ ?_; clear hK K; try clear Q'
      iterate 1 (refine wpList_plainQ rfl (fun K Q' hK => ?_); go_simp; refine hK _ _ ?_; clear hK K; try clear Q')
      refine wpList_nil ?_
      show Code.wp _ _ _ _ _
      refine wp_seq ?_
      refine wp_region_lit ?_
      iterate 1 (refine wpList_plainQ rfl (fun K Q' hK => ?_); go_simp; refine hK _ _ ?_; clear hK K; try clear Q')
      refine wpList_plainQ rfl (fun K Q' hK => ?_); go_simp
      refine h3.k_alloc (fun w4 h4 => ?_)
      refine hK _ _ ?_; clear hK K; try clear Q'
      iterate 1 (refine wpList_plainQ rfl (fun K Q' hK => ?_); go_simp; refine hK _ _ ?_; clear hK K; try clear Q')
      refine wpList_nil ?_
      show Code.wp _ _ _ _ _
      refine wp_seq ?_
      refine wp_seq ?_
      refine wp_region_lit ?_
      iterate 1 (refine wpList_plainQ rfl (fun K Q' hK => ?_); go_simp; refine hK _ _ ?_; clear hK K; try clear Q')
      refine wpList_nil ?_
      show Code.wp _ _ _ _ _
      refine wp_block ?_
      -- stops at: loop
      have hR1 := h4.rowOf 0 rfl 1 1 rfl (by unfold maxLen; omega)
      have hR2 := hR1.rowOf 0 rfl 1 1 rfl (by unfold maxLen; omega)
      go_loopw [6, 7, 8] (fun v6 v7 v8 wr => PlayInv w H H2 ls v6 v7 v8 wr) (fun _ _ v8 _ => ls.length - (intOf v8).toNat)
      case atStart =>
        refine ⟨0, [(q, .slice a xs.length cap, xs)], H2, by omega, rfl, rfl, GH.le_refl _, ?_, hR2⟩
        intro p hp
        obtain rfl := List.mem_singleton.1 hp
        exact ⟨hq, hr2, by show xs.length ≤ _; omega⟩
      case round =>
        obtain ⟨k, ps, H3, hk, hpl, rfl, hle, hheld, hs1⟩ := hrel
        obtain ⟨g6, c6, rfl⟩ := hs1.row_some 0 rfl (by have := hpl.out; omega)
        obtain ⟨g7, c7, rfl⟩ := hs1.row_some 1 rfl (by have := hpl.out; omega)
        by_cases hlt : k < ls.length
        · obtain ⟨bl, ol, _, e1, _⟩ := hs.ne_nil (by omega)
          simp only [Value.slice.injEq, true_and] at e1
          obtain ⟨rfl, rfl⟩ := e1
          have hg : ls[k]? = some ls[k] := by simp [hlt]
          obtain ⟨⟨kd, ta, tt, x⟩, hpl2⟩ : ∃ pl, Hid (ls[k] = pl) := ⟨ls[k], show _ = _ from rfl⟩
          rw [hpl2.out] at hg
          have hpk := hok _ (List.mem_of_getElem? hg)
          obtain ⟨hkd, hta, htt, hxm⟩ := hpk
          simp only at hkd hta htt hxm
          have cl4 : Hid (∀ i z, i < 4 → (Play.cells ⟨kd, ta, tt, x⟩)[i]? = some z → ∀ W', Fits W' H → W'.cell? ⟨bl, ol + k * 4 + i, none⟩ = some z) := fun i z hi hu W' hF => by
            rw [Nat.add_assoc]; exact hs.cell hF (k * 4 + i) (by rw [flatMap_cells_get ls k _ hg i hi]; exact hu)
          have eta : IntKind.i64.wrap (ta : Int) = (ta : Int) := IntWalk.i64_in _ (by omega)
          have ett : IntKind.i64.wrap (tt : Int) = (tt : Int) := IntWalk.i64_in _ (by omega)
          have hp0 : 0 < ps.length := by have := hpl.out; omega
          have hp20 : ps.length ≤ 21 := by have := hpl.out; omega
          have hne : ¬ ps = [] := by rintro rfl; simp at hp0
          obtain ⟨ia, hia, hil⟩ : ∃ ia : Nat, (ta : Int).tmod (ps.length : Int) = (ia : Int) ∧ ia < ps.length := ⟨ta % ps.length, rfl, Nat.mod_lt _ hp0⟩
          obtain ⟨it, hit, hitl⟩ : ∃ it : Nat, (tt : Int).tmod (ps.length : Int) = (it : Int) ∧ it < ps.length := ⟨tt % ps.length, rfl, Nat.mod_lt _ hp0⟩
          obtain ⟨⟨qa, va, xa⟩, hpa⟩ : ∃ p, ps[ia]? = some p := ⟨ps[ia], by simp [hil]⟩
          obtain ⟨⟨qb, vb, xb⟩, hpb⟩ : ∃ p, ps[it]? = some p := ⟨ps[it], by simp [hitl]⟩
          obtain ⟨hqa, hva, hxa⟩ := hheld _ (List.mem_of_getElem? hpa)
          obtain ⟨hqb, hvb, hxb⟩ := hheld _ (List.mem_of_getElem? hpb)
          simp only at hqa hva hxa hqb hvb hxb
          have ga : (ps.map (fun p => Value.pointer p.1))[ia]? = some (.pointer qa) := by simp [hpa]
          have gb : (ps.map (fun p => Value.pointer p.1))[it]? = some (.pointer qb) := by simp [hpb]
          have ga2 : (ps.map (fun p => p.2.1))[ia]? = some va := by simp [hpa]
          have gb2 : (ps.map (fun p => p.2.1))[it]? = some vb := by simp [hpb]
          obtain ⟨aa, capa, rfl, _, _⟩ := hva.nil_or
          obtain ⟨ab, capb, rfl, _, _⟩ := hvb.nil_or
          refine wp_seq ?_
          refine wp_seq ?_
          refine wp_region_lit ?_
          iterate 4 (refine wpList_plainQ rfl (fun K Q' hK => ?_); go_simp; refine hK _ _ ?_; clear hK K; try clear Q')
          refine wpList_nil ?_
          show Code.wp _ _ _ _ _
          -- stops at: cond
          refine wp_cond_true (rfl) ?_
          refine wp_skip ?_
          show Code.wp _ _ _ _ _
          refine wp_seq ?_
          refine wp_block ?_
          refine wp_seq ?_
          refine wp_region_lit ?_
          iterate 5 (refine wpList_plainQ rfl (fun K Q' hK => ?_); go_simp; refine hK _ _ ?_; clear hK K; try clear Q')
          -- stops at: load (Go.Op.load 5 (Go.Operand.tmp 44)) slot 45
          have ce := cl4.out 1 _ (by omega) rfl _ (hs1.fits.le hs1.le)
          iterate 1 (refine wpList_plainQ rfl (fun K Q' hK => ?_); go_simp; refine hK _ _ ?_; clear hK K; try clear Q')
          iterate 5 (refine wpList_plainQ rfl (fun K Q' hK => ?_); go_simp; refine hK _ _ ?_; clear hK K; try clear Q')
          -- stops at: load (Go.Op.load 26 (Go.Operand.tmp 50)) slot 51
          have ce := hs1.rowcell 0 rfl ia ga
          iterate 1 (refine wpList_plainQ rfl (fun K Q' hK => ?_); go_simp; refine hK _ _ ?_; clear hK K; try clear Q')
          refine wpList_plainQ rfl (fun K Q' hK => ?_); go_simp
          refine hs1.k_alloc (fun w5 h5 => ?_)
          refine hK _ _ ?_; clear hK K; try clear Q'
          have c_0 := h5.cell 0 rfl 0 rfl
          have f_0 := h5.free 0 rfl 0
          refine wpList_plainQ rfl (fun K Q' hK => ?_); go_simp
          clear c_0 f_0
          refine h5.k_set 0 rfl (fun w6 h6 => ?_)
          refine hK _ _ ?_; clear hK K; try clear Q'
          refine wpList_nil ?_
          show Code.wp _ _ _ _ _
          refine wp_seq ?_
          refine wp_region_lit ?_
          iterate 5 (refine wpList_plainQ rfl (fun K Q' hK => ?_); go_simp; refine hK _ _ ?_; clear hK K; try clear Q')
          -- stops at: load (Go.Op.load 5 (Go.Operand.tmp 56)) slot 57
          have ce := cl4.out 2 _ (by omega) rfl _ (h6.fits.le h6.le)
          iterate 1 (refine wpList_plainQ rfl (fun K Q' hK => ?_); go_simp; refine hK _ _ ?_; clear hK K; try clear Q')
          iterate 5 (refine wpList_plainQ rfl (fun K Q' hK => ?_); go_simp; refine hK _ _ ?_; clear hK K; try clear Q')
          -- stops at: load (Go.Op.load 26 (Go.Operand.tmp 62)) slot 63
          have ce := h6.rowcell 0 rfl it gb
          iterate 1 (refine wpList_plainQ rfl (fun K Q' hK => ?_); go_simp; refine hK _ _ ?_; clear hK K; try clear Q')
          refine wpList_plainQ rfl (fun K Q' hK => ?_); go_simp
          refine h6.k_alloc (fun w7 h7 => ?_)
          refine hK _ _ ?_; clear hK K; try clear Q'
          have c_0 := h7.cell 1 rfl 0 rfl
          have f_0 := h7.free 1 rfl 0
          refine wpList_plainQ rfl (fun K Q' hK => ?_); go_simp
          clear c_0 f_0
          refine h7.k_set 1 rfl (fun w8 h8 => ?_)
          refine hK _ _ ?_; clear hK K; try clear Q'
          refine wpList_nil ?_
          show Code.wp _ _ _ _ _
          refine wp_seq ?_
          refine wp_region_lit ?_
          iterate 5 (refine wpList_plainQ rfl (fun K Q' hK => ?_); go_simp; refine hK _ _ ?_; clear hK K; try clear Q')
          -- stops at: load (Go.Op.load 5 (Go.Operand.tmp 68)) slot 69
          have ce := cl4.out 1 _ (by omega) rfl _ (h8.fits.le h8.le)
          iterate 1 (refine wpList_plainQ rfl (fun K Q' hK => ?_); go_simp; refine hK _ _ ?_; clear hK K; try clear Q')
          iterate 5 (refine wpList_plainQ rfl (fun K Q' hK => ?_); go_simp; refine hK _ _ ?_; clear hK K; try clear Q')
          -- stops at: load (Go.Op.load 22 (Go.Operand.tmp 74)) slot 75
          have ce := h8.rowcell 1 rfl ia ga2
          iterate 1 (refine wpList_plainQ rfl (fun K Q' hK => ?_); go_simp; refine hK _ _ ?_; clear hK K; try clear Q')
          iterate 1 (refine wpList_plainQ rfl (fun K Q' hK => ?_); go_simp; refine hK _ _ ?_; clear hK K; try clear Q')
          refine wpList_nil ?_
          show Code.wp _ _ _ _ _
          refine wp_seq ?_
          refine wp_region_lit ?_
          iterate 5 (refine wpList_plainQ rfl (fun K Q' hK => ?_); go_simp; refine hK _ _ ?_; clear hK K; try clear Q')
          -- stops at: load (Go.Op.load 5 (Go.Operand.tmp 80)) slot 81
          have ce := cl4.out 2 _ (by omega) rfl _ (h8.fits.le h8.le)
          iterate 1 (refine wpList_plainQ rfl (fun K Q' hK => ?_); go_simp; refine hK _ _ ?_; clear hK K; try clear Q')
          iterate 5 (refine wpList_plainQ rfl (fun K Q' hK => ?_); go_simp; refine hK _ _ ?_; clear hK K; try clear Q')
          -- stops at: load (Go.Op.load 22 (Go.Operand.tmp 86)) slot 87
          have ce := h8.rowcell 1 rfl it gb2
          iterate 1 (refine wpList_plainQ rfl (fun K Q' hK => ?_); go_simp; refine hK _ _ ?_; clear hK K; try clear Q')
          iterate 1 (refine wpList_plainQ rfl (fun K Q' hK => ?_); go_simp; refine hK _ _ ?_; clear hK K; try clear Q')
          refine wpList_nil ?_
          show Code.wp _ _ _ _ _
          refine wp_seq ?_
          refine wp_seq ?_
          refine wp_region_lit ?_
          iterate 4 (refine wpList_plainQ rfl (fun K Q' hK => ?_); go_simp; refine hK _ _ ?_; clear hK K; try clear Q')
          -- stops at: load (Go.Op.load 5 (Go.Operand.tmp 91)) slot 92
          have ce := cl4.out 0 _ (by omega) rfl _ (h8.fits.le h8.le)
          simp only [Nat.add_zero] at ce
          iterate 1 (refine wpList_plainQ rfl (fun K Q' hK => ?_); go_simp; refine hK _ _ ?_; clear hK K; try clear Q')
          refine wpList_nil ?_
          show Code.wp _ _ _ _ _
          refine wp_block ?_
          refine wp_seq ?_
          refine wp_region_lit ?_
          clear ce
          -- ARMS
          have e5 : IntKind.i64.wrap ((k : Int) + 1) = (k : Int) + 1 := IntWalk.i64_in _ (by omega)
          by_cases hk0 : kd = 0
          · subst hk0
            as_aux_lemma =>
            iterate 2 (refine wpList_plainQ rfl (fun K Q' hK => ?_); go_simp; refine hK _ _ ?_; clear hK K; try clear Q')
            refine wpList_nil ?_
            show Code.wp _ _ _ _ _
            -- stops at: cond
            refine wp_cond_true (rfl) ?_
            refine wp_seq ?_
            refine h8.region [1] [(1, true), (2, true), (3, true), (4, true), (5, true), (0, false), (6, false), (7, false)] (by kernel_rfl) (by kernel_rfl) (fun w9 h9 => ?_)
            refine wpOrd_hide (fun _ _ d _ _ h => by cases d <;> exact h) (fun QR hQn hQp => ?_)
            simp only [ordOps, List.map_cons, List.map_nil, List.getD_cons_zero, List.getD_cons_succ]
            iterate 4 (refine wpOrd_quiet (v := ?_) rfl (fun _ _ _ => hQp _ _ _ _ _) ?_ ?_; rotate_left; (intro w' hS; (first | (go_simp; done) | (go_simp; with_reducible rfl))); simp only [Act.put, List.setIfInBounds_toArray, List.set_cons_zero, List.set_cons_succ])
            -- stops at: load (Go.Op.load 3 (Go.Operand.tmp 113)) slot 114
            iterate 1 (refine wpOrd_quiet (v := ?_) rfl (fun _ _ _ => hQp _ _ _ _ _) ?_ ?_; rotate_left; (intro w' hS; have ce := cl4.out 3 _ (by omega) rfl _ (hS.1.le h9.le); (first | (go_simp; done) | (go_simp; with_reducible rfl))); simp only [Act.put, List.setIfInBounds_toArray, List.set_cons_zero, List.set_cons_succ])
            have c_0_0 := h9.cell 0 rfl 0 rfl
            refine wpOrd_effQ rfl (fun K Q' hK => ?_); go_simp
            refine hK _ _ (h9.sat' (GH.le_refl _) [1] (by kernel_rfl)) ?_; clear hK K; try clear Q'
            clear c_0_0
            -- stops at: eff:call (Go.Op.call {'callee': (Go.Callee.value (Go.Operand.func 14)), 'args': [(Go.Operand.tmp 109), (Go.Operand.tmp 114)], 'argTypes': [26, 3]}) slot 115
            refine wpOrd_effQ rfl (fun K Q' hK => ?_); go_simp
            refine (CInt.push_ok H3 _ qa (xa.map (Value.int .i64)) x (by simp; omega) h9.fits hqa).mono ?_
            rintro e wP ⟨q2, H4, rfl, hp4, hq4⟩
            have h10 := h9.call0 hp4
            refine hK _ _ (h10.sat' hp4.le [1] (by kernel_rfl)) ?_; clear hK K; try clear Q'
            have c_0 := h10.cell 0 rfl 0 rfl
            have f_0 := h10.free 0 rfl 0
            refine wpOrd_effQ rfl (fun K Q' hK => ?_); go_simp
            clear c_0 f_0
            refine h10.k_set 0 rfl (fun w11 h11 => ?_)
            refine hK _ _ (h11.sat' hp4.le [1] (by kernel_rfl)) ?_; clear hK K; try clear Q'
            refine wpOrd_nil (hQn _ _ ?_); clear hQn hQp QR
            show Code.wp _ _ _ _ _
            refine wp_region_lit ?_
            iterate 5 (refine wpList_plainQ rfl (fun K Q' hK => ?_); go_simp; refine hK _ _ ?_; clear hK K; try clear Q')
            -- stops at: load (Go.Op.load 3 (Go.Operand.tmp 120)) slot 121
            have ce := cl4.out 3 _ (by omega) rfl _ (h11.fits.le h11.le)
            iterate 1 (refine wpList_plainQ rfl (fun K Q' hK => ?_); go_simp; refine hK _ _ ?_; clear hK K; try clear Q')
            -- stops at: eff:call (Go.Op.call {'callee': (Go.Callee.value (Go.Operand.func 15)), 'args': [(Go.Operand.tmp 116), (Go.Operand.tmp 121)], 'argTypes': [22, 3]}) slot 122
            refine wpList_plainQ rfl (fun K Q' hK => ?_); go_simp
            refine (rpush_ok H4 _ _ xa x (by omega) h11.fits (hva.mono hp4.le)).mono ?_
            rintro e wR ⟨v2, rfl, hpR⟩
            obtain ⟨H5, hR, rR, leR⟩ := (h11.callrow hpR).settleRow 2 rfl
            have rR2 : IntRep H5 v2 (x :: xa) := rR
            obtain ⟨n5, hn5⟩ : ∃ n, Hid (n = (x :: xa).length) := ⟨_, rfl⟩
            obtain ⟨a5, c5, hv5, _, _⟩ := rR2.nil_or
            rw [← hn5.out] at hv5
            subst hv5
            refine hK _ _ ?_; clear hK K; try clear Q'
            iterate 1 (refine wpList_plainQ rfl (fun K Q' hK => ?_); go_simp; refine hK _ _ ?_; clear hK K; try clear Q')
            refine wpList_nil ?_
            show Code.wp _ _ _ _ _
            refine wp_seq ?_
            refine wp_region_lit ?_
            have c_0_0 := hR.cell 0 rfl 0 rfl
            iterate 2 (refine wpList_plainQ rfl (fun K Q' hK => ?_); go_simp; refine hK _ _ ?_; clear hK K; try clear Q')
            clear c_0_0
            refine wpList_plainQ rfl (fun K Q' hK => ?_); go_simp
            refine hR.k_alloc (fun w13 h13 => ?_)
            refine hK _ _ ?_; clear hK K; try clear Q'
            -- stops at: eff:Builtin.append (Go.Op.call {'callee': (Go.Callee.builtin Go.Builtin.append), 'args': [(Go.Operand.tmp 149), (Go.Operand.tmp 151)], 'argTypes': [37, 37]}) slot 152
            refine wpList_plainQ rfl (fun K Q' hK => ?_)
            refine h13.op_append 0 rfl rfl infoL rfl [Value.pointer q2] rfl rfl (fun j u hj => ?_) (by simp [Value.oneCell']) (by omega) (by unfold maxLen; omega) (fun v1 wY hY oY hnY => ?_)
            · match j, hj with
              | 0, hj => exact h13.cell 2 rfl 0 hj
            refine hK _ _ ?_; clear hK K; try clear Q'
            iterate 1 (refine wpList_plainQ rfl (fun K Q' hK => ?_); go_simp; refine hK _ _ ?_; clear hK K; try clear Q')
            refine wpList_nil ?_
            show Code.wp _ _ _ _ _
            refine wp_region_lit ?_
            iterate 2 (refine wpList_plainQ rfl (fun K Q' hK => ?_); go_simp; refine hK _ _ ?_; clear hK K; try clear Q')
            refine wpList_plainQ rfl (fun K Q' hK => ?_); go_simp
            refine hY.k_alloc (fun w14 h14 => ?_)
            refine hK _ _ ?_; clear hK K; try clear Q'
            -- stops at: eff:Builtin.append (Go.Op.call {'callee': (Go.Callee.builtin Go.Builtin.append), 'args': [(Go.Operand.tmp 153), (Go.Operand.tmp 155)], 'argTypes': [38, 38]}) slot 156
            refine wpList_plainQ rfl (fun K Q' hK => ?_)
            refine h14.op_append 1 rfl rfl infoS rfl [Value.slice a5 n5 c5] rfl rfl (fun j u hj => ?_) (by simp [Value.oneCell']) (by omega) (by unfold maxLen; omega) (fun v2 wZ hZ oZ hnZ => ?_)
            · match j, hj with
              | 0, hj => exact h14.cell 3 rfl 0 hj
            refine hK _ _ ?_; clear hK K; try clear Q'
            iterate 1 (refine wpList_plainQ rfl (fun K Q' hK => ?_); go_simp; refine hK _ _ ?_; clear hK K; try clear Q')
            refine wpList_nil ?_
            show Code.wp _ _ _ _ _
            refine wp_region_lit ?_
            iterate 3 (refine wpList_plainQ rfl (fun K Q' hK => ?_); go_simp; refine hK _ _ ?_; clear hK K; try clear Q')
            refine wpList_nil ?_
            -- stops at: end ('roundend',)
            show _ ∧ _
            go_roundw
            case rel =>
              show PlayInv _ _ _ _ _ _ _ _
              unfold PlayInv
              refine ⟨k + 1, ps ++ [(q2, Value.slice a5 n5 c5, x :: xa)], H5, by omega, ?_, by simp, hle.trans (hp4.le.trans leR), (hheld.mono (hp4.le.trans leR) (by omega)).snoc (hq4.mono leR) rR2 (by simp; omega), ?_⟩
              · show (ps ++ [(q2, Value.slice a5 n5 c5, x :: xa)]).length = _
                have := hpl.out
                simp; omega
              · rw [show (ps ++ [(q2, Value.slice a5 n5 c5, x :: xa)]).length = ps.length + 1 by simp, List.map_append, List.map_append]
                exact hZ.take 0
            case measure => simp [intOf]; omega
          by_cases hk1 : kd = 1
          · subst hk1
            as_aux_lemma =>
            iterate 2 (refine wpList_plainQ rfl (fun K Q' hK => ?_); go_simp; refine hK _ _ ?_; clear hK K; try clear Q')
            refine wpList_nil ?_
            show Code.wp _ _ _ _ _
            -- stops at: cond
            refine wp_cond_false (rfl) ?_
            refine wp_seq ?_
            refine wp_region_lit ?_
            iterate 2 (refine wpList_plainQ rfl (fun K Q' hK => ?_); go_simp; refine hK _ _ ?_; clear hK K; try clear Q')
            refine wpList_nil ?_
            show Code.wp _ _ _ _ _
            -- stops at: cond
            refine wp_cond_true (rfl) ?_
            refine wp_seq ?_
            refine wp_region_lit ?_
            have c_0_0 := h8.cell 0 rfl 0 rfl
            iterate 1 (refine wpList_plainQ rfl (fun K Q' hK => ?_); go_simp; refine hK _ _ ?_; clear hK K; try clear Q')
            clear c_0_0
            -- stops at: eff:call (Go.Op.call {'callee': (Go.Callee.value (Go.Operand.func 13)), 'args': [(Go.Operand.tmp 125)], 'argTypes': [26]}) slot 126
            refine wpList_plainQ rfl (fun K Q' hK => ?_); go_simp
            refine (CInt.rest_ok H3 _ qa _ h8.fits hqa).mono ?_
            rintro e wP ⟨q2, rfl, hkP, hq2⟩
            rw [← List.map_tail] at hq2
            have h15 := h8.callk hkP
            refine hK _ _ ?_; clear hK K; try clear Q'
            have c_0 := h15.cell 0 rfl 0 rfl
            have f_0 := h15.free 0 rfl 0
            refine wpList_plainQ rfl (fun K Q' hK => ?_); go_simp
            clear c_0 f_0
            refine h15.k_set 0 rfl (fun w16 h16 => ?_)
            refine hK _ _ ?_; clear hK K; try clear Q'
            refine wpList_nil ?_
            show Code.wp _ _ _ _ _
            refine wp_region_lit ?_
            iterate 1 (refine wpList_plainQ rfl (fun K Q' hK => ?_); go_simp; refine hK _ _ ?_; clear hK K; try clear Q')
            -- stops at: eff:call (Go.Op.call {'callee': (Go.Callee.value (Go.Operand.func 16)), 'args': [(Go.Operand.tmp 127)], 'argTypes': [22]}) slot 128
            refine wpList_plainQ rfl (fun K Q' hK => ?_); go_simp
            refine (rrest_ok H3 _ _ xa h16.fits hva).mono ?_
            rintro e wR ⟨v2, rfl, hkR, rR⟩
            obtain ⟨n5, hn5⟩ : ∃ n, Hid (n = (xa.tail).length) := ⟨_, rfl⟩
            obtain ⟨a5, c5, hv5, _, _⟩ := rR.nil_or
            rw [← hn5.out] at hv5
            subst hv5
            have h17 := h16.callk hkR
            refine hK _ _ ?_; clear hK K; try clear Q'
            iterate 1 (refine wpList_plainQ rfl (fun K Q' hK => ?_); go_simp; refine hK _ _ ?_; clear hK K; try clear Q')
            refine wpList_nil ?_
            show Code.wp _ _ _ _ _
            refine wp_seq ?_
            refine wp_region_lit ?_
            have c_0_0 := h17.cell 0 rfl 0 rfl
            iterate 2 (refine wpList_plainQ rfl (fun K Q' hK => ?_); go_simp; refine hK _ _ ?_; clear hK K; try clear Q')
            clear c_0_0
            refine wpList_plainQ rfl (fun K Q' hK => ?_); go_simp
            refine h17.k_alloc (fun w18 h18 => ?_)
            refine hK _ _ ?_; clear hK K; try clear Q'
            -- stops at: eff:Builtin.append (Go.Op.call {'callee': (Go.Callee.builtin Go.Builtin.append), 'args': [(Go.Operand.tmp 149), (Go.Operand.tmp 151)], 'argTypes': [37, 37]}) slot 152
            refine wpList_plainQ rfl (fun K Q' hK => ?_)
            refine h18.op_append 0 rfl rfl infoL rfl [Value.pointer q2] rfl rfl (fun j u hj => ?_) (by simp [Value.oneCell']) (by omega) (by unfold maxLen; omega) (fun v1 wY hY oY hnY => ?_)
            · match j, hj with
              | 0, hj => exact h18.cell 2 rfl 0 hj
            refine hK _ _ ?_; clear hK K; try clear Q'
            iterate 1 (refine wpList_plainQ rfl (fun K Q' hK => ?_); go_simp; refine hK _ _ ?_; clear hK K; try clear Q')
            refine wpList_nil ?_
            show Code.wp _ _ _ _ _
            refine wp_region_lit ?_
            iterate 2 (refine wpList_plainQ rfl (fun K Q' hK => ?_); go_simp; refine hK _ _ ?_; clear hK K; try clear Q')
            refine wpList_plainQ rfl (fun K Q' hK => ?_); go_simp
            refine hY.k_alloc (fun w19 h19 => ?_)
            refine hK _ _ ?_; clear hK K; try clear Q'
            -- stops at: eff:Builtin.append (Go.Op.call {'callee': (Go.Callee.builtin Go.Builtin.append), 'args': [(Go.Operand.tmp 153), (Go.Operand.tmp 155)], 'argTypes': [38, 38]}) slot 156
            refine wpList_plainQ rfl (fun K Q' hK => ?_)
            refine h19.op_append 1 rfl rfl infoS rfl [Value.slice a5 n5 c5] rfl rfl (fun j u hj => ?_) (by simp [Value.oneCell']) (by omega) (by unfold maxLen; omega) (fun v2 wZ hZ oZ hnZ => ?_)
            · match j, hj with
              | 0, hj => exact h19.cell 3 rfl 0 hj
            refine hK _ _ ?_; clear hK K; try clear Q'
            iterate 1 (refine wpList_plainQ rfl (fun K Q' hK => ?_); go_simp; refine hK _ _ ?_; clear hK K; try clear Q')
            refine wpList_nil ?_
            show Code.wp _ _ _ _ _
            refine wp_region_lit ?_
            iterate 3 (refine wpList_plainQ rfl (fun K Q' hK => ?_); go_simp; refine hK _ _ ?_; clear hK K; try clear Q')
            refine wpList_nil ?_
            -- stops at: end ('roundend',)
            show _ ∧ _
            go_roundw
            case rel =>
              show PlayInv _ _ _ _ _ _ _ _
              unfold PlayInv
              refine ⟨k + 1, ps ++ [(q2, Value.slice a5 n5 c5, xa.tail)], H3, by omega, ?_, by simp, hle.trans (GH.le_refl _), (hheld.mono (GH.le_refl _) (by omega)).snoc hq2 rR (by simp; omega), ?_⟩
              · show (ps ++ [(q2, Value.slice a5 n5 c5, xa.tail)]).length = _
                have := hpl.out
                simp; omega
              · rw [show (ps ++ [(q2, Value.slice a5 n5 c5, xa.tail)]).length = ps.length + 1 by simp, List.map_append, List.map_append]
                exact hZ.take 0
            case measure => simp [intOf]; omega
          by_cases hk2 : kd = 2
          · subst hk2
            as_aux_lemma =>
            iterate 2 (refine wpList_plainQ rfl (fun K Q' hK => ?_); go_simp; refine hK _ _ ?_; clear hK K; try clear Q')
            refine wpList_nil ?_
            show Code.wp _ _ _ _ _
            -- stops at: cond
            refine wp_cond_false (rfl) ?_
            refine wp_seq ?_
            refine wp_region_lit ?_
            iterate 2 (refine wpList_plainQ rfl (fun K Q' hK => ?_); go_simp; refine hK _ _ ?_; clear hK K; try clear Q')
            refine wpList_nil ?_
            show Code.wp _ _ _ _ _
            -- stops at: cond
            refine wp_cond_false (rfl) ?_
            refine wp_seq ?_
            refine wp_region_lit ?_
            iterate 2 (refine wpList_plainQ rfl (fun K Q' hK => ?_); go_simp; refine hK _ _ ?_; clear hK K; try clear Q')
            refine wpList_nil ?_
            show Code.wp _ _ _ _ _
            -- stops at: cond
            refine wp_cond_true (rfl) ?_
            refine wp_seq ?_
            refine wp_region_lit ?_
            have c_0_0 := h8.cell 0 rfl 0 rfl
            iterate 1 (refine wpList_plainQ rfl (fun K Q' hK => ?_); go_simp; refine hK _ _ ?_; clear hK K; try clear Q')
            clear c_0_0
            -- stops at: eff:call (Go.Op.call {'callee': (Go.Callee.value (Go.Operand.func 17)), 'args': [(Go.Operand.tmp 131)], 'argTypes': [26]}) slot 132
            refine wpList_plainQ rfl (fun K Q' hK => ?_); go_simp
            refine (CInt.rev_ok H3 _ qa xa (by omega) h8.fits hqa).mono ?_
            rintro e wP ⟨q2, H4, rfl, hp4, hq4⟩
            have h20 := h8.call0 hp4
            refine hK _ _ ?_; clear hK K; try clear Q'
            have c_0 := h20.cell 0 rfl 0 rfl
            have f_0 := h20.free 0 rfl 0
            refine wpList_plainQ rfl (fun K Q' hK => ?_); go_simp
            clear c_0 f_0
            refine h20.k_set 0 rfl (fun w21 h21 => ?_)
            refine hK _ _ ?_; clear hK K; try clear Q'
            refine wpList_nil ?_
            show Code.wp _ _ _ _ _
            refine wp_region_lit ?_
            iterate 1 (refine wpList_plainQ rfl (fun K Q' hK => ?_); go_simp; refine hK _ _ ?_; clear hK K; try clear Q')
            -- stops at: eff:call (Go.Op.call {'callee': (Go.Callee.value (Go.Operand.func 18)), 'args': [(Go.Operand.tmp 133)], 'argTypes': [22]}) slot 134
            refine wpList_plainQ rfl (fun K Q' hK => ?_); go_simp
            refine (rrev_ok H4 _ _ xa (by omega) h21.fits (hva.mono hp4.le)).mono ?_
            rintro e wR ⟨v2, rfl, hpR⟩
            obtain ⟨H5, hR, rR, leR⟩ := (h21.callrow hpR).settleRow 2 rfl
            have rR2 : IntRep H5 v2 (xa.reverse) := by unfold IntRep; rw [List.length_reverse]; exact rR
            obtain ⟨n5, hn5⟩ : ∃ n, Hid (n = (xa.reverse).length) := ⟨_, rfl⟩
            obtain ⟨a5, c5, hv5, _, _⟩ := rR2.nil_or
            rw [← hn5.out] at hv5
            subst hv5
            refine hK _ _ ?_; clear hK K; try clear Q'
            iterate 1 (refine wpList_plainQ rfl (fun K Q' hK => ?_); go_simp; refine hK _ _ ?_; clear hK K; try clear Q')
            refine wpList_nil ?_
            show Code.wp _ _ _ _ _
            refine wp_seq ?_
            refine wp_region_lit ?_
            have c_0_0 := hR.cell 0 rfl 0 rfl
            iterate 2 (refine wpList_plainQ rfl (fun K Q' hK => ?_); go_simp; refine hK _ _ ?_; clear hK K; try clear Q')
            clear c_0_0
            refine wpList_plainQ rfl (fun K Q' hK => ?_); go_simp
            refine hR.k_alloc (fun w23 h23 => ?_)
            refine hK _ _ ?_; clear hK K; try clear Q'
            -- stops at: eff:Builtin.append (Go.Op.call {'callee': (Go.Callee.builtin Go.Builtin.append), 'args': [(Go.Operand.tmp 149), (Go.Operand.tmp 151)], 'argTypes': [37, 37]}) slot 152
            refine wpList_plainQ rfl (fun K Q' hK => ?_)
            refine h23.op_append 0 rfl rfl infoL rfl [Value.pointer q2] rfl rfl (fun j u hj => ?_) (by simp [Value.oneCell']) (by omega) (by unfold maxLen; omega) (fun v1 wY hY oY hnY => ?_)
            · match j, hj with
              | 0, hj => exact h23.cell 2 rfl 0 hj
            refine hK _ _ ?_; clear hK K; try clear Q'
            iterate 1 (refine wpList_plainQ rfl (fun K Q' hK => ?_); go_simp; refine hK _ _ ?_; clear hK K; try clear Q')
            refine wpList_nil ?_
            show Code.wp _ _ _ _ _
            refine wp_region_lit ?_
            iterate 2 (refine wpList_plainQ rfl (fun K Q' hK => ?_); go_simp; refine hK _ _ ?_; clear hK K; try clear Q')
            refine wpList_plainQ rfl (fun K Q' hK => ?_); go_simp
            refine hY.k_alloc (fun w24 h24 => ?_)
            refine hK _ _ ?_; clear hK K; try clear Q'
            -- stops at: eff:Builtin.append (Go.Op.call {'callee': (Go.Callee.builtin Go.Builtin.append), 'args': [(Go.Operand.tmp 153), (Go.Operand.tmp 155)], 'argTypes': [38, 38]}) slot 156
            refine wpList_plainQ rfl (fun K Q' hK => ?_)
            refine h24.op_append 1 rfl rfl infoS rfl [Value.slice a5 n5 c5] rfl rfl (fun j u hj => ?_) (by simp [Value.oneCell']) (by omega) (by unfold maxLen; omega) (fun v2 wZ hZ oZ hnZ => ?_)
            · match j, hj with
              | 0, hj => exact h24.cell 3 rfl 0 hj
            refine hK _ _ ?_; clear hK K; try clear Q'
            iterate 1 (refine wpList_plainQ rfl (fun K Q' hK => ?_); go_simp; refine hK _ _ ?_; clear hK K; try clear Q')
            refine wpList_nil ?_
            show Code.wp _ _ _ _ _
            refine wp_region_lit ?_
            iterate 3 (refine wpList_plainQ rfl (fun K Q' hK => ?_); go_simp; refine hK _ _ ?_; clear hK K; try clear Q')
            refine wpList_nil ?_
            -- stops at: end ('roundend',)
            show _ ∧ _
            go_roundw
            case rel =>
              show PlayInv _ _ _ _ _ _ _ _
              unfold PlayInv
              refine ⟨k + 1, ps ++ [(q2, Value.slice a5 n5 c5, xa.reverse)], H5, by omega, ?_, by simp, hle.trans (hp4.le.trans leR), (hheld.mono (hp4.le.trans leR) (by omega)).snoc (hq4.mono leR) rR2 (by simp; omega), ?_⟩
              · show (ps ++ [(q2, Value.slice a5 n5 c5, xa.reverse)]).length = _
                have := hpl.out
                simp; omega
              · rw [show (ps ++ [(q2, Value.slice a5 n5 c5, xa.reverse)]).length = ps.length + 1 by simp, List.map_append, List.map_append]
                exact hZ.take 0
            case measure => simp [intOf]; omega
          by_cases hk3 : kd = 3
          · subst hk3
            as_aux_lemma =>
            have e6 : IntKind.i64.wrap ((xa.length : Int) + (xb.length : Int)) = (xa.length : Int) + (xb.length : Int) := IntWalk.i64_in _ (by omega)
            by_cases hlen : xa.length + xb.length ≤ 200
            · have t3 : decide ((200 : Int) < (xa.length : Int) + (xb.length : Int)) = false := by simp; omega
              iterate 2 (refine wpList_plainQ rfl (fun K Q' hK => ?_); go_simp; refine hK _ _ ?_; clear hK K; try clear Q')
              refine wpList_nil ?_
              show Code.wp _ _ _ _ _
              -- stops at: cond
              refine wp_cond_false (rfl) ?_
              refine wp_seq ?_
              refine wp_region_lit ?_
              iterate 2 (refine wpList_plainQ rfl (fun K Q' hK => ?_); go_simp; refine hK _ _ ?_; clear hK K; try clear Q')
              refine wpList_nil ?_
              show Code.wp _ _ _ _ _
              -- stops at: cond
              refine wp_cond_false (rfl) ?_
              refine wp_seq ?_
              refine wp_region_lit ?_
              iterate 2 (refine wpList_plainQ rfl (fun K Q' hK => ?_); go_simp; refine hK _ _ ?_; clear hK K; try clear Q')
              refine wpList_nil ?_
              show Code.wp _ _ _ _ _
              -- stops at: cond
              refine wp_cond_false (rfl) ?_
              refine wp_seq ?_
              refine wp_region_lit ?_
              iterate 2 (refine wpList_plainQ rfl (fun K Q' hK => ?_); go_simp; refine hK _ _ ?_; clear hK K; try clear Q')
              refine wpList_nil ?_
              show Code.wp _ _ _ _ _
              -- stops at: cond
              refine wp_cond_true (rfl) ?_
              refine wp_seq ?_
              refine wp_seq ?_
              refine wp_region_lit ?_
              iterate 6 (refine wpList_plainQ rfl (fun K Q' hK => ?_); go_simp; refine hK _ _ ?_; clear hK K; try clear Q')
              refine wpList_nil ?_
              show Code.wp _ _ _ _ _
              -- stops at: cond
              refine wp_cond_false (rfl) ?_
              refine wp_skip ?_
              show Code.wp _ _ _ _ _
              refine wp_seq ?_
              refine wp_region_lit ?_
              have c_0_0 := h8.cell 0 rfl 0 rfl
              have c_1_0 := h8.cell 1 rfl 0 rfl
              iterate 2 (refine wpList_plainQ rfl (fun K Q' hK => ?_); go_simp; refine hK _ _ ?_; clear hK K; try clear Q')
              clear c_0_0 c_1_0
              -- stops at: eff:call (Go.Op.call {'callee': (Go.Callee.value (Go.Operand.func 19)), 'args': [(Go.Operand.tmp 143), (Go.Operand.tmp 144)], 'argTypes': [26, 26]}) slot 145
              refine wpList_plainQ rfl (fun K Q' hK => ?_); go_simp
              refine (CInt.join_ok H3 _ qa qb xa xb (by omega) h8.fits hqa hqb).mono ?_
              rintro e wP ⟨q2, H4, rfl, hp4, hq4⟩
              have h25 := h8.call0 hp4
              refine hK _ _ ?_; clear hK K; try clear Q'
              have c_0 := h25.cell 0 rfl 0 rfl
              have f_0 := h25.free 0 rfl 0
              refine wpList_plainQ rfl (fun K Q' hK => ?_); go_simp
              clear c_0 f_0
              refine h25.k_set 0 rfl (fun w26 h26 => ?_)
              refine hK _ _ ?_; clear hK K; try clear Q'
              refine wpList_nil ?_
              show Code.wp _ _ _ _ _
              refine wp_region_lit ?_
              iterate 2 (refine wpList_plainQ rfl (fun K Q' hK => ?_); go_simp; refine hK _ _ ?_; clear hK K; try clear Q')
              -- stops at: eff:call (Go.Op.call {'callee': (Go.Callee.value (Go.Operand.func 20)), 'args': [(Go.Operand.tmp 146), (Go.Operand.tmp 147)], 'argTypes': [22, 22]}) slot 148
              refine wpList_plainQ rfl (fun K Q' hK => ?_); go_simp
              refine (rjoin_ok H4 _ _ _ xa xb (by omega) h26.fits (hva.mono hp4.le) (hvb.mono hp4.le)).mono ?_
              rintro e wR ⟨v2, rfl, hpR⟩
              obtain ⟨H5, hR, rR, leR⟩ := (h26.callrow hpR).settleRow 2 rfl
              have rR2 : IntRep H5 v2 (xa ++ xb) := by unfold IntRep; rw [List.length_append]; exact rR
              obtain ⟨n5, hn5⟩ : ∃ n, Hid (n = (xa ++ xb).length) := ⟨_, rfl⟩
              obtain ⟨a5, c5, hv5, _, _⟩ := rR2.nil_or
              rw [← hn5.out] at hv5
              subst hv5
              refine hK _ _ ?_; clear hK K; try clear Q'
              iterate 1 (refine wpList_plainQ rfl (fun K Q' hK => ?_); go_simp; refine hK _ _ ?_; clear hK K; try clear Q')
              refine wpList_nil ?_
              show Code.wp _ _ _ _ _
              refine wp_seq ?_
              refine wp_region_lit ?_
              have c_0_0 := hR.cell 0 rfl 0 rfl
              iterate 2 (refine wpList_plainQ rfl (fun K Q' hK => ?_); go_simp; refine hK _ _ ?_; clear hK K; try clear Q')
              clear c_0_0
              refine wpList_plainQ rfl (fun K Q' hK => ?_); go_simp
              refine hR.k_alloc (fun w28 h28 => ?_)
              refine hK _ _ ?_; clear hK K; try clear Q'
              -- stops at: eff:Builtin.append (Go.Op.call {'callee': (Go.Callee.builtin Go.Builtin.append), 'args': [(Go.Operand.tmp 149), (Go.Operand.tmp 151)], 'argTypes': [37, 37]}) slot 152
              refine wpList_plainQ rfl (fun K Q' hK => ?_)
              refine h28.op_append 0 rfl rfl infoL rfl [Value.pointer q2] rfl rfl (fun j u hj => ?_) (by simp [Value.oneCell']) (by omega) (by unfold maxLen; omega) (fun v1 wY hY oY hnY => ?_)
              · match j, hj with
                | 0, hj => exact h28.cell 2 rfl 0 hj
              refine hK _ _ ?_; clear hK K; try clear Q'
              iterate 1 (refine wpList_plainQ rfl (fun K Q' hK => ?_); go_simp; refine hK _ _ ?_; clear hK K; try clear Q')
              refine wpList_nil ?_
              show Code.wp _ _ _ _ _
              refine wp_region_lit ?_
              iterate 2 (refine wpList_plainQ rfl (fun K Q' hK => ?_); go_simp; refine hK _ _ ?_; clear hK K; try clear Q')
              refine wpList_plainQ rfl (fun K Q' hK => ?_); go_simp
              refine hY.k_alloc (fun w29 h29 => ?_)
              refine hK _ _ ?_; clear hK K; try clear Q'
              -- stops at: eff:Builtin.append (Go.Op.call {'callee': (Go.Callee.builtin Go.Builtin.append), 'args': [(Go.Operand.tmp 153), (Go.Operand.tmp 155)], 'argTypes': [38, 38]}) slot 156
              refine wpList_plainQ rfl (fun K Q' hK => ?_)
              refine h29.op_append 1 rfl rfl infoS rfl [Value.slice a5 n5 c5] rfl rfl (fun j u hj => ?_) (by simp [Value.oneCell']) (by omega) (by unfold maxLen; omega) (fun v2 wZ hZ oZ hnZ => ?_)
              · match j, hj with
                | 0, hj => exact h29.cell 3 rfl 0 hj
              refine hK _ _ ?_; clear hK K; try clear Q'
              iterate 1 (refine wpList_plainQ rfl (fun K Q' hK => ?_); go_simp; refine hK _ _ ?_; clear hK K; try clear Q')
              refine wpList_nil ?_
              show Code.wp _ _ _ _ _
              refine wp_region_lit ?_
              iterate 3 (refine wpList_plainQ rfl (fun K Q' hK => ?_); go_simp; refine hK _ _ ?_; clear hK K; try clear Q')
              refine wpList_nil ?_
              -- stops at: end ('roundend',)
              show _ ∧ _
              go_roundw
              case rel =>
                show PlayInv _ _ _ _ _ _ _ _
                unfold PlayInv
                refine ⟨k + 1, ps ++ [(q2, Value.slice a5 n5 c5, xa ++ xb)], H5, by omega, ?_, by simp, hle.trans (hp4.le.trans leR), (hheld.mono (hp4.le.trans leR) (by omega)).snoc (hq4.mono leR) rR2 (by simp; omega), ?_⟩
                · show (ps ++ [(q2, Value.slice a5 n5 c5, xa ++ xb)]).length = _
                  have := hpl.out
                  simp; omega
                · rw [show (ps ++ [(q2, Value.slice a5 n5 c5, xa ++ xb)]).length = ps.length + 1 by simp, List.map_append, List.map_append]
                  exact hZ.take 0
              case measure => simp [intOf]; omega
            · have t3 : decide ((200 : Int) < (xa.length : Int) + (xb.length : Int)) = true := by simp; omega
              iterate 2 (refine wpList_plainQ rfl (fun K Q' hK => ?_); go_simp; refine hK _ _ ?_; clear hK K; try clear Q')
              refine wpList_nil ?_
              show Code.wp _ _ _ _ _
              -- stops at: cond
              refine wp_cond_false (rfl) ?_
              refine wp_seq ?_
              refine wp_region_lit ?_
              iterate 2 (refine wpList_plainQ rfl (fun K Q' hK => ?_); go_simp; refine hK _ _ ?_; clear hK K; try clear Q')
              refine wpList_nil ?_
              show Code.wp _ _ _ _ _
              -- stops at: cond
              refine wp_cond_false (rfl) ?_
              refine wp_seq ?_
              refine wp_region_lit ?_
              iterate 2 (refine wpList_plainQ rfl (fun K Q' hK => ?_); go_simp; refine hK _ _ ?_; clear hK K; try clear Q')
              refine wpList_nil ?_
              show Code.wp _ _ _ _ _
              -- stops at: cond
              refine wp_cond_false (rfl) ?_
              refine wp_seq ?_
              refine wp_region_lit ?_
              iterate 2 (refine wpList_plainQ rfl (fun K Q' hK => ?_); go_simp; refine hK _ _ ?_; clear hK K; try clear Q')
              refine wpList_nil ?_
              show Code.wp _ _ _ _ _
              -- stops at: cond
              refine wp_cond_true (rfl) ?_
              refine wp_seq ?_
              refine wp_seq ?_
              refine wp_region_lit ?_
              iterate 6 (refine wpList_plainQ rfl (fun K Q' hK => ?_); go_simp; refine hK _ _ ?_; clear hK K; try clear Q')
              refine wpList_nil ?_
              show Code.wp _ _ _ _ _
              -- stops at: cond
              refine wp_cond_true (rfl) ?_
              refine wp_seq ?_
              refine wp_region_lit ?_
              iterate 1 (refine wpList_plainQ rfl (fun K Q' hK => ?_); go_simp; refine hK _ _ ?_; clear hK K; try clear Q')
              refine wpList_nil ?_
              show Code.wp _ _ _ _ _
              -- stops at: ret
              refine wp_ret ?_
              go_ret
              exact ⟨rfl, h8.post.keep⟩
          as_aux_lemma =>
          have s0 : ((kd : Int) == 0) = false := beq_eq_false_iff_ne.2 (by omega)
          have s1 : ((kd : Int) == 1) = false := beq_eq_false_iff_ne.2 (by omega)
          have s2 : ((kd : Int) == 2) = false := beq_eq_false_iff_ne.2 (by omega)
          have s3 : ((kd : Int) == 3) = false := beq_eq_false_iff_ne.2 (by omega)
          iterate 2 (refine wpList_plainQ rfl (fun K Q' hK => ?_); go_simp; refine hK _ _ ?_; clear hK K; try clear Q')
          refine wpList_nil ?_
          show Code.wp _ _ _ _ _
          -- stops at: cond
          refine wp_cond_false (rfl) ?_
          refine wp_seq ?_
          refine wp_region_lit ?_
          iterate 2 (refine wpList_plainQ rfl (fun K Q' hK => ?_); go_simp; refine hK _ _ ?_; clear hK K; try clear Q')
          refine wpList_nil ?_
          show Code.wp _ _ _ _ _
          -- stops at: cond
          refine wp_cond_false (rfl) ?_
          refine wp_seq ?_
          refine wp_region_lit ?_
          iterate 2 (refine wpList_plainQ rfl (fun K Q' hK => ?_); go_simp; refine hK _ _ ?_; clear hK K; try clear Q')
          refine wpList_nil ?_
          show Code.wp _ _ _ _ _
          -- stops at: cond
          refine wp_cond_false (rfl) ?_
          refine wp_seq ?_
          refine wp_region_lit ?_
          iterate 2 (refine wpList_plainQ rfl (fun K Q' hK => ?_); go_simp; refine hK _ _ ?_; clear hK K; try clear Q')
          refine wpList_nil ?_
          show Code.wp _ _ _ _ _
          -- stops at: cond
          refine wp_cond_false (rfl) ?_
          refine wp_seq ?_
          refine h8.region [1] [(1, true), (2, true), (3, true), (4, true), (5, true), (0, false), (6, false), (7, false)] (by kernel_rfl) (by kernel_rfl) (fun w30 h30 => ?_)
          refine wpOrd_hide (fun _ _ d _ _ h => by cases d <;> exact h) (fun QR hQn hQp => ?_)
          simp only [ordOps, List.map_cons, List.map_nil, List.getD_cons_zero, List.getD_cons_succ]
          iterate 4 (refine wpOrd_quiet (v := ?_) rfl (fun _ _ _ => hQp _ _ _ _ _) ?_ ?_; rotate_left; (intro w' hS; (first | (go_simp; done) | (go_simp; with_reducible rfl))); simp only [Act.put, List.setIfInBounds_toArray, List.set_cons_zero, List.set_cons_succ])
          -- stops at: load (Go.Op.load 3 (Go.Operand.tmp 97)) slot 98
          iterate 1 (refine wpOrd_quiet (v := ?_) rfl (fun _ _ _ => hQp _ _ _ _ _) ?_ ?_; rotate_left; (intro w' hS; have ce := cl4.out 3 _ (by omega) rfl _ (hS.1.le h30.le); (first | (go_simp; done) | (go_simp; with_reducible rfl))); simp only [Act.put, List.setIfInBounds_toArray, List.set_cons_zero, List.set_cons_succ])
          have c_0_0 := h30.cell 0 rfl 0 rfl
          refine wpOrd_effQ rfl (fun K Q' hK => ?_); go_simp
          refine hK _ _ (h30.sat' (GH.le_refl _) [1] (by kernel_rfl)) ?_; clear hK K; try clear Q'
          clear c_0_0
          -- stops at: eff:call (Go.Op.call {'callee': (Go.Callee.value (Go.Operand.func 8)), 'args': [(Go.Operand.tmp 93), (Go.Operand.tmp 98)], 'argTypes': [26, 3]}) slot 99
          refine wpOrd_effQ rfl (fun K Q' hK => ?_); go_simp
          refine (CInt.drop_ok H3 _ qa _ x (show _ ≤ _ by omega) h30.fits hqa).mono ?_
          rintro e wP ⟨q2, rfl, hkP, hq2⟩
          rw [← List.map_drop] at hq2
          have h31 := h30.callk hkP
          refine hK _ _ (h31.sat' (GH.le_refl _) [1] (by kernel_rfl)) ?_; clear hK K; try clear Q'
          have c_0 := h31.cell 0 rfl 0 rfl
          have f_0 := h31.free 0 rfl 0
          refine wpOrd_effQ rfl (fun K Q' hK => ?_); go_simp
          clear c_0 f_0
          refine h31.k_set 0 rfl (fun w32 h32 => ?_)
          refine hK _ _ (h32.sat' (GH.le_refl _) [1] (by kernel_rfl)) ?_; clear hK K; try clear Q'
          refine wpOrd_nil (hQn _ _ ?_); clear hQn hQp QR
          show Code.wp _ _ _ _ _
          refine wp_region_lit ?_
          iterate 5 (refine wpList_plainQ rfl (fun K Q' hK => ?_); go_simp; refine hK _ _ ?_; clear hK K; try clear Q')
          -- stops at: load (Go.Op.load 3 (Go.Operand.tmp 104)) slot 105
          have ce := cl4.out 3 _ (by omega) rfl _ (h32.fits.le h32.le)
          iterate 1 (refine wpList_plainQ rfl (fun K Q' hK => ?_); go_simp; refine hK _ _ ?_; clear hK K; try clear Q')
          -- stops at: eff:call (Go.Op.call {'callee': (Go.Callee.value (Go.Operand.func 21)), 'args': [(Go.Operand.tmp 100), (Go.Operand.tmp 105)], 'argTypes': [22, 3]}) slot 106
          refine wpList_plainQ rfl (fun K Q' hK => ?_); go_simp
          refine (rdrop_ok H3 _ _ xa x h32.fits hva).mono ?_
          rintro e wR ⟨v2, rfl, hkR, rR⟩
          obtain ⟨n5, hn5⟩ : ∃ n, Hid (n = (xa.drop x.toNat).length) := ⟨_, rfl⟩
          obtain ⟨a5, c5, hv5, _, _⟩ := rR.nil_or
          rw [← hn5.out] at hv5
          subst hv5
          have h33 := h32.callk hkR
          refine hK _ _ ?_; clear hK K; try clear Q'
          iterate 1 (refine wpList_plainQ rfl (fun K Q' hK => ?_); go_simp; refine hK _ _ ?_; clear hK K; try clear Q')
          refine wpList_nil ?_
          show Code.wp _ _ _ _ _
          refine wp_seq ?_
          refine wp_region_lit ?_
          have c_0_0 := h33.cell 0 rfl 0 rfl
          iterate 2 (refine wpList_plainQ rfl (fun K Q' hK => ?_); go_simp; refine hK _ _ ?_; clear hK K; try clear Q')
          clear c_0_0
          refine wpList_plainQ rfl (fun K Q' hK => ?_); go_simp
          refine h33.k_alloc (fun w34 h34 => ?_)
          refine hK _ _ ?_; clear hK K; try clear Q'
          -- stops at: eff:Builtin.append (Go.Op.call {'callee': (Go.Callee.builtin Go.Builtin.append), 'args': [(Go.Operand.tmp 149), (Go.Operand.tmp 151)], 'argTypes': [37, 37]}) slot 152
          refine wpList_plainQ rfl (fun K Q' hK => ?_)
          refine h34.op_append 0 rfl rfl infoL rfl [Value.pointer q2] rfl rfl (fun j u hj => ?_) (by simp [Value.oneCell']) (by omega) (by unfold maxLen; omega) (fun v1 wY hY oY hnY => ?_)
          · match j, hj with
            | 0, hj => exact h34.cell 2 rfl 0 hj
          refine hK _ _ ?_; clear hK K; try clear Q'
          iterate 1 (refine wpList_plainQ rfl (fun K Q' hK => ?_); go_simp; refine hK _ _ ?_; clear hK K; try clear Q')
          refine wpList_nil ?_
          show Code.wp _ _ _ _ _
          refine wp_region_lit ?_
          iterate 2 (refine wpList_plainQ rfl (fun K Q' hK => ?_); go_simp; refine hK _ _ ?_; clear hK K; try clear Q')
          refine wpList_plainQ rfl (fun K Q' hK => ?_); go_simp
          refine hY.k_alloc (fun w35 h35 => ?_)
          refine hK _ _ ?_; clear hK K; try clear Q'
          -- stops at: eff:Builtin.append (Go.Op.call {'callee': (Go.Callee.builtin Go.Builtin.append), 'args': [(Go.Operand.tmp 153), (Go.Operand.tmp 155)], 'argTypes': [38, 38]}) slot 156
          refine wpList_plainQ rfl (fun K Q' hK => ?_)
          refine h35.op_append 1 rfl rfl infoS rfl [Value.slice a5 n5 c5] rfl rfl (fun j u hj => ?_) (by simp [Value.oneCell']) (by omega) (by unfold maxLen; omega) (fun v2 wZ hZ oZ hnZ => ?_)
          · match j, hj with
            | 0, hj => exact h35.cell 3 rfl 0 hj
          refine hK _ _ ?_; clear hK K; try clear Q'
          iterate 1 (refine wpList_plainQ rfl (fun K Q' hK => ?_); go_simp; refine hK _ _ ?_; clear hK K; try clear Q')
          refine wpList_nil ?_
          show Code.wp _ _ _ _ _
          refine wp_region_lit ?_
          iterate 3 (refine wpList_plainQ rfl (fun K Q' hK => ?_); go_simp; refine hK _ _ ?_; clear hK K; try clear Q')
          refine wpList_nil ?_
          -- stops at: end ('roundend',)
          show _ ∧ _
          go_roundw
          case rel =>
            show PlayInv _ _ _ _ _ _ _ _
            unfold PlayInv
            refine ⟨k + 1, ps ++ [(q2, Value.slice a5 n5 c5, xa.drop x.toNat)], H3, by omega, ?_, by simp, hle.trans (GH.le_refl _), (hheld.mono (GH.le_refl _) (by omega)).snoc hq2 rR (by simp; omega), ?_⟩
            · show (ps ++ [(q2, Value.slice a5 n5 c5, xa.drop x.toNat)]).length = _
              have := hpl.out
              simp; omega
            · rw [show (ps ++ [(q2, Value.slice a5 n5 c5, xa.drop x.toNat)]).length = ps.length + 1 by simp, List.map_append, List.map_append]
              exact hZ.take 0
          case measure => simp [intOf]; omega
          -- END ARMS
        -- LOOP2
        · skip
          as_aux_lemma =>
          obtain rfl : k = ls.length := by omega
          refine wp_seq ?_
          refine wp_seq ?_
          refine wp_region_lit ?_
          iterate 4 (refine wpList_plainQ rfl (fun K Q' hK => ?_); go_simp; refine hK _ _ ?_; clear hK K; try clear Q')
          refine wpList_nil ?_
          show Code.wp _ _ _ _ _
          -- stops at: cond
          refine wp_cond_false (rfl) ?_
          obtain ⟨H6, h6, rA, leA⟩ := hs1.settleRow 0 rfl
          obtain ⟨H7, h7', rB, leB⟩ := h6.settleRow 0 rfl
          have rA7 := rA.mono leB
          have held7 := hheld.mono (leA.trans leB) (Nat.le_refl _)
          have hp20 : ps.length ≤ 21 := by have := hpl.out; omega
          clear hlt
          refine wp_exit ?_
          show Code.wp _ _ _ _ _
          refine wp_seq ?_
          refine wp_seq ?_
          refine wp_region_lit ?_
          iterate 1 (refine wpList_plainQ rfl (fun K Q' hK => ?_); go_simp; refine hK _ _ ?_; clear hK K; try clear Q')
          refine wpList_nil ?_
          show Code.wp _ _ _ _ _
          refine wp_block ?_
          -- stops at: loop
          go_loopw [13] (fun v13 wr => PlayInv2 w H H7 ps.length v13 wr) (fun v13 _ => ps.length - (intOf v13).toNat)
          case atStart =>
            show PlayInv2 _ _ _ _ _ _
            unfold PlayInv2
            exact ⟨0, H7, by omega, rfl, GH.le_refl _, h7'⟩
          case round =>
            obtain ⟨j, H8, hj, rfl, hle8, hs2⟩ := hrel
            by_cases hlt2 : j < ps.length
            · obtain ⟨⟨qa, va, xa⟩, hpa⟩ : ∃ p, ps[j]? = some p := ⟨ps[j], by simp [hlt2]⟩
              obtain ⟨hqa7, hva7, hxa⟩ := held7 _ (List.mem_of_getElem? hpa)
              simp only at hqa7 hva7 hxa
              have hqa := hqa7.mono hle8
              have hva : IntRep H8 va xa := hva7.mono hle8
              have ga : (ps.map (fun p => Value.pointer p.1))[j]? = some (.pointer qa) := by simp [hpa]
              have ga2 : (ps.map (fun p => p.2.1))[j]? = some va := by simp [hpa]
              obtain ⟨aa, capa, rfl, _, _⟩ := hva.nil_or
              have hj21 : j < 21 := by omega
              have e5 : IntKind.i64.wrap ((j : Int) + 1) = (j : Int) + 1 := IntWalk.i64_in _ (by omega)
              have cA : Hid (∀ W', Fits W' H7 → W'.cell? ⟨g6, j, none⟩ = some (.pointer qa)) := fun W' hF => by simpa using rA7.cell hF j ga
              have cB : Hid (∀ W', Fits W' H7 → W'.cell? ⟨g7, j, none⟩ = some (.slice aa xa.length capa)) := fun W' hF => by simpa using rB.cell hF j ga2
              by_cases hx0 : xa.length = 0
              · skip
                as_aux_lemma =>
                have d0 : decide (0 < xa.length) = false := decide_eq_false (by omega)
                have hxy : Hid (xa = []) := List.eq_nil_of_length_eq_zero (by omega)
                obtain rfl : qa = none := by have := hqa; rw [hxy.out] at this; cases this; rfl
                clear hx0
                have t1 : ((xa.length : Int) != (xa.length : Int)) = false := by simp
                refine wp_seq ?_
                refine wp_seq ?_
                refine wp_region_lit ?_
                iterate 4 (refine wpList_plainQ rfl (fun K Q' hK => ?_); go_simp; refine hK _ _ ?_; clear hK K; try clear Q')
                refine wpList_nil ?_
                show Code.wp _ _ _ _ _
                -- stops at: cond
                refine wp_cond_true (rfl) ?_
                refine wp_skip ?_
                show Code.wp _ _ _ _ _
                refine wp_seq ?_
                refine wp_block ?_
                refine wp_seq ?_
                refine wp_region_lit ?_
                iterate 3 (refine wpList_plainQ rfl (fun K Q' hK => ?_); go_simp; refine hK _ _ ?_; clear hK K; try clear Q')
                -- stops at: load (Go.Op.load 26 (Go.Operand.tmp 166)) slot 167
                have ce := cA.out _ (hs2.fits.le hle8)
                iterate 1 (refine wpList_plainQ rfl (fun K Q' hK => ?_); go_simp; refine hK _ _ ?_; clear hK K; try clear Q')
                -- stops at: eff:call (Go.Op.call {'callee': (Go.Callee.value (Go.Operand.func 12)), 'args': [(Go.Operand.tmp 167)], 'argTypes': [26]}) slot 168
                refine wpList_plainQ rfl (fun K Q' hK => ?_); go_simp
                refine (CInt.first_nil H8 _ hs2.fits).mono ?_
                rintro e wC ⟨rfl, hkC⟩
                have h36 := hs2.callk hkC
                refine hK _ _ ?_; clear hK K; try clear Q'
                iterate 5 (refine wpList_plainQ rfl (fun K Q' hK => ?_); go_simp; refine hK _ _ ?_; clear hK K; try clear Q')
                refine wpList_nil ?_
                show Code.wp _ _ _ _ _
                refine wp_seq ?_
                refine wp_seq ?_
                refine h36.region [] [(0, true), (1, true), (2, true), (3, true), (5, true), (6, true), (7, true), (8, true), (4, false), (9, false), (10, true), (11, true), (12, true), (13, true), (14, true), (15, true), (17, true), (18, true), (19, true), (20, true), (21, true), (16, false), (22, true), (23, true), (24, true), (25, true), (26, true), (27, true), (28, true), (29, true), (30, true), (31, true), (32, true), (33, true), (34, true), (35, true), (36, true), (37, true), (38, true), (39, true), (40, true), (41, true), (42, true), (43, true), (44, true), (45, true), (46, true), (47, true), (48, true), (49, true), (50, true), (51, true), (52, true), (53, true), (54, true)] (by kernel_rfl) (by kernel_rfl) (fun w37 h37 => ?_)
                refine wpOrd_hide (fun _ _ d _ _ h => by cases d <;> exact h) (fun QR hQn hQp => ?_)
                simp only [ordOps, List.map_cons, List.map_nil, List.getD_cons_zero, List.getD_cons_succ]
                iterate 3 (refine wpOrd_quiet (v := ?_) rfl (fun _ _ _ => hQp _ _ _ _ _) ?_ ?_; rotate_left; (intro w' hS; (first | (go_simp; done) | (go_simp; with_reducible rfl))); simp only [Act.put, List.setIfInBounds_toArray, List.set_cons_zero, List.set_cons_succ])
                -- stops at: load (Go.Op.load 26 (Go.Operand.tmp 173)) slot 174
                iterate 1 (refine wpOrd_quiet (v := ?_) rfl (fun _ _ _ => hQp _ _ _ _ _) ?_ ?_; rotate_left; (intro w' hS; have ce := cA.out _ (hS.1.le hle8); (first | (go_simp; done) | (go_simp; with_reducible rfl))); simp only [Act.put, List.setIfInBounds_toArray, List.set_cons_zero, List.set_cons_succ])
                iterate 3 (refine wpOrd_quiet (v := ?_) rfl (fun _ _ _ => hQp _ _ _ _ _) ?_ ?_; rotate_left; (intro w' hS; (first | (go_simp; done) | (go_simp; with_reducible rfl))); simp only [Act.put, List.setIfInBounds_toArray, List.set_cons_zero, List.set_cons_succ])
                -- stops at: load (Go.Op.load 22 (Go.Operand.tmp 178)) slot 179
                iterate 1 (refine wpOrd_quiet (v := ?_) rfl (fun _ _ _ => hQp _ _ _ _ _) ?_ ?_; rotate_left; (intro w' hS; have ce := cB.out _ (hS.1.le hle8); (first | (go_simp; done) | (go_simp; with_reducible rfl))); simp only [Act.put, List.setIfInBounds_toArray, List.set_cons_zero, List.set_cons_succ])
                -- stops at: eff:call (Go.Op.call {'callee': (Go.Callee.value (Go.Operand.func 10)), 'args': [(Go.Operand.tmp 174)], 'argTypes': [26]}) slot 175
                refine wpOrd_effQ rfl (fun K Q' hK => ?_); go_simp
                refine (CInt.all_ok H8 _ _ xa (by omega) h37.fits hqa).mono ?_
                rintro e wG ⟨v3, rfl, hp5⟩
                obtain ⟨H9, hG, rG, leG⟩ := (h37.callrow hp5).settleRow 0 rfl
                refine hK _ _ (hG.sat' leG [] (by kernel_rfl)) ?_; clear hK K; try clear Q'
                -- stops at: eff:call (Go.Op.call {'callee': (Go.Callee.value (Go.Operand.func 9)), 'args': [(Go.Operand.tmp 175), (Go.Operand.tmp 179)], 'argTypes': [22, 22]}) slot 180
                refine wpOrd_effQ rfl (fun K Q' hK => ?_); go_simp
                refine (same_ok H9 _ _ _ xa xa (by omega) (by omega) hG.fits rG (hva.mono leG)).mono ?_
                rintro e wJ ⟨rfl, hkJ⟩
                simp only [decide_true]
                have h39 := hG.callk hkJ
                refine hK _ _ (h39.sat' leG [] (by kernel_rfl)) ?_; clear hK K; try clear Q'
                iterate 2 (refine wpOrd_quiet (v := ?_) rfl (fun _ _ _ => hQp _ _ _ _ _) ?_ ?_; rotate_left; (intro w' hS; (first | (go_simp; done) | (go_simp; with_reducible rfl))); simp only [Act.put, List.setIfInBounds_toArray, List.set_cons_zero, List.set_cons_succ])
                iterate 3 (first | (refine wpOrd_skip rfl (fun _ _ _ => hQp _ _ _ _ _) ?_; simp only [Act.put, List.setIfInBounds_toArray, List.set_cons_zero, List.set_cons_succ]) | (refine wpOrd_quiet (v := ?_) rfl (fun _ _ _ => hQp _ _ _ _ _) ?_ ?_; rotate_left; (intro w' hS; (first | (go_simp; done) | (go_simp; with_reducible rfl))); simp only [Act.put, List.setIfInBounds_toArray, List.set_cons_zero, List.set_cons_succ]))
                -- stops at: load (Go.Op.load 26 (Go.Operand.tmp 185)) slot 186
                iterate 1 (first | (refine wpOrd_skip rfl (fun _ _ _ => hQp _ _ _ _ _) ?_; simp only [Act.put, List.setIfInBounds_toArray, List.set_cons_zero, List.set_cons_succ]) | (refine wpOrd_quiet (v := ?_) rfl (fun _ _ _ => hQp _ _ _ _ _) ?_ ?_; rotate_left; (intro w' hS; have ce := cA.out _ (hS.1.le hle8); (first | (go_simp; done) | (go_simp; with_reducible rfl))); simp only [Act.put, List.setIfInBounds_toArray, List.set_cons_zero, List.set_cons_succ]))
                iterate 3 (first | (refine wpOrd_skip rfl (fun _ _ _ => hQp _ _ _ _ _) ?_; simp only [Act.put, List.setIfInBounds_toArray, List.set_cons_zero, List.set_cons_succ]) | (refine wpOrd_quiet (v := ?_) rfl (fun _ _ _ => hQp _ _ _ _ _) ?_ ?_; rotate_left; (intro w' hS; (first | (go_simp; done) | (go_simp; with_reducible rfl))); simp only [Act.put, List.setIfInBounds_toArray, List.set_cons_zero, List.set_cons_succ]))
                -- stops at: load (Go.Op.load 22 (Go.Operand.tmp 190)) slot 191
                iterate 1 (first | (refine wpOrd_skip rfl (fun _ _ _ => hQp _ _ _ _ _) ?_; simp only [Act.put, List.setIfInBounds_toArray, List.set_cons_zero, List.set_cons_succ]) | (refine wpOrd_quiet (v := ?_) rfl (fun _ _ _ => hQp _ _ _ _ _) ?_ ?_; rotate_left; (intro w' hS; have ce := cB.out _ (hS.1.le hle8); (first | (go_simp; done) | (go_simp; with_reducible rfl))); simp only [Act.put, List.setIfInBounds_toArray, List.set_cons_zero, List.set_cons_succ]))
                iterate 1 (first | (refine wpOrd_skip rfl (fun _ _ _ => hQp _ _ _ _ _) ?_; simp only [Act.put, List.setIfInBounds_toArray, List.set_cons_zero, List.set_cons_succ]) | (refine wpOrd_quiet (v := ?_) rfl (fun _ _ _ => hQp _ _ _ _ _) ?_ ?_; rotate_left; (intro w' hS; (first | (go_simp; done) | (go_simp; with_reducible rfl))); simp only [Act.put, List.setIfInBounds_toArray, List.set_cons_zero, List.set_cons_succ]))
                -- stops at: eff:call (Go.Op.call {'callee': (Go.Callee.value (Go.Operand.func 11)), 'args': [(Go.Operand.tmp 186)], 'argTypes': [26]}) slot 187
                refine wpOrd_effQ rfl (fun K Q' hK => ?_); go_simp
                refine (CInt.len_ok H9 _ _ _ h39.fits (hqa.mono leG)).mono ?_
                rintro e wL ⟨rfl, hkL⟩
                simp only [List.length_map]
                have h40 := h39.callk hkL
                refine hK _ _ (h40.sat' leG [] (by kernel_rfl)) ?_; clear hK K; try clear Q'
                iterate 1 (first | (refine wpOrd_skip rfl (fun _ _ _ => hQp _ _ _ _ _) ?_; simp only [Act.put, List.setIfInBounds_toArray, List.set_cons_zero, List.set_cons_succ]) | (refine wpOrd_quiet (v := ?_) rfl (fun _ _ _ => hQp _ _ _ _ _) ?_ ?_; rotate_left; (intro w' hS; (first | (go_simp; done) | (go_simp; with_reducible rfl))); simp only [Act.put, List.setIfInBounds_toArray, List.set_cons_zero, List.set_cons_succ]))
                iterate 2 (refine wpOrd_quiet (v := ?_) rfl (fun _ _ _ => hQp _ _ _ _ _) ?_ ?_; rotate_left; (intro w' hS; (first | (go_simp; done) | (go_simp; with_reducible rfl))); simp only [Act.put, List.setIfInBounds_toArray, List.set_cons_zero, List.set_cons_succ])
                iterate 4 (first | (refine wpOrd_skip rfl (fun _ _ _ => hQp _ _ _ _ _) ?_; simp only [Act.put, List.setIfInBounds_toArray, List.set_cons_zero, List.set_cons_succ]) | (refine wpOrd_quiet (v := ?_) rfl (fun _ _ _ => hQp _ _ _ _ _) ?_ ?_; rotate_left; (intro w' hS; (first | (go_simp; done) | (go_simp; with_reducible rfl))); simp only [Act.put, List.setIfInBounds_toArray, List.set_cons_zero, List.set_cons_succ]))
                -- stops at: load (Go.Op.load 22 (Go.Operand.tmp 199)) slot 200
                iterate 1 (first | (refine wpOrd_skip rfl (fun _ _ _ => hQp _ _ _ _ _) ?_; simp only [Act.put, List.setIfInBounds_toArray, List.set_cons_zero, List.set_cons_succ]) | (refine wpOrd_quiet (v := ?_) rfl (fun _ _ _ => hQp _ _ _ _ _) ?_ ?_; rotate_left; (intro w' hS; have ce := cB.out _ (hS.1.le hle8); (first | (go_simp; done) | (go_simp; with_reducible rfl))); simp only [Act.put, List.setIfInBounds_toArray, List.set_cons_zero, List.set_cons_succ]))
                iterate 3 (first | (refine wpOrd_skip rfl (fun _ _ _ => hQp _ _ _ _ _) ?_; simp only [Act.put, List.setIfInBounds_toArray, List.set_cons_zero, List.set_cons_succ]) | (refine wpOrd_quiet (v := ?_) rfl (fun _ _ _ => hQp _ _ _ _ _) ?_ ?_; rotate_left; (intro w' hS; (first | (go_simp; done) | (go_simp; with_reducible rfl))); simp only [Act.put, List.setIfInBounds_toArray, List.set_cons_zero, List.set_cons_succ]))
                iterate 2 (refine wpOrd_quiet (v := ?_) rfl (fun _ _ _ => hQp _ _ _ _ _) ?_ ?_; rotate_left; (intro w' hS; (first | (go_simp; done) | (go_simp; with_reducible rfl))); simp only [Act.put, List.setIfInBounds_toArray, List.set_cons_zero, List.set_cons_succ])
                iterate 2 (first | (refine wpOrd_skip rfl (fun _ _ _ => hQp _ _ _ _ _) ?_; simp only [Act.put, List.setIfInBounds_toArray, List.set_cons_zero, List.set_cons_succ]) | (refine wpOrd_quiet (v := ?_) rfl (fun _ _ _ => hQp _ _ _ _ _) ?_ ?_; rotate_left; (intro w' hS; (first | (go_simp; done) | (go_simp; with_reducible rfl))); simp only [Act.put, List.setIfInBounds_toArray, List.set_cons_zero, List.set_cons_succ]))
                iterate 4 (first | (refine wpOrd_skip rfl (fun _ _ _ => hQp _ _ _ _ _) ?_; simp only [Act.put, List.setIfInBounds_toArray, List.set_cons_zero, List.set_cons_succ]) | (refine wpOrd_quiet (v := ?_) rfl (fun _ _ _ => hQp _ _ _ _ _) ?_ ?_; rotate_left; (intro w' hS; (first | (go_simp; done) | (go_simp; with_reducible rfl))); simp only [Act.put, List.setIfInBounds_toArray, List.set_cons_zero, List.set_cons_succ]))
                -- stops at: load (Go.Op.load 22 (Go.Operand.tmp 211)) slot 212
                iterate 1 (first | (refine wpOrd_skip rfl (fun _ _ _ => hQp _ _ _ _ _) ?_; simp only [Act.put, List.setIfInBounds_toArray, List.set_cons_zero, List.set_cons_succ]) | (refine wpOrd_quiet (v := ?_) rfl (fun _ _ _ => hQp _ _ _ _ _) ?_ ?_; rotate_left; (intro w' hS;  (first | (go_simp; done) | (go_simp; with_reducible rfl))); simp only [Act.put, List.setIfInBounds_toArray, List.set_cons_zero, List.set_cons_succ]))
                iterate 1 (first | (refine wpOrd_skip rfl (fun _ _ _ => hQp _ _ _ _ _) ?_; simp only [Act.put, List.setIfInBounds_toArray, List.set_cons_zero, List.set_cons_succ]) | (refine wpOrd_quiet (v := ?_) rfl (fun _ _ _ => hQp _ _ _ _ _) ?_ ?_; rotate_left; (intro w' hS; (first | (go_simp; done) | (go_simp; with_reducible rfl))); simp only [Act.put, List.setIfInBounds_toArray, List.set_cons_zero, List.set_cons_succ]))
                -- stops at: load (Go.Op.load 3 (Go.Operand.tmp 213)) slot 214
                iterate 1 (first | (refine wpOrd_skip rfl (fun _ _ _ => hQp _ _ _ _ _) ?_; simp only [Act.put, List.setIfInBounds_toArray, List.set_cons_zero, List.set_cons_succ]) | (refine wpOrd_quiet (v := ?_) rfl (fun _ _ _ => hQp _ _ _ _ _) ?_ ?_; rotate_left; (intro w' hS;  (first | (go_simp; done) | (go_simp; with_reducible rfl))); simp only [Act.put, List.setIfInBounds_toArray, List.set_cons_zero, List.set_cons_succ]))
                iterate 1 (first | (refine wpOrd_skip rfl (fun _ _ _ => hQp _ _ _ _ _) ?_; simp only [Act.put, List.setIfInBounds_toArray, List.set_cons_zero, List.set_cons_succ]) | (refine wpOrd_quiet (v := ?_) rfl (fun _ _ _ => hQp _ _ _ _ _) ?_ ?_; rotate_left; (intro w' hS; (first | (go_simp; done) | (go_simp; with_reducible rfl))); simp only [Act.put, List.setIfInBounds_toArray, List.set_cons_zero, List.set_cons_succ]))
                iterate 1 (first | (refine wpOrd_skip rfl (fun _ _ _ => hQp _ _ _ _ _) ?_; simp only [Act.put, List.setIfInBounds_toArray, List.set_cons_zero, List.set_cons_succ]) | (refine wpOrd_quiet (v := ?_) rfl (fun _ _ _ => hQp _ _ _ _ _) ?_ ?_; rotate_left; (intro w' hS; (first | (go_simp; done) | (go_simp; with_reducible rfl))); simp only [Act.put, List.setIfInBounds_toArray, List.set_cons_zero, List.set_cons_succ]))
                iterate 2 (refine wpOrd_quiet (v := ?_) rfl (fun _ _ _ => hQp _ _ _ _ _) ?_ ?_; rotate_left; (intro w' hS; (first | (go_simp; done) | (go_simp; with_reducible rfl))); simp only [Act.put, List.setIfInBounds_toArray, List.set_cons_zero, List.set_cons_succ])
                iterate 3 (first | (refine wpOrd_skip rfl (fun _ _ _ => hQp _ _ _ _ _) ?_; simp only [Act.put, List.setIfInBounds_toArray, List.set_cons_zero, List.set_cons_succ]) | (refine wpOrd_quiet (v := ?_) rfl (fun _ _ _ => hQp _ _ _ _ _) ?_ ?_; rotate_left; (intro w' hS; (first | (go_simp; done) | (go_simp; with_reducible rfl))); simp only [Act.put, List.setIfInBounds_toArray, List.set_cons_zero, List.set_cons_succ]))
                iterate 2 (first | (refine wpOrd_skip rfl (fun _ _ _ => hQp _ _ _ _ _) ?_; simp only [Act.put, List.setIfInBounds_toArray, List.set_cons_zero, List.set_cons_succ]) | (refine wpOrd_quiet (v := ?_) rfl (fun _ _ _ => hQp _ _ _ _ _) ?_ ?_; rotate_left; (intro w' hS; (first | (go_simp; done) | (go_simp; with_reducible rfl))); simp only [Act.put, List.setIfInBounds_toArray, List.set_cons_zero, List.set_cons_succ]))
                iterate 1 (first | (refine wpOrd_skip rfl (fun _ _ _ => hQp _ _ _ _ _) ?_; simp only [Act.put, List.setIfInBounds_toArray, List.set_cons_zero, List.set_cons_succ]) | (refine wpOrd_quiet (v := ?_) rfl (fun _ _ _ => hQp _ _ _ _ _) ?_ ?_; rotate_left; (intro w' hS; (first | (go_simp; done) | (go_simp; with_reducible rfl))); simp only [Act.put, List.setIfInBounds_toArray, List.set_cons_zero, List.set_cons_succ]))
                iterate 1 (refine wpOrd_quiet (v := ?_) rfl (fun _ _ _ => hQp _ _ _ _ _) ?_ ?_; rotate_left; (intro w' hS; (first | (go_simp; done) | (go_simp; with_reducible rfl))); simp only [Act.put, List.setIfInBounds_toArray, List.set_cons_zero, List.set_cons_succ])
                refine wpOrd_nil (hQn _ _ ?_); clear hQn hQp QR
                show Code.wp _ _ _ _ _
                -- stops at: cond
                refine wp_cond_false (rfl) ?_
                refine wp_skip ?_
                show Code.wp _ _ _ _ _
                refine wp_seq ?_
                refine wp_region_lit ?_
                iterate 3 (refine wpList_plainQ rfl (fun K Q' hK => ?_); go_simp; refine hK _ _ ?_; clear hK K; try clear Q')
                -- stops at: load (Go.Op.load 26 (Go.Operand.tmp 228)) slot 229
                have ce := cA.out _ (h40.fits.le (hle8.trans leG))
                iterate 1 (refine wpList_plainQ rfl (fun K Q' hK => ?_); go_simp; refine hK _ _ ?_; clear hK K; try clear Q')
                clear ce
                -- stops at: eff:call (Go.Op.call {'callee': (Go.Callee.value (Go.Operand.func 10)), 'args': [(Go.Operand.tmp 229)], 'argTypes': [26]}) slot 230
                refine wpList_plainQ rfl (fun K Q' hK => ?_); go_simp
                refine (CInt.all_ok H9 _ _ xa (by omega) h40.fits (hqa.mono leG)).mono ?_
                rintro e wN ⟨v4, rfl, hpY⟩
                have hN := h40.callrow hpY
                obtain ⟨a4, c4, rfl⟩ : ∃ a cap, v4 = .slice a xa.length cap := by
                  rcases (hN.rows _ (List.mem_of_getElem? (i := 0) rfl)).1.2 with ⟨h1, h2⟩ | ⟨g, cap, cur, h1, _⟩
                  · have h1' : v4 = .slice none 0 0 := h1
                    have h2' : xa.length = 0 := h2
                    exact ⟨none, 0, by rw [h1', h2']⟩
                  · exact ⟨_, _, h1⟩
                refine hK _ _ ?_; clear hK K; try clear Q'
                iterate 1 (refine wpList_plainQ rfl (fun K Q' hK => ?_); go_simp; refine hK _ _ ?_; clear hK K; try clear Q')
                refine wpList_nil ?_
                show Code.wp _ _ _ _ _
                refine wp_seq ?_
                refine wp_seq ?_
                refine wp_region_lit ?_
                iterate 1 (refine wpList_plainQ rfl (fun K Q' hK => ?_); go_simp; refine hK _ _ ?_; clear hK K; try clear Q')
                refine wpList_nil ?_
                show Code.wp _ _ _ _ _
                refine wp_block ?_
                -- stops at: loop
                go_loopw [17] (fun v17 wr => PlayInv3 w H H9 xa.length (.slice a4 xa.length c4) v17 wr) (fun v17 _ => xa.length - (intOf v17).toNat)
                case atStart =>
                  show PlayInv3 _ _ _ _ _ _ _
                  unfold PlayInv3
                  exact ⟨0, xa.map (Value.int .i64), by omega, rfl, by simp, by simp, hN⟩
                case round =>
                  obtain ⟨i, zs, hi, rfl, hzl, hzi, hs3⟩ := hrel
                  by_cases hlt3 : i < xa.length
                  · obtain ⟨g, cg, eg⟩ := hs3.row_some 0 rfl (by omega)
                    simp only [Value.slice.injEq, true_and] at eg
                    obtain ⟨rfl, rfl⟩ := eg
                    obtain ⟨cv, hcv⟩ : ∃ cv, zs[i]? = some (.int .i64 cv) := by
                      obtain ⟨z, hz⟩ : ∃ z, zs[i]? = some z := ⟨zs[i], by simp [hlt3, hzl]⟩
                      obtain ⟨c, rfl⟩ := hzi z (List.mem_of_getElem? hz)
                      exact ⟨c, hz⟩
                    have HZ : Hid (zs.length = xa.length) := hzl
                    clear hzl
                    have e6 : IntKind.i64.wrap ((i : Int) + 1) = (i : Int) + 1 := IntWalk.i64_in _ (by omega)
                    refine wp_seq ?_
                    refine wp_seq ?_
                    refine wp_region_lit ?_
                    iterate 4 (refine wpList_plainQ rfl (fun K Q' hK => ?_); go_simp; refine hK _ _ ?_; clear hK K; try clear Q')
                    refine wpList_nil ?_
                    show Code.wp _ _ _ _ _
                    -- stops at: cond
                    refine wp_cond_true (rfl) ?_
                    refine wp_skip ?_
                    show Code.wp _ _ _ _ _
                    refine wp_seq ?_
                    refine wp_block ?_
                    refine wp_region_lit ?_
                    iterate 3 (refine wpList_plainQ rfl (fun K Q' hK => ?_); go_simp; refine hK _ _ ?_; clear hK K; try clear Q')
                    -- stops at: load (Go.Op.load 3 (Go.Operand.tmp 239)) slot 240
                    have ce := hs3.rowcell 0 rfl i hcv
                    have cf := hs3.rowfree 0 rfl i
                    iterate 1 (refine wpList_plainQ rfl (fun K Q' hK => ?_); go_simp; refine hK _ _ ?_; clear hK K; try clear Q')
                    iterate 2 (refine wpList_plainQ rfl (fun K Q' hK => ?_); go_simp; refine hK _ _ ?_; clear hK K; try clear Q')
                    -- stops at: store (Go.Op.store 3 (Go.Operand.tmp 242) (Go.Operand.tmp 241)) slot None
                    refine wpList_plainQ rfl (fun K Q' hK => ?_); go_simp
                    refine hs3.k_setRow 0 rfl i (fun wT hT => ?_)
                    refine hK _ _ ?_; clear hK K; try clear Q'
                    clear ce cf
                    refine wpList_nil ?_
                    show Code.wp _ _ _ _ _
                    refine wp_region_lit ?_
                    iterate 3 (refine wpList_plainQ rfl (fun K Q' hK => ?_); go_simp; refine hK _ _ ?_; clear hK K; try clear Q')
                    refine wpList_nil ?_
                    -- stops at: end ('roundend',)
                    show _ ∧ _
                    go_roundw
                    case rel =>
                      show PlayInv3 _ _ _ _ _ _ _
                      unfold PlayInv3
                      exact ⟨i + 1, zs.set i _, by omega, by simp, by simpa using HZ.out, fun z hz => by
                        rcases List.mem_or_eq_of_mem_set hz with h | rfl
                        · exact hzi z h
                        · exact ⟨_, rfl⟩, hT⟩
                    case measure => simp [intOf]; omega
                  · obtain rfl : i = xa.length := by omega
                    as_aux_lemma =>
                    refine wp_seq ?_
                    refine wp_seq ?_
                    refine wp_region_lit ?_
                    iterate 4 (refine wpList_plainQ rfl (fun K Q' hK => ?_); go_simp; refine hK _ _ ?_; clear hK K; try clear Q')
                    refine wpList_nil ?_
                    show Code.wp _ _ _ _ _
                    -- stops at: cond
                    refine wp_cond_false (rfl) ?_
                    refine wp_exit ?_
                    show Code.wp _ _ _ _ _
                    refine wp_seq ?_
                    refine hs3.region [] [(0, true), (1, true), (2, true), (3, true), (5, true), (6, true), (7, true), (8, true), (4, false), (9, false), (10, true)] (by kernel_rfl) (by kernel_rfl) (fun w41 h41 => ?_)
                    refine wpOrd_hide (fun _ _ d _ _ h => by cases d <;> exact h) (fun QR hQn hQp => ?_)
                    simp only [ordOps, List.map_cons, List.map_nil, List.getD_cons_zero, List.getD_cons_succ]
                    iterate 3 (refine wpOrd_quiet (v := ?_) rfl (fun _ _ _ => hQp _ _ _ _ _) ?_ ?_; rotate_left; (intro w' hS; (first | (go_simp; done) | (go_simp; with_reducible rfl))); simp only [Act.put, List.setIfInBounds_toArray, List.set_cons_zero, List.set_cons_succ])
                    -- stops at: load (Go.Op.load 26 (Go.Operand.tmp 245)) slot 246
                    iterate 1 (refine wpOrd_quiet (v := ?_) rfl (fun _ _ _ => hQp _ _ _ _ _) ?_ ?_; rotate_left; (intro w' hS; have ce := cA.out _ (hS.1.le (hle8.trans leG)); (first | (go_simp; done) | (go_simp; with_reducible rfl))); simp only [Act.put, List.setIfInBounds_toArray, List.set_cons_zero, List.set_cons_succ])
                    iterate 3 (refine wpOrd_quiet (v := ?_) rfl (fun _ _ _ => hQp _ _ _ _ _) ?_ ?_; rotate_left; (intro w' hS; (first | (go_simp; done) | (go_simp; with_reducible rfl))); simp only [Act.put, List.setIfInBounds_toArray, List.set_cons_zero, List.set_cons_succ])
                    -- stops at: load (Go.Op.load 22 (Go.Operand.tmp 250)) slot 251
                    iterate 1 (refine wpOrd_quiet (v := ?_) rfl (fun _ _ _ => hQp _ _ _ _ _) ?_ ?_; rotate_left; (intro w' hS; have ce := cB.out _ (hS.1.le (hle8.trans leG)); (first | (go_simp; done) | (go_simp; with_reducible rfl))); simp only [Act.put, List.setIfInBounds_toArray, List.set_cons_zero, List.set_cons_succ])
                    -- stops at: eff:call (Go.Op.call {'callee': (Go.Callee.value (Go.Operand.func 10)), 'args': [(Go.Operand.tmp 246)], 'argTypes': [26]}) slot 247
                    refine wpOrd_effQ rfl (fun K Q' hK => ?_); go_simp
                    refine (CInt.all_ok H9 _ _ xa (by omega) h41.fits (hqa.mono leG)).mono ?_
                    rintro e wU ⟨v5, rfl, hp6⟩
                    obtain ⟨H11, hU, rU, leU⟩ := (h41.callrow hp6).settleRow 1 rfl
                    refine hK _ _ (hU.sat' leU [] (by kernel_rfl)) ?_; clear hK K; try clear Q'
                    -- stops at: eff:call (Go.Op.call {'callee': (Go.Callee.value (Go.Operand.func 9)), 'args': [(Go.Operand.tmp 247), (Go.Operand.tmp 251)], 'argTypes': [22, 22]}) slot 252
                    refine wpOrd_effQ rfl (fun K Q' hK => ?_); go_simp
                    refine (same_ok H11 _ _ _ xa xa (by omega) (by omega) hU.fits rU (hva.mono (leG.trans leU))).mono ?_
                    rintro e wV ⟨rfl, hkV⟩
                    simp only [decide_true]
                    have h43 := hU.callk hkV
                    refine hK _ _ (h43.sat' leU [] (by kernel_rfl)) ?_; clear hK K; try clear Q'
                    iterate 1 (refine wpOrd_quiet (v := ?_) rfl (fun _ _ _ => hQp _ _ _ _ _) ?_ ?_; rotate_left; (intro w' hS; (first | (go_simp; done) | (go_simp; with_reducible rfl))); simp only [Act.put, List.setIfInBounds_toArray, List.set_cons_zero, List.set_cons_succ])
                    refine wpOrd_nil (hQn _ _ ?_); clear hQn hQp QR
                    show Code.wp _ _ _ _ _
                    -- stops at: cond
                    refine wp_cond_false (rfl) ?_
                    refine wp_skip ?_
                    show Code.wp _ _ _ _ _
                    refine wp_region_lit ?_
                    iterate 3 (refine wpList_plainQ rfl (fun K Q' hK => ?_); go_simp; refine hK _ _ ?_; clear hK K; try clear Q')
                    refine wpList_nil ?_
                    -- stops at: end ('roundend',)
                    show _ ∧ _
                    go_roundw
                    case rel =>
                      show PlayInv2 _ _ _ _ _ _
                      unfold PlayInv2
                      exact ⟨j + 1, H11, by omega, by simp, hle8.trans (leG.trans leU), h43.subR (List.nil_sublist _)⟩
                    case measure => simp [intOf]; omega

              · skip
                as_aux_lemma =>
                obtain ⟨y, ys, hxy⟩ : ∃ y ys, Hid (xa = y :: ys) := by
                  cases xa with
                  | nil => simp at hx0
                  | cons y ys => exact ⟨y, ys, rfl⟩
                have hq1 : ConsRep 60 H8 qa (.int .i64 y :: ys.map (Value.int .i64)) := by have := hqa; rw [hxy.out] at this; exact this
                obtain ⟨b2, o2, _, e2, _⟩ := hva.ne_nil (by omega)
                simp only [Value.slice.injEq, true_and] at e2
                obtain ⟨rfl, rfl⟩ := e2
                have g0 : (xa.map (Value.int .i64))[0]? = some (.int .i64 y) := by rw [hxy.out]; rfl
                have c0 : Hid (∀ W', Fits W' H8 → W'.cell? ⟨b2, o2, none⟩ = some (.int .i64 y)) := fun W' hF => by simpa using hva.cell hF 0 g0
                have hx1 : 0 < xa.length := by omega
                have d0 : decide (0 < xa.length) = true := decide_eq_true (by omega)
                have t1 : ((xa.length : Int) != (xa.length : Int)) = false := by simp
                refine wp_seq ?_
                refine wp_seq ?_
                refine wp_region_lit ?_
                iterate 4 (refine wpList_plainQ rfl (fun K Q' hK => ?_); go_simp; refine hK _ _ ?_; clear hK K; try clear Q')
                refine wpList_nil ?_
                show Code.wp _ _ _ _ _
                -- stops at: cond
                refine wp_cond_true (rfl) ?_
                refine wp_skip ?_
                show Code.wp _ _ _ _ _
                refine wp_seq ?_
                refine wp_block ?_
                refine wp_seq ?_
                refine wp_region_lit ?_
                iterate 3 (refine wpList_plainQ rfl (fun K Q' hK => ?_); go_simp; refine hK _ _ ?_; clear hK K; try clear Q')
                -- stops at: load (Go.Op.load 26 (Go.Operand.tmp 166)) slot 167
                have ce := cA.out _ (hs2.fits.le hle8)
                iterate 1 (refine wpList_plainQ rfl (fun K Q' hK => ?_); go_simp; refine hK _ _ ?_; clear hK K; try clear Q')
                -- stops at: eff:call (Go.Op.call {'callee': (Go.Callee.value (Go.Operand.func 12)), 'args': [(Go.Operand.tmp 167)], 'argTypes': [26]}) slot 168
                refine wpList_plainQ rfl (fun K Q' hK => ?_); go_simp
                refine (CInt.first_cons H8 _ _ y _ hs2.fits hq1).mono ?_
                rintro e wC ⟨rfl, hkC⟩
                have h44 := hs2.callk hkC
                refine hK _ _ ?_; clear hK K; try clear Q'
                iterate 5 (refine wpList_plainQ rfl (fun K Q' hK => ?_); go_simp; refine hK _ _ ?_; clear hK K; try clear Q')
                refine wpList_nil ?_
                show Code.wp _ _ _ _ _
                refine wp_seq ?_
                refine wp_seq ?_
                refine h44.region [] [(0, true), (1, true), (2, true), (3, true), (5, true), (6, true), (7, true), (8, true), (4, false), (9, false), (10, true), (11, true), (12, true), (13, true), (14, true), (15, true), (17, true), (18, true), (19, true), (20, true), (21, true), (16, false), (22, true), (23, true), (24, true), (25, true), (26, true), (27, true), (28, true), (29, true), (30, true), (31, true), (32, true), (33, true), (34, true), (35, true), (36, true), (37, true), (38, true), (39, true), (40, true), (41, true), (42, true), (43, true), (44, true), (45, true), (46, true), (47, true), (48, true), (49, true), (50, true), (51, true), (52, true), (53, true), (54, true)] (by kernel_rfl) (by kernel_rfl) (fun w45 h45 => ?_)
                refine wpOrd_hide (fun _ _ d _ _ h => by cases d <;> exact h) (fun QR hQn hQp => ?_)
                simp only [ordOps, List.map_cons, List.map_nil, List.getD_cons_zero, List.getD_cons_succ]
                iterate 3 (refine wpOrd_quiet (v := ?_) rfl (fun _ _ _ => hQp _ _ _ _ _) ?_ ?_; rotate_left; (intro w' hS; (first | (go_simp; done) | (go_simp; with_reducible rfl))); simp only [Act.put, List.setIfInBounds_toArray, List.set_cons_zero, List.set_cons_succ])
                -- stops at: load (Go.Op.load 26 (Go.Operand.tmp 173)) slot 174
                iterate 1 (refine wpOrd_quiet (v := ?_) rfl (fun _ _ _ => hQp _ _ _ _ _) ?_ ?_; rotate_left; (intro w' hS; have ce := cA.out _ (hS.1.le hle8); (first | (go_simp; done) | (go_simp; with_reducible rfl))); simp only [Act.put, List.setIfInBounds_toArray, List.set_cons_zero, List.set_cons_succ])
                iterate 3 (refine wpOrd_quiet (v := ?_) rfl (fun _ _ _ => hQp _ _ _ _ _) ?_ ?_; rotate_left; (intro w' hS; (first | (go_simp; done) | (go_simp; with_reducible rfl))); simp only [Act.put, List.setIfInBounds_toArray, List.set_cons_zero, List.set_cons_succ])
                -- stops at: load (Go.Op.load 22 (Go.Operand.tmp 178)) slot 179
                iterate 1 (refine wpOrd_quiet (v := ?_) rfl (fun _ _ _ => hQp _ _ _ _ _) ?_ ?_; rotate_left; (intro w' hS; have ce := cB.out _ (hS.1.le hle8); (first | (go_simp; done) | (go_simp; with_reducible rfl))); simp only [Act.put, List.setIfInBounds_toArray, List.set_cons_zero, List.set_cons_succ])
                -- stops at: eff:call (Go.Op.call {'callee': (Go.Callee.value (Go.Operand.func 10)), 'args': [(Go.Operand.tmp 174)], 'argTypes': [26]}) slot 175
                refine wpOrd_effQ rfl (fun K Q' hK => ?_); go_simp
                refine (CInt.all_ok H8 _ _ xa (by omega) h45.fits hqa).mono ?_
                rintro e wG ⟨v3, rfl, hp5⟩
                obtain ⟨H9, hG, rG, leG⟩ := (h45.callrow hp5).settleRow 0 rfl
                refine hK _ _ (hG.sat' leG [] (by kernel_rfl)) ?_; clear hK K; try clear Q'
                -- stops at: eff:call (Go.Op.call {'callee': (Go.Callee.value (Go.Operand.func 9)), 'args': [(Go.Operand.tmp 175), (Go.Operand.tmp 179)], 'argTypes': [22, 22]}) slot 180
                refine wpOrd_effQ rfl (fun K Q' hK => ?_); go_simp
                refine (same_ok H9 _ _ _ xa xa (by omega) (by omega) hG.fits rG (hva.mono leG)).mono ?_
                rintro e wJ ⟨rfl, hkJ⟩
                simp only [decide_true]
                have h47 := hG.callk hkJ
                refine hK _ _ (h47.sat' leG [] (by kernel_rfl)) ?_; clear hK K; try clear Q'
                iterate 2 (refine wpOrd_quiet (v := ?_) rfl (fun _ _ _ => hQp _ _ _ _ _) ?_ ?_; rotate_left; (intro w' hS; (first | (go_simp; done) | (go_simp; with_reducible rfl))); simp only [Act.put, List.setIfInBounds_toArray, List.set_cons_zero, List.set_cons_succ])
                iterate 3 (first | (refine wpOrd_skip rfl (fun _ _ _ => hQp _ _ _ _ _) ?_; simp only [Act.put, List.setIfInBounds_toArray, List.set_cons_zero, List.set_cons_succ]) | (refine wpOrd_quiet (v := ?_) rfl (fun _ _ _ => hQp _ _ _ _ _) ?_ ?_; rotate_left; (intro w' hS; (first | (go_simp; done) | (go_simp; with_reducible rfl))); simp only [Act.put, List.setIfInBounds_toArray, List.set_cons_zero, List.set_cons_succ]))
                -- stops at: load (Go.Op.load 26 (Go.Operand.tmp 185)) slot 186
                iterate 1 (first | (refine wpOrd_skip rfl (fun _ _ _ => hQp _ _ _ _ _) ?_; simp only [Act.put, List.setIfInBounds_toArray, List.set_cons_zero, List.set_cons_succ]) | (refine wpOrd_quiet (v := ?_) rfl (fun _ _ _ => hQp _ _ _ _ _) ?_ ?_; rotate_left; (intro w' hS; have ce := cA.out _ (hS.1.le hle8); (first | (go_simp; done) | (go_simp; with_reducible rfl))); simp only [Act.put, List.setIfInBounds_toArray, List.set_cons_zero, List.set_cons_succ]))
                iterate 3 (first | (refine wpOrd_skip rfl (fun _ _ _ => hQp _ _ _ _ _) ?_; simp only [Act.put, List.setIfInBounds_toArray, List.set_cons_zero, List.set_cons_succ]) | (refine wpOrd_quiet (v := ?_) rfl (fun _ _ _ => hQp _ _ _ _ _) ?_ ?_; rotate_left; (intro w' hS; (first | (go_simp; done) | (go_simp; with_reducible rfl))); simp only [Act.put, List.setIfInBounds_toArray, List.set_cons_zero, List.set_cons_succ]))
                -- stops at: load (Go.Op.load 22 (Go.Operand.tmp 190)) slot 191
                iterate 1 (first | (refine wpOrd_skip rfl (fun _ _ _ => hQp _ _ _ _ _) ?_; simp only [Act.put, List.setIfInBounds_toArray, List.set_cons_zero, List.set_cons_succ]) | (refine wpOrd_quiet (v := ?_) rfl (fun _ _ _ => hQp _ _ _ _ _) ?_ ?_; rotate_left; (intro w' hS; have ce := cB.out _ (hS.1.le hle8); (first | (go_simp; done) | (go_simp; with_reducible rfl))); simp only [Act.put, List.setIfInBounds_toArray, List.set_cons_zero, List.set_cons_succ]))
                iterate 1 (first | (refine wpOrd_skip rfl (fun _ _ _ => hQp _ _ _ _ _) ?_; simp only [Act.put, List.setIfInBounds_toArray, List.set_cons_zero, List.set_cons_succ]) | (refine wpOrd_quiet (v := ?_) rfl (fun _ _ _ => hQp _ _ _ _ _) ?_ ?_; rotate_left; (intro w' hS; (first | (go_simp; done) | (go_simp; with_reducible rfl))); simp only [Act.put, List.setIfInBounds_toArray, List.set_cons_zero, List.set_cons_succ]))
                -- stops at: eff:call (Go.Op.call {'callee': (Go.Callee.value (Go.Operand.func 11)), 'args': [(Go.Operand.tmp 186)], 'argTypes': [26]}) slot 187
                refine wpOrd_effQ rfl (fun K Q' hK => ?_); go_simp
                refine (CInt.len_ok H9 _ _ _ h47.fits (hqa.mono leG)).mono ?_
                rintro e wL ⟨rfl, hkL⟩
                simp only [List.length_map]
                have h48 := h47.callk hkL
                refine hK _ _ (h48.sat' leG [] (by kernel_rfl)) ?_; clear hK K; try clear Q'
                iterate 1 (first | (refine wpOrd_skip rfl (fun _ _ _ => hQp _ _ _ _ _) ?_; simp only [Act.put, List.setIfInBounds_toArray, List.set_cons_zero, List.set_cons_succ]) | (refine wpOrd_quiet (v := ?_) rfl (fun _ _ _ => hQp _ _ _ _ _) ?_ ?_; rotate_left; (intro w' hS; (first | (go_simp; done) | (go_simp; with_reducible rfl))); simp only [Act.put, List.setIfInBounds_toArray, List.set_cons_zero, List.set_cons_succ]))
                iterate 2 (refine wpOrd_quiet (v := ?_) rfl (fun _ _ _ => hQp _ _ _ _ _) ?_ ?_; rotate_left; (intro w' hS; (first | (go_simp; done) | (go_simp; with_reducible rfl))); simp only [Act.put, List.setIfInBounds_toArray, List.set_cons_zero, List.set_cons_succ])
                iterate 4 (first | (refine wpOrd_skip rfl (fun _ _ _ => hQp _ _ _ _ _) ?_; simp only [Act.put, List.setIfInBounds_toArray, List.set_cons_zero, List.set_cons_succ]) | (refine wpOrd_quiet (v := ?_) rfl (fun _ _ _ => hQp _ _ _ _ _) ?_ ?_; rotate_left; (intro w' hS; (first | (go_simp; done) | (go_simp; with_reducible rfl))); simp only [Act.put, List.setIfInBounds_toArray, List.set_cons_zero, List.set_cons_succ]))
                -- stops at: load (Go.Op.load 22 (Go.Operand.tmp 199)) slot 200
                iterate 1 (first | (refine wpOrd_skip rfl (fun _ _ _ => hQp _ _ _ _ _) ?_; simp only [Act.put, List.setIfInBounds_toArray, List.set_cons_zero, List.set_cons_succ]) | (refine wpOrd_quiet (v := ?_) rfl (fun _ _ _ => hQp _ _ _ _ _) ?_ ?_; rotate_left; (intro w' hS; have ce := cB.out _ (hS.1.le hle8); (first | (go_simp; done) | (go_simp; with_reducible rfl))); simp only [Act.put, List.setIfInBounds_toArray, List.set_cons_zero, List.set_cons_succ]))
                iterate 3 (first | (refine wpOrd_skip rfl (fun _ _ _ => hQp _ _ _ _ _) ?_; simp only [Act.put, List.setIfInBounds_toArray, List.set_cons_zero, List.set_cons_succ]) | (refine wpOrd_quiet (v := ?_) rfl (fun _ _ _ => hQp _ _ _ _ _) ?_ ?_; rotate_left; (intro w' hS; (first | (go_simp; done) | (go_simp; with_reducible rfl))); simp only [Act.put, List.setIfInBounds_toArray, List.set_cons_zero, List.set_cons_succ]))
                iterate 2 (refine wpOrd_quiet (v := ?_) rfl (fun _ _ _ => hQp _ _ _ _ _) ?_ ?_; rotate_left; (intro w' hS; (first | (go_simp; done) | (go_simp; with_reducible rfl))); simp only [Act.put, List.setIfInBounds_toArray, List.set_cons_zero, List.set_cons_succ])
                iterate 2 (first | (refine wpOrd_skip rfl (fun _ _ _ => hQp _ _ _ _ _) ?_; simp only [Act.put, List.setIfInBounds_toArray, List.set_cons_zero, List.set_cons_succ]) | (refine wpOrd_quiet (v := ?_) rfl (fun _ _ _ => hQp _ _ _ _ _) ?_ ?_; rotate_left; (intro w' hS; (first | (go_simp; done) | (go_simp; with_reducible rfl))); simp only [Act.put, List.setIfInBounds_toArray, List.set_cons_zero, List.set_cons_succ]))
                iterate 4 (first | (refine wpOrd_skip rfl (fun _ _ _ => hQp _ _ _ _ _) ?_; simp only [Act.put, List.setIfInBounds_toArray, List.set_cons_zero, List.set_cons_succ]) | (refine wpOrd_quiet (v := ?_) rfl (fun _ _ _ => hQp _ _ _ _ _) ?_ ?_; rotate_left; (intro w' hS; (first | (go_simp; done) | (go_simp; with_reducible rfl))); simp only [Act.put, List.setIfInBounds_toArray, List.set_cons_zero, List.set_cons_succ]))
                -- stops at: load (Go.Op.load 22 (Go.Operand.tmp 211)) slot 212
                iterate 1 (first | (refine wpOrd_skip rfl (fun _ _ _ => hQp _ _ _ _ _) ?_; simp only [Act.put, List.setIfInBounds_toArray, List.set_cons_zero, List.set_cons_succ]) | (refine wpOrd_quiet (v := ?_) rfl (fun _ _ _ => hQp _ _ _ _ _) ?_ ?_; rotate_left; (intro w' hS; have ce := cB.out _ (hS.1.le hle8); (first | (go_simp; done) | (go_simp; with_reducible rfl))); simp only [Act.put, List.setIfInBounds_toArray, List.set_cons_zero, List.set_cons_succ]))
                iterate 1 (first | (refine wpOrd_skip rfl (fun _ _ _ => hQp _ _ _ _ _) ?_; simp only [Act.put, List.setIfInBounds_toArray, List.set_cons_zero, List.set_cons_succ]) | (refine wpOrd_quiet (v := ?_) rfl (fun _ _ _ => hQp _ _ _ _ _) ?_ ?_; rotate_left; (intro w' hS; (first | (go_simp; done) | (go_simp; with_reducible rfl))); simp only [Act.put, List.setIfInBounds_toArray, List.set_cons_zero, List.set_cons_succ]))
                -- stops at: load (Go.Op.load 3 (Go.Operand.tmp 213)) slot 214
                iterate 1 (first | (refine wpOrd_skip rfl (fun _ _ _ => hQp _ _ _ _ _) ?_; simp only [Act.put, List.setIfInBounds_toArray, List.set_cons_zero, List.set_cons_succ]) | (refine wpOrd_quiet (v := ?_) rfl (fun _ _ _ => hQp _ _ _ _ _) ?_ ?_; rotate_left; (intro w' hS; have ce := c0.out _ hS.1; (first | (go_simp; done) | (go_simp; with_reducible rfl))); simp only [Act.put, List.setIfInBounds_toArray, List.set_cons_zero, List.set_cons_succ]))
                iterate 1 (first | (refine wpOrd_skip rfl (fun _ _ _ => hQp _ _ _ _ _) ?_; simp only [Act.put, List.setIfInBounds_toArray, List.set_cons_zero, List.set_cons_succ]) | (refine wpOrd_quiet (v := ?_) rfl (fun _ _ _ => hQp _ _ _ _ _) ?_ ?_; rotate_left; (intro w' hS; (first | (go_simp; done) | (go_simp; with_reducible rfl))); simp only [Act.put, List.setIfInBounds_toArray, List.set_cons_zero, List.set_cons_succ]))
                iterate 1 (first | (refine wpOrd_skip rfl (fun _ _ _ => hQp _ _ _ _ _) ?_; simp only [Act.put, List.setIfInBounds_toArray, List.set_cons_zero, List.set_cons_succ]) | (refine wpOrd_quiet (v := ?_) rfl (fun _ _ _ => hQp _ _ _ _ _) ?_ ?_; rotate_left; (intro w' hS; (first | (go_simp; done) | (go_simp; with_reducible rfl))); simp only [Act.put, List.setIfInBounds_toArray, List.set_cons_zero, List.set_cons_succ]))
                iterate 2 (refine wpOrd_quiet (v := ?_) rfl (fun _ _ _ => hQp _ _ _ _ _) ?_ ?_; rotate_left; (intro w' hS; (first | (go_simp; done) | (go_simp; with_reducible rfl))); simp only [Act.put, List.setIfInBounds_toArray, List.set_cons_zero, List.set_cons_succ])
                iterate 3 (first | (refine wpOrd_skip rfl (fun _ _ _ => hQp _ _ _ _ _) ?_; simp only [Act.put, List.setIfInBounds_toArray, List.set_cons_zero, List.set_cons_succ]) | (refine wpOrd_quiet (v := ?_) rfl (fun _ _ _ => hQp _ _ _ _ _) ?_ ?_; rotate_left; (intro w' hS; (first | (go_simp; done) | (go_simp; with_reducible rfl))); simp only [Act.put, List.setIfInBounds_toArray, List.set_cons_zero, List.set_cons_succ]))
                iterate 2 (first | (refine wpOrd_skip rfl (fun _ _ _ => hQp _ _ _ _ _) ?_; simp only [Act.put, List.setIfInBounds_toArray, List.set_cons_zero, List.set_cons_succ]) | (refine wpOrd_quiet (v := ?_) rfl (fun _ _ _ => hQp _ _ _ _ _) ?_ ?_; rotate_left; (intro w' hS; (first | (go_simp; done) | (go_simp; with_reducible rfl))); simp only [Act.put, List.setIfInBounds_toArray, List.set_cons_zero, List.set_cons_succ]))
                iterate 1 (first | (refine wpOrd_skip rfl (fun _ _ _ => hQp _ _ _ _ _) ?_; simp only [Act.put, List.setIfInBounds_toArray, List.set_cons_zero, List.set_cons_succ]) | (refine wpOrd_quiet (v := ?_) rfl (fun _ _ _ => hQp _ _ _ _ _) ?_ ?_; rotate_left; (intro w' hS; (first | (go_simp; done) | (go_simp; with_reducible rfl))); simp only [Act.put, List.setIfInBounds_toArray, List.set_cons_zero, List.set_cons_succ]))
                iterate 1 (refine wpOrd_quiet (v := ?_) rfl (fun _ _ _ => hQp _ _ _ _ _) ?_ ?_; rotate_left; (intro w' hS; (first | (go_simp; done) | (go_simp; with_reducible rfl))); simp only [Act.put, List.setIfInBounds_toArray, List.set_cons_zero, List.set_cons_succ])
                refine wpOrd_nil (hQn _ _ ?_); clear hQn hQp QR
                show Code.wp _ _ _ _ _
                -- stops at: cond
                refine wp_cond_false (rfl) ?_
                refine wp_skip ?_
                show Code.wp _ _ _ _ _
                refine wp_seq ?_
                refine wp_region_lit ?_
                iterate 3 (refine wpList_plainQ rfl (fun K Q' hK => ?_); go_simp; refine hK _ _ ?_; clear hK K; try clear Q')
                -- stops at: load (Go.Op.load 26 (Go.Operand.tmp 228)) slot 229
                have ce := cA.out _ (h48.fits.le (hle8.trans leG))
                iterate 1 (refine wpList_plainQ rfl (fun K Q' hK => ?_); go_simp; refine hK _ _ ?_; clear hK K; try clear Q')
                clear ce
                -- stops at: eff:call (Go.Op.call {'callee': (Go.Callee.value (Go.Operand.func 10)), 'args': [(Go.Operand.tmp 229)], 'argTypes': [26]}) slot 230
                refine wpList_plainQ rfl (fun K Q' hK => ?_); go_simp
                refine (CInt.all_ok H9 _ _ xa (by omega) h48.fits (hqa.mono leG)).mono ?_
                rintro e wN ⟨v4, rfl, hpY⟩
                have hN := h48.callrow hpY
                obtain ⟨a4, c4, rfl⟩ : ∃ a cap, v4 = .slice a xa.length cap := by
                  rcases (hN.rows _ (List.mem_of_getElem? (i := 0) rfl)).1.2 with ⟨h1, h2⟩ | ⟨g, cap, cur, h1, _⟩
                  · have h1' : v4 = .slice none 0 0 := h1
                    have h2' : xa.length = 0 := h2
                    exact ⟨none, 0, by rw [h1', h2']⟩
                  · exact ⟨_, _, h1⟩
                refine hK _ _ ?_; clear hK K; try clear Q'
                iterate 1 (refine wpList_plainQ rfl (fun K Q' hK => ?_); go_simp; refine hK _ _ ?_; clear hK K; try clear Q')
                refine wpList_nil ?_
                show Code.wp _ _ _ _ _
                refine wp_seq ?_
                refine wp_seq ?_
                refine wp_region_lit ?_
                iterate 1 (refine wpList_plainQ rfl (fun K Q' hK => ?_); go_simp; refine hK _ _ ?_; clear hK K; try clear Q')
                refine wpList_nil ?_
                show Code.wp _ _ _ _ _
                refine wp_block ?_
                -- stops at: loop
                go_loopw [17] (fun v17 wr => PlayInv3 w H H9 xa.length (.slice a4 xa.length c4) v17 wr) (fun v17 _ => xa.length - (intOf v17).toNat)
                case atStart =>
                  show PlayInv3 _ _ _ _ _ _ _
                  unfold PlayInv3
                  exact ⟨0, xa.map (Value.int .i64), by omega, rfl, by simp, by simp, hN⟩
                case round =>
                  obtain ⟨i, zs, hi, rfl, hzl, hzi, hs3⟩ := hrel
                  by_cases hlt3 : i < xa.length
                  · obtain ⟨g, cg, eg⟩ := hs3.row_some 0 rfl (by omega)
                    simp only [Value.slice.injEq, true_and] at eg
                    obtain ⟨rfl, rfl⟩ := eg
                    obtain ⟨cv, hcv⟩ : ∃ cv, zs[i]? = some (.int .i64 cv) := by
                      obtain ⟨z, hz⟩ : ∃ z, zs[i]? = some z := ⟨zs[i], by simp [hlt3, hzl]⟩
                      obtain ⟨c, rfl⟩ := hzi z (List.mem_of_getElem? hz)
                      exact ⟨c, hz⟩
                    have HZ : Hid (zs.length = xa.length) := hzl
                    clear hzl
                    have e6 : IntKind.i64.wrap ((i : Int) + 1) = (i : Int) + 1 := IntWalk.i64_in _ (by omega)
                    refine wp_seq ?_
                    refine wp_seq ?_
                    refine wp_region_lit ?_
                    iterate 4 (refine wpList_plainQ rfl (fun K Q' hK => ?_); go_simp; refine hK _ _ ?_; clear hK K; try clear Q')
                    refine wpList_nil ?_
                    show Code.wp _ _ _ _ _
                    -- stops at: cond
                    refine wp_cond_true (rfl) ?_
                    refine wp_skip ?_
                    show Code.wp _ _ _ _ _
                    refine wp_seq ?_
                    refine wp_block ?_
                    refine wp_region_lit ?_
                    iterate 3 (refine wpList_plainQ rfl (fun K Q' hK => ?_); go_simp; refine hK _ _ ?_; clear hK K; try clear Q')
                    -- stops at: load (Go.Op.load 3 (Go.Operand.tmp 239)) slot 240
                    have ce := hs3.rowcell 0 rfl i hcv
                    have cf := hs3.rowfree 0 rfl i
                    iterate 1 (refine wpList_plainQ rfl (fun K Q' hK => ?_); go_simp; refine hK _ _ ?_; clear hK K; try clear Q')
                    iterate 2 (refine wpList_plainQ rfl (fun K Q' hK => ?_); go_simp; refine hK _ _ ?_; clear hK K; try clear Q')
                    -- stops at: store (Go.Op.store 3 (Go.Operand.tmp 242) (Go.Operand.tmp 241)) slot None
                    refine wpList_plainQ rfl (fun K Q' hK => ?_); go_simp
                    refine hs3.k_setRow 0 rfl i (fun wT hT => ?_)
                    refine hK _ _ ?_; clear hK K; try clear Q'
                    clear ce cf
                    refine wpList_nil ?_
                    show Code.wp _ _ _ _ _
                    refine wp_region_lit ?_
                    iterate 3 (refine wpList_plainQ rfl (fun K Q' hK => ?_); go_simp; refine hK _ _ ?_; clear hK K; try clear Q')
                    refine wpList_nil ?_
                    -- stops at: end ('roundend',)
                    show _ ∧ _
                    go_roundw
                    case rel =>
                      show PlayInv3 _ _ _ _ _ _ _
                      unfold PlayInv3
                      exact ⟨i + 1, zs.set i _, by omega, by simp, by simpa using HZ.out, fun z hz => by
                        rcases List.mem_or_eq_of_mem_set hz with h | rfl
                        · exact hzi z h
                        · exact ⟨_, rfl⟩, hT⟩
                    case measure => simp [intOf]; omega
                  · obtain rfl : i = xa.length := by omega
                    as_aux_lemma =>
                    refine wp_seq ?_
                    refine wp_seq ?_
                    refine wp_region_lit ?_
                    iterate 4 (refine wpList_plainQ rfl (fun K Q' hK => ?_); go_simp; refine hK _ _ ?_; clear hK K; try clear Q')
                    refine wpList_nil ?_
                    show Code.wp _ _ _ _ _
                    -- stops at: cond
                    refine wp_cond_false (rfl) ?_
                    refine wp_exit ?_
                    show Code.wp _ _ _ _ _
                    refine wp_seq ?_
                    refine hs3.region [] [(0, true), (1, true), (2, true), (3, true), (5, true), (6, true), (7, true), (8, true), (4, false), (9, false), (10, true)] (by kernel_rfl) (by kernel_rfl) (fun w49 h49 => ?_)
                    refine wpOrd_hide (fun _ _ d _ _ h => by cases d <;> exact h) (fun QR hQn hQp => ?_)
                    simp only [ordOps, List.map_cons, List.map_nil, List.getD_cons_zero, List.getD_cons_succ]
                    iterate 3 (refine wpOrd_quiet (v := ?_) rfl (fun _ _ _ => hQp _ _ _ _ _) ?_ ?_; rotate_left; (intro w' hS; (first | (go_simp; done) | (go_simp; with_reducible rfl))); simp only [Act.put, List.setIfInBounds_toArray, List.set_cons_zero, List.set_cons_succ])
                    -- stops at: load (Go.Op.load 26 (Go.Operand.tmp 245)) slot 246
                    iterate 1 (refine wpOrd_quiet (v := ?_) rfl (fun _ _ _ => hQp _ _ _ _ _) ?_ ?_; rotate_left; (intro w' hS; have ce := cA.out _ (hS.1.le (hle8.trans leG)); (first | (go_simp; done) | (go_simp; with_reducible rfl))); simp only [Act.put, List.setIfInBounds_toArray, List.set_cons_zero, List.set_cons_succ])
                    iterate 3 (refine wpOrd_quiet (v := ?_) rfl (fun _ _ _ => hQp _ _ _ _ _) ?_ ?_; rotate_left; (intro w' hS; (first | (go_simp; done) | (go_simp; with_reducible rfl))); simp only [Act.put, List.setIfInBounds_toArray, List.set_cons_zero, List.set_cons_succ])
                    -- stops at: load (Go.Op.load 22 (Go.Operand.tmp 250)) slot 251
                    iterate 1 (refine wpOrd_quiet (v := ?_) rfl (fun _ _ _ => hQp _ _ _ _ _) ?_ ?_; rotate_left; (intro w' hS; have ce := cB.out _ (hS.1.le (hle8.trans leG)); (first | (go_simp; done) | (go_simp; with_reducible rfl))); simp only [Act.put, List.setIfInBounds_toArray, List.set_cons_zero, List.set_cons_succ])
                    -- stops at: eff:call (Go.Op.call {'callee': (Go.Callee.value (Go.Operand.func 10)), 'args': [(Go.Operand.tmp 246)], 'argTypes': [26]}) slot 247
                    refine wpOrd_effQ rfl (fun K Q' hK => ?_); go_simp
                    refine (CInt.all_ok H9 _ _ xa (by omega) h49.fits (hqa.mono leG)).mono ?_
                    rintro e wU ⟨v5, rfl, hp6⟩
                    obtain ⟨H11, hU, rU, leU⟩ := (h49.callrow hp6).settleRow 1 rfl
                    refine hK _ _ (hU.sat' leU [] (by kernel_rfl)) ?_; clear hK K; try clear Q'
                    -- stops at: eff:call (Go.Op.call {'callee': (Go.Callee.value (Go.Operand.func 9)), 'args': [(Go.Operand.tmp 247), (Go.Operand.tmp 251)], 'argTypes': [22, 22]}) slot 252
                    refine wpOrd_effQ rfl (fun K Q' hK => ?_); go_simp
                    refine (same_ok H11 _ _ _ xa xa (by omega) (by omega) hU.fits rU (hva.mono (leG.trans leU))).mono ?_
                    rintro e wV ⟨rfl, hkV⟩
                    simp only [decide_true]
                    have h51 := hU.callk hkV
                    refine hK _ _ (h51.sat' leU [] (by kernel_rfl)) ?_; clear hK K; try clear Q'
                    iterate 1 (refine wpOrd_quiet (v := ?_) rfl (fun _ _ _ => hQp _ _ _ _ _) ?_ ?_; rotate_left; (intro w' hS; (first | (go_simp; done) | (go_simp; with_reducible rfl))); simp only [Act.put, List.setIfInBounds_toArray, List.set_cons_zero, List.set_cons_succ])
                    refine wpOrd_nil (hQn _ _ ?_); clear hQn hQp QR
                    show Code.wp _ _ _ _ _
                    -- stops at: cond
                    refine wp_cond_false (rfl) ?_
                    refine wp_skip ?_
                    show Code.wp _ _ _ _ _
                    refine wp_region_lit ?_
                    iterate 3 (refine wpList_plainQ rfl (fun K Q' hK => ?_); go_simp; refine hK _ _ ?_; clear hK K; try clear Q')
                    refine wpList_nil ?_
                    -- stops at: end ('roundend',)
                    show _ ∧ _
                    go_roundw
                    case rel =>
                      show PlayInv2 _ _ _ _ _ _
                      unfold PlayInv2
                      exact ⟨j + 1, H11, by omega, by simp, hle8.trans (leG.trans leU), h51.subR (List.nil_sublist _)⟩
                    case measure => simp [intOf]; omega

            · obtain rfl : j = ps.length := by omega
              refine wp_seq ?_
              refine wp_seq ?_
              refine wp_region_lit ?_
              iterate 4 (refine wpList_plainQ rfl (fun K Q' hK => ?_); go_simp; refine hK _ _ ?_; clear hK K; try clear Q')
              refine wpList_nil ?_
              show Code.wp _ _ _ _ _
              -- stops at: cond
              refine wp_cond_false (rfl) ?_
              refine wp_exit ?_
              show Code.wp _ _ _ _ _
              refine wp_seq ?_
              refine wp_region_lit ?_
              iterate 1 (refine wpList_plainQ rfl (fun K Q' hK => ?_); go_simp; refine hK _ _ ?_; clear hK K; try clear Q')
              refine wpList_nil ?_
              show Code.wp _ _ _ _ _
              -- stops at: ret
              refine wp_ret ?_
              go_ret
              exact ⟨rfl, hs2.post.keep⟩
        -- END LOOP2
    · have hl2 : decide ((20 : Int) < (ls.length : Int)) = true := by simp; omega
      go_enter Try.func4, Try.ntmps4
      have h0 := St.start hpre
      refine wp_seq ?_
      refine wp_region_lit ?_
      iterate 1 (refine wpList_plainQ rfl (fun K Q' hK => ?_); go_simp; refine hK _ _ ?_; clear hK K; try clear Q')
      refine wpList_nil ?_
      show Code.wp _ _ _ _ _
      refine wp_seq ?_
      refine wp_region_lit ?_
      -- stops at: eff:call (Go.Op.call {'callee': (Go.Callee.value (Go.Operand.func 6)), 'args': [], 'argTypes': []}) slot 18
      refine wpList_plainQ rfl (fun K Q' hK => ?_); go_simp
      refine (awake_ok _).mono ?_
      rintro e wA ⟨rfl, hkA⟩
      have h1 := h0.callk hkA
      refine hK _ _ ?_; clear hK K; try clear Q'
      iterate 1 (refine wpList_plainQ rfl (fun K Q' hK => ?_); go_simp; refine hK _ _ ?_; clear hK K; try clear Q')
      refine wpList_nil ?_
      show Code.wp _ _ _ _ _
      refine wp_seq ?_
      refine wp_seq ?_
      refine wp_region_lit ?_
      iterate 2 (refine wpList_plainQ rfl (fun K Q' hK => ?_); go_simp; refine hK _ _ ?_; clear hK K; try clear Q')
      refine wpList_nil ?_
      show Code.wp _ _ _ _ _
      -- stops at: cond
      refine wp_cond_false (rfl) ?_
      refine wp_skip ?_
      show Code.wp _ _ _ _ _
      refine wp_seq ?_
      refine wp_seq ?_
      refine wp_region_lit ?_
      iterate 4 (refine wpList_plainQ rfl (fun K Q' hK => ?_); go_simp; refine hK _ _ ?_; clear hK K; try clear Q')
      first | go_skip | (iterate 3 (refine wpList_stepQ (o := { dst := _, op := _, type := _, pos := _, after := _, guard := some (3, false) }) (fun K Q' hK => ?_); go_simp; refine hK _ _ ?_; clear hK K; try clear Q')) | skip
      iterate 1 (refine wpList_plainQ rfl (fun K Q' hK => ?_); go_simp; refine hK _ _ ?_; clear hK K; try clear Q')
      refine wpList_nil ?_
      show Code.wp _ _ _ _ _
      -- stops at: cond
      refine wp_cond_true (rfl) ?_
      refine wp_seq ?_
      refine wp_region_lit ?_
      iterate 1 (refine wpList_plainQ rfl (fun K Q' hK => ?_); go_simp; refine hK _ _ ?_; clear hK K; try clear Q')
      refine wpList_nil ?_
      show Code.wp _ _ _ _ _
      -- stops at: ret
      refine wp_ret ?_
      go_ret
      exact ⟨rfl, h1.post.keep⟩
  · have hl1 : decide ((30 : Int) < (xs.length : Int)) = true := by simp; omega
    go_enter Try.func4, Try.ntmps4
    have h0 := St.start hpre
    refine wp_seq ?_
    refine wp_region_lit ?_
    iterate 1 (refine wpList_plainQ rfl (fun K Q' hK => ?_); go_simp; refine hK _ _ ?_; clear hK K; try clear Q')
    refine wpList_nil ?_
    show Code.wp _ _ _ _ _
    refine wp_seq ?_
    refine wp_region_lit ?_
    -- stops at: eff:call (Go.Op.call {'callee': (Go.Callee.value (Go.Operand.func 6)), 'args': [], 'argTypes': []}) slot 18
    refine wpList_plainQ rfl (fun K Q' hK => ?_); go_simp
    refine (awake_ok _).mono ?_
    rintro e wA ⟨rfl, hkA⟩
    have h1 := h0.callk hkA
    refine hK _ _ ?_; clear hK K; try clear Q'
    iterate 1 (refine wpList_plainQ rfl (fun K Q' hK => ?_); go_simp; refine hK _ _ ?_; clear hK K; try clear Q')
    refine wpList_nil ?_
    show Code.wp _ _ _ _ _
    refine wp_seq ?_
    refine wp_seq ?_
    refine wp_region_lit ?_
    iterate 2 (refine wpList_plainQ rfl (fun K Q' hK => ?_); go_simp; refine hK _ _ ?_; clear hK K; try clear Q')
    refine wpList_nil ?_
    show Code.wp _ _ _ _ _
    -- stops at: cond
    refine wp_cond_false (rfl) ?_
    refine wp_skip ?_
    show Code.wp _ _ _ _ _
    refine wp_seq ?_
    refine wp_seq ?_
    refine wp_region_lit ?_
    iterate 4 (refine wpList_plainQ rfl (fun K Q' hK => ?_); go_simp; refine hK _ _ ?_; clear hK K; try clear Q')
    first | go_skip | (iterate 3 (refine wpList_stepQ (o := { dst := _, op := _, type := _, pos := _, after := _, guard := some (3, false) }) (fun K Q' hK => ?_); go_simp; refine hK _ _ ?_; clear hK K; try clear Q')) | skip
    iterate 1 (refine wpList_plainQ rfl (fun K Q' hK => ?_); go_simp; refine hK _ _ ?_; clear hK K; try clear Q')
    refine wpList_nil ?_
    show Code.wp _ _ _ _ _
    -- stops at: cond
    refine wp_cond_true (rfl) ?_
    refine wp_seq ?_
    refine wp_region_lit ?_
    iterate 1 (refine wpList_plainQ rfl (fun K Q' hK => ?_); go_simp; refine hK _ _ ?_; clear hK K; try clear Q')
    refine wpList_nil ?_
    show Code.wp _ _ _ _ _
    -- stops at: ret
    refine wp_ret ?_
    go_ret
    exact ⟨rfl, h1.post.keep⟩
end Go.Proofs.Ytallllpjjhcaoaa
