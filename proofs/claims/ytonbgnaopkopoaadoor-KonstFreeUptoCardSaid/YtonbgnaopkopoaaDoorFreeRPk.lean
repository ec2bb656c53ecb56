/-
  ast.Free's LOOP: one round.
-/
import Derived.Test.YtonbgnaopkopoaaDoorFreePPk
import Derived.Test.YtonbgnaopkopoaaDoorGoodXPk
import Derived.Test.YtonbgnaopkopoaaDoorFactsPk
import Derived.Test.YtonbgnaopkopoaaDoorShelfPk
namespace Go.Proofs.YtonbgnaopkopoaaDoor
open Go Go.RowKit Go.Shelf
set_option linter.all false
set_option linter.unusedVariables false
set_option linter.unusedSimpArgs false
set_option linter.unusedVariables false
set_option linter.unusedSimpArgs false
attribute [local go_sem] Oper.semAt_some run_store_one

theorem infoS : (Tryd.prog.info? 9).map (fun i => (i.zero, i.size, i.bytes)) = some (some (.string ⟨#[]⟩), 1, 16) := by kernel_rfl
theorem contains_any (outs : List ByteArray) (vo : Value) (nm : ByteArray) (w : World) (n0 : Nat) (h : w.ownsRow n0 9 1 vo outs.length (outs.map .string)) :
    Calls Tryd.prog 49 #[vo, .string nm] w fun e w' => e = .returned (.bool (yes (nm ∈ outs))) ∧ w' = w := by
  rcases h.2 with ⟨rfl, h0⟩ | ⟨g, cap, cur, rfl, _, hg, _, hm, _⟩
  · have : outs = [] := List.eq_nil_of_length_eq_zero h0
    subst this
    rw [show yes (nm ∈ ([] : List ByteArray)) = false from yes_no.2 (fun h => by cases h)]
    exact Tryd.slices_Contains_string_empty none 0 nm w
  · have hc := Tryd.slices_Contains_string g 0 outs.length cap outs nm w (Nat.le_refl _) (by simp only [maxLen] at hm; omega) (fun j hj => by
      rw [h.cellAt (0 + j) (by omega), Nat.zero_add, List.getElem?_map, List.getElem?_eq_getElem hj]
      simp [List.getD, hj])
    rw [List.take_length] at hc
    have he : Go.Lib.containsS outs nm = yes (nm ∈ outs) := by rw [Bool.eq_iff_iff, Go.Lib.containsS_iff, yes_iff]
    rw [← he]
    exact hc

/-- The frame at the loop's head. -/
def Head (bl : Nat) (vo : Value) (ds : List Deferred) (a : Act) : Prop := a.tmps.size = 50 ∧ a.tmps.getD 3 undef = vo ∧ a.tmps.getD 4 undef = .pointer (some ⟨bl, 0, none⟩) ∧ a.defers = ds

set_option maxRecDepth 100000 in
set_option maxHeartbeats 4000000 in
theorem free_round (n : Nat) (hn : 4 ≤ n) (w0 : World) (B bl : Nat) (hB : B ≤ w0.heap.size) (y : X) (T : List X) (outs : List ByteArray) (vo : Value) (ds : List Deferred) (sa : Option Addr) (c : Nat) (xs : List Value) (W : World) (h : FI w0 B w0.heap.size bl (y :: T) outs vo ds sa c xs W) (hbl : w0.heap.size ≤ bl)
    (hT : outs.length + msize sizeX (y :: T) ≤ 100000000) (a : Act) (ha : Head bl vo ds a) (K : Act → World → Prop) (Qb : Exit → Act → World → Prop)
    (hK : ∀ a' D W' sa' c' xs' outs' vo', outs' = (if hasName y.op then addOne outs y.name else outs) → FI w0 B w0.heap.size bl (y.l ++ T) outs' vo' ({ target := .collected D, args := #[] } :: ds) sa' c' xs' W' → Head bl vo' ({ target := .collected D, args := #[] } :: ds) a' → K a' W') :
    (part [1,1,1,0,0,0] freeCode).wpIn Fence.wide n Tryd.prog (Exit.then K Qb) a W := by
  obtain ⟨hs, h3, h4, hd⟩ := ha
  obtain ⟨g, cap, hsa⟩ := ownsRow_succ h.row
  cases hsa
  obtain ⟨xs', cs, rfl, hstk, hRy⟩ := h.stk.pop
  obtain ⟨a5, rfl, hSy⟩ := RX_iff.1 hRy
  have hxl := hstk.len
  have hcell := fun j (hj : j < 6) => show W.cell? ⟨g, T.length * 6 + j, none⟩ = _ from (h.row.cellAt (T.length * 6 + j) (by simp only [List.length_cons]; omega)).trans (by rw [← hxl, List.getElem?_append_right (by omega), Nat.add_sub_cancel_left])
  have i0 := hcell 0 (by decide)
  have i1 := hcell 1 (by decide)
  have i2 := hcell 2 (by decide)
  have i3 := hcell 3 (by decide)
  have i4 := hcell 4 (by decide)
  have i5 := hcell 5 (by decide)
  simp only [Nat.add_zero, List.getElem?_cons_zero, List.getElem?_cons_succ] at i0 i1 i2 i3 i4 i5
  obtain ⟨sb, capb, rfl, hcapb, hrowy⟩ := hSy
  have hb := h.box
  simp only [List.length_cons] at hb
  have hbc := hb.cell
  have hbf := hb.frozen
  rw [act_lit hs hd]
  simp only [List.range, List.range.loop, List.map_cons, List.map_nil, h3, h4]
  generalize a.tmps.getD 0 undef = u0
  generalize a.tmps.getD 1 undef = u1
  generalize a.tmps.getD 2 undef = u2
  generalize a.tmps.getD 5 undef = u5
  generalize a.tmps.getD 6 undef = u6
  generalize a.tmps.getD 7 undef = u7
  generalize a.tmps.getD 8 undef = u8
  generalize a.tmps.getD 9 undef = u9
  generalize a.tmps.getD 10 undef = u10
  generalize a.tmps.getD 11 undef = u11
  generalize a.tmps.getD 12 undef = u12
  generalize a.tmps.getD 13 undef = u13
  generalize a.tmps.getD 14 undef = u14
  generalize a.tmps.getD 15 undef = u15
  generalize a.tmps.getD 16 undef = u16
  generalize a.tmps.getD 17 undef = u17
  generalize a.tmps.getD 18 undef = u18
  generalize a.tmps.getD 19 undef = u19
  generalize a.tmps.getD 20 undef = u20
  generalize a.tmps.getD 21 undef = u21
  generalize a.tmps.getD 22 undef = u22
  generalize a.tmps.getD 23 undef = u23
  generalize a.tmps.getD 24 undef = u24
  generalize a.tmps.getD 25 undef = u25
  generalize a.tmps.getD 26 undef = u26
  generalize a.tmps.getD 27 undef = u27
  generalize a.tmps.getD 28 undef = u28
  generalize a.tmps.getD 29 undef = u29
  generalize a.tmps.getD 30 undef = u30
  generalize a.tmps.getD 31 undef = u31
  generalize a.tmps.getD 32 undef = u32
  generalize a.tmps.getD 33 undef = u33
  generalize a.tmps.getD 34 undef = u34
  generalize a.tmps.getD 35 undef = u35
  generalize a.tmps.getD 36 undef = u36
  generalize a.tmps.getD 37 undef = u37
  generalize a.tmps.getD 38 undef = u38
  generalize a.tmps.getD 39 undef = u39
  generalize a.tmps.getD 40 undef = u40
  generalize a.tmps.getD 41 undef = u41
  generalize a.tmps.getD 42 undef = u42
  generalize a.tmps.getD 43 undef = u43
  generalize a.tmps.getD 44 undef = u44
  generalize a.tmps.getD 45 undef = u45
  generalize a.tmps.getD 46 undef = u46
  generalize a.tmps.getD 47 undef = u47
  generalize a.tmps.getD 48 undef = u48
  generalize a.tmps.getD 49 undef = u49
  clear hs h3 h4 hd
  obtain ⟨W1, hW1⟩ : ∃ W1, W1 = W.alloc (.cells #[.int .i64 y.op, .string y.name, .int .i64 y.n, .int .i64 y.w, .int .u64 y.v, .slice sb y.l.length capb] 25) := ⟨_, rfl⟩
  have hV1 := hW1.symm
  obtain ⟨W2, hW2⟩ : ∃ W2, W2 = W1.setCell ⟨bl, 0, none⟩ (.slice (some ⟨g, 0, none⟩) T.length c) := ⟨_, rfl⟩
  have hV2 := hW2.symm
  have hb1 : Boxed W1 bl 23 (.slice (some ⟨g, 0, none⟩) (T.length + 1) c) := by rw [hW1]; exact hb.alloc _
  have hb2 : Boxed W2 bl 23 (.slice (some ⟨g, 0, none⟩) T.length c) := by rw [hW2]; exact hb1.set _
  have j1 := hb1.cell
  have j1f := hb1.frozen
  have hlt := hb.lt
  have hy1 : Blk W1 W.heap.size 25 [.int .i64 y.op, .string y.name, .int .i64 y.n, .int .i64 y.w, .int .u64 y.v, .slice sb y.l.length capb] := by rw [hW1]; exact Blk.new W _ _
  have hy2 : Blk W2 W.heap.size 25 [.int .i64 y.op, .string y.name, .int .i64 y.n, .int .i64 y.w, .int .u64 y.v, .slice sb y.l.length capb] := by rw [hW2]; exact hy1.far (p := ⟨bl, 0, none⟩) (show W.heap.size ≠ bl by omega) _
  obtain ⟨y0, y1, y2, y3, y4, y5⟩ := hy2.get6
  have HW := hide (And.intro hW1 hW2)
  clear hW1 hW2
  have hTl : T.length ≤ 100000000 := by have := length_le_msize sizeX (y :: T) sizeX_pos; simp only [List.length_cons] at this; omega
  have hTc : T.length + 1 ≤ c := by
    rcases h.row.2 with ⟨h0, _⟩ | ⟨_, _, _, e, _, _, hnc, _⟩
    · cases h0
    · cases e
      simpa using hnc
  have hTc1 : (T.length : Int) ≤ c := by omega
  have hTc2 : ¬ c = 0 := by omega
  have hTc3 : ¬ 0 = c := by omega
  have hTg : (0 : Int) < (T.length : Int) + 1 := by omega
  have hsizes := hide hT
  have HFI := hide h
  have HHK := hide hK
  clear h hK hT
  have hn0 : w0.heap.size ≤ W.heap.size := HFI.out.below.size
  have HF2 := hide (show FI w0 B w0.heap.size bl T outs vo ds (some ⟨g, 0, none⟩) c xs' W2 from by
    rw [HW.out.2, HW.out.1]
    exact HFI.out.pop hstk hn0 hbl _)
  have hyl : y.l.length ≤ 100000000 := by
    have h1 := hsizes.out
    have h2 := length_le_msize sizeX y.l sizeX_pos
    have h3 := sizeX_eq y
    simp only [msize] at h1
    omega
  have hol : outs.length ≤ 100000000 := by have := hsizes.out; omega
  have hW2 : w0.heap.size ≤ W2.heap.size := HF2.out.below.size
  have HRY := hide hrowy
  have HY2 := hide hy2
  clear hrowy hRy hb1 hb2 hy1 hy2 hb hcapb
  have END := hide (fun (outs' : List ByteArray) (vo' : Value) (W' : World) (heq : outs' = (if hasName y.op then addOne outs y.name else outs)) (hF : FI w0 B w0.heap.size bl T outs' vo' ds (some ⟨g, 0, none⟩) c xs' W') =>
    free_range n (by omega) w0 B bl hB T outs' vo' ds (some ⟨g, 0, none⟩) c xs' W' hF hbl (by omega) y.l (by omega) sb capb HRY.out)
  by_cases hnm : isNamed y.op
  · have GT := hide (fun w => (show yes (isNamed y.op) = true from yes_iff.2 hnm) ▸ target_any y.op (.string y.name) (.int .i64 y.n) (.int .i64 y.w) (.int .u64 y.v) (.slice sb y.l.length capb) rfl rfl rfl rfl rfl w)
    have hhn : hasName y.op = true := by rw [← yes_named]; exact yes_iff.2 hnm
    have qnm := hide hhn
    clear hnm hhn
    by_cases hin : y.name ∈ outs
    · have GC := hide (fun w (hw : Ext W2 w) => (show yes (y.name ∈ outs) = true from yes_iff.2 hin) ▸ contains_any outs vo y.name w w0.heap.size (HF2.out.ext hW2 hw).out)
      have hadd : outs = (if hasName y.op then addOne outs y.name else outs) := by rw [qnm.out, if_pos rfl, addOne_in hin]
      have qin := hide hadd
      clear hin hadd
      simp only [freeCode, Tryd.f34, Option.getD, part] at END ⊢
      gi_wp2_with (first
        | (refine ⟨trivial, (fun h => by cases h), ?_⟩; refine (callsIn_wide.2 (GT.out _)).mono ?_; rintro e w3 ⟨rfl, hx3⟩; have y5' := hx3.at_ y5; have y1' := hx3.at_ y1)
        | (refine ⟨trivial, (fun h => by cases h), ?_⟩; refine (callsIn_wide.2 (GC.out _ hx3)).mono ?_; rintro e w4 ⟨rfl, rfl⟩)
        | (refine ⟨trivial, (fun h => by cases h), ?_⟩; refine (backward_in Fence.wide _ trivial rfl _ _ _ _).mono ?_; rintro e w' ⟨rfl, rfl⟩)
        | refine ⟨trivial, ?_⟩)
      refine END.out outs vo w4 qin.out (HF2.out.ext hW2 hx3) _ _ _ _ _ _ _ _ _ _ _ _ _ _ _ _ _ _ _ _ _ _ _ _ _ _ _ _ _ _ _ _ _ _ _ _ _ _ _ _ _ _ _ _ _ _ _ _ _ ?_
      intro D W' sa' c' xs2 hF
      exact HHK.out _ D W' sa' c' xs2 _ _ qin.out hF ⟨rfl, rfl, rfl, rfl⟩
    · have GC := hide (fun w (hw : Ext W2 w) => (show yes (y.name ∈ outs) = false from yes_no.2 hin) ▸ contains_any outs vo y.name w w0.heap.size (HF2.out.ext hW2 hw).out)
      have hadd : outs ++ [y.name] = (if hasName y.op then addOne outs y.name else outs) := by rw [qnm.out, if_pos rfl, addOne_out hin]
      have qin := hide hadd
      clear hin hadd
      obtain ⟨ti, hti, htz, hts, htb⟩ := info_parts infoS
      simp only [freeCode, Tryd.f34, Option.getD, part] at END ⊢
      have hyne : some W.heap.size ≠ vo.ownBlock := by
        rcases row_cells HF2.out.out with h0 | ⟨g', cur, h1, h2⟩
        · rw [h0]; simp
        · intro e
          rw [h1] at e
          cases e
          have := (show W2.heap[_]? = _ from HY2.out).symm.trans h2
          simp at this
      gi_wp2_with (first
        | (gi_at_builtin; refine wpListIn_append_own _ rfl _ _ 53 rfl w0.heap.size 9 ti (.string ⟨#[]⟩) 1 16 Tryd.underlying53 hti htz hts htb rfl (by decide) vo outs.length (outs.map .string) rfl ((HF2.out.ext hW2 hx3).out.alloc _) ⟨w4.heap.size, 0, none⟩ 1 1 [.string y.name] rfl rfl (cell_one_new _ _ _) (by simp [Value.oneCell']) (by simp only [maxLen]; omega) (by omega) (by have := hx3.size; simp; omega) ?_; intro v' w5 hown' hgrow _; have y5'' := hgrow.cell ((Ext.new _ _).at_ y5') hyne)
        | (refine ⟨trivial, (fun h => by cases h), ?_⟩; refine (callsIn_wide.2 (GT.out _)).mono ?_; rintro e w3 ⟨rfl, hx3⟩; have y5' := hx3.at_ y5; have y1' := hx3.at_ y1)
        | (refine ⟨trivial, (fun h => by cases h), ?_⟩; refine (callsIn_wide.2 (GC.out _ hx3)).mono ?_; rintro e w4 ⟨rfl, rfl⟩)
        | (refine ⟨trivial, (fun h => by cases h), ?_⟩; refine (backward_in Fence.wide _ trivial rfl _ _ _ _).mono ?_; rintro e w' ⟨rfl, rfl⟩)
        | refine ⟨trivial, ?_⟩)
      refine END.out (outs ++ [y.name]) v' w5 qin.out ((HF2.out.ext hW2 hx3).append (by have := hx3.size; omega) hown' hgrow) _ _ _ _ _ _ _ _ _ _ _ _ _ _ _ _ _ _ _ _ _ _ _ _ _ _ _ _ _ _ _ _ _ _ _ _ _ _ _ _ _ _ _ _ _ _ _ _ _ ?_
      intro D W' sa' c' xs2 hF
      exact HHK.out _ D W' sa' c' xs2 _ _ qin.out hF ⟨rfl, rfl, rfl, rfl⟩
  · have GT := hide (fun w => (show yes (isNamed y.op) = false from yes_no.2 hnm) ▸ target_any y.op (.string y.name) (.int .i64 y.n) (.int .i64 y.w) (.int .u64 y.v) (.slice sb y.l.length capb) rfl rfl rfl rfl rfl w)
    have hhn : hasName y.op = false := by rw [← yes_named]; exact yes_no.2 hnm
    have qnm := hide hhn
    clear hnm hhn
    simp only [freeCode, Tryd.f34, Option.getD, part] at END ⊢
    gi_wp2_with (first
      | (refine ⟨trivial, (fun h => by cases h), ?_⟩; refine (callsIn_wide.2 (GT.out _)).mono ?_; rintro e w3 ⟨rfl, hx3⟩; have y5' := hx3.at_ y5)
      | (refine ⟨trivial, (fun h => by cases h), ?_⟩; refine (backward_in Fence.wide _ trivial rfl _ _ _ _).mono ?_; rintro e w' ⟨rfl, rfl⟩)
      | refine ⟨trivial, ?_⟩)
    refine END.out outs vo w3 (by rw [qnm.out]; rfl) (HF2.out.ext hW2 hx3) _ _ _ _ _ _ _ _ _ _ _ _ _ _ _ _ _ _ _ _ _ _ _ _ _ _ _ _ _ _ _ _ _ _ _ _ _ _ _ _ _ _ _ _ _ _ _ _ _ ?_
    intro D W' sa' c' xs2 hF
    exact HHK.out _ D W' sa' c' xs2 _ _ (by rw [qnm.out]; rfl) hF ⟨rfl, rfl, rfl, rfl⟩

end Go.Proofs.YtonbgnaopkopoaaDoor

/-
  THE CONTRACT OF PACKAGE ast's Free.
-/
namespace Go.Proofs.YtonbgnaopkopoaaDoor
open Go Go.RowKit Go.Shelf
set_option linter.all false
set_option linter.unusedVariables false
set_option linter.unusedSimpArgs false
set_option linter.unusedVariables false
set_option linter.unusedSimpArgs false
attribute [local go_sem] Oper.semAt_some run_store_one

set_option maxRecDepth 100000 in
set_option maxHeartbeats 1000000 in
theorem free_empty (n : Nat) (w0 : World) (B bl : Nat) (outs : List ByteArray) (vo : Value) (ds : List Deferred) (sa : Option Addr) (c : Nat) (xs : List Value) (W : World) (h : FI w0 B w0.heap.size bl [] outs vo ds sa c xs W)
    (a : Act) (ha : Head bl vo ds a) (K : Act → World → Prop) (Qb : Exit → Act → World → Prop) (hQ : ∀ a', Head bl vo ds a' → Qb (.exit 0) a' W) :
    (part [1,1,1,0,0,0] freeCode).wpIn Fence.wide n Tryd.prog (Exit.then K Qb) a W := by
  obtain ⟨hs, h3, h4, hd⟩ := ha
  have hb := h.box
  simp only [List.length_nil] at hb
  have hbc := hb.cell
  have hbf := hb.frozen
  rw [act_lit hs hd]
  simp only [List.range, List.range.loop, List.map_cons, List.map_nil, h3, h4]
  generalize a.tmps.getD 0 undef = u0
  generalize a.tmps.getD 1 undef = u1
  generalize a.tmps.getD 2 undef = u2
  generalize a.tmps.getD 5 undef = u5
  generalize a.tmps.getD 6 undef = u6
  generalize a.tmps.getD 7 undef = u7
  generalize a.tmps.getD 8 undef = u8
  generalize a.tmps.getD 9 undef = u9
  generalize a.tmps.getD 10 undef = u10
  generalize a.tmps.getD 11 undef = u11
  generalize a.tmps.getD 12 undef = u12
  generalize a.tmps.getD 13 undef = u13
  generalize a.tmps.getD 14 undef = u14
  generalize a.tmps.getD 15 undef = u15
  generalize a.tmps.getD 16 undef = u16
  generalize a.tmps.getD 17 undef = u17
  generalize a.tmps.getD 18 undef = u18
  generalize a.tmps.getD 19 undef = u19
  generalize a.tmps.getD 20 undef = u20
  generalize a.tmps.getD 21 undef = u21
  generalize a.tmps.getD 22 undef = u22
  generalize a.tmps.getD 23 undef = u23
  generalize a.tmps.getD 24 undef = u24
  generalize a.tmps.getD 25 undef = u25
  generalize a.tmps.getD 26 undef = u26
  generalize a.tmps.getD 27 undef = u27
  generalize a.tmps.getD 28 undef = u28
  generalize a.tmps.getD 29 undef = u29
  generalize a.tmps.getD 30 undef = u30
  generalize a.tmps.getD 31 undef = u31
  generalize a.tmps.getD 32 undef = u32
  generalize a.tmps.getD 33 undef = u33
  generalize a.tmps.getD 34 undef = u34
  generalize a.tmps.getD 35 undef = u35
  generalize a.tmps.getD 36 undef = u36
  generalize a.tmps.getD 37 undef = u37
  generalize a.tmps.getD 38 undef = u38
  generalize a.tmps.getD 39 undef = u39
  generalize a.tmps.getD 40 undef = u40
  generalize a.tmps.getD 41 undef = u41
  generalize a.tmps.getD 42 undef = u42
  generalize a.tmps.getD 43 undef = u43
  generalize a.tmps.getD 44 undef = u44
  generalize a.tmps.getD 45 undef = u45
  generalize a.tmps.getD 46 undef = u46
  generalize a.tmps.getD 47 undef = u47
  generalize a.tmps.getD 48 undef = u48
  generalize a.tmps.getD 49 undef = u49
  have HQ := hide hQ
  clear hs h3 h4 hd h hb hQ
  simp only [freeCode, Tryd.f34, Option.getD, part]
  gi_wp2
  exact HQ.out _ ⟨rfl, rfl, rfl, rfl⟩

theorem free_loop (n : Nat) (hn : 4 ≤ n) (w0 : World) (B bl : Nat) (hB : B ≤ w0.heap.size) (hbl : w0.heap.size ≤ bl) (Qb : Exit → Act → World → Prop) (F : List ByteArray) (hQ : ∀ a' W' vo' ds' sa' c' xs', FI w0 B w0.heap.size bl [] F vo' ds' sa' c' xs' W' → Head bl vo' ds' a' → Qb (.exit 0) a' W') :
    ∀ (m : Nat) (T : List X) (outs : List ByteArray) (vo : Value) (ds : List Deferred) (sa : Option Addr) (c : Nat) (xs : List Value) (W : World) (a : Act), msize sizeX T < m → FI w0 B w0.heap.size bl T outs vo ds sa c xs W → Head bl vo ds a → outs.length + msize sizeX T ≤ 100000000 →
      addAll outs (T.flatMap namesX) = F → Code.roundsIn Fence.wide n Tryd.prog (part [1,1,1,0,0,0] freeCode) Qb m a W := by
  intro m
  induction m with
  | zero => intro T outs vo ds sa c xs W a hm; omega
  | succ m ih =>
    intro T outs vo ds sa c xs W a hm h ha hsz hF
    rw [roundsIn_succ]
    cases T with
    | nil =>
      have hF' : outs = F := hF
      subst hF'
      exact free_empty n w0 B bl outs vo ds sa c xs W h a ha _ Qb (fun a' ha' => hQ a' W vo ds sa c xs h ha')
    | cons y T =>
      refine free_round n hn w0 B bl hB y T outs vo ds sa c xs W h hbl hsz a ha _ Qb (fun a' D W' sa' c' xs' outs' vo' ho hI hH => ?_)
      have h1 := sizeX_eq y
      have h2 : msize sizeX (y.l ++ T) = msize sizeX y.l + msize sizeX T := msize_append _ _ _
      simp only [msize] at hm hsz
      have h3 : outs'.length ≤ outs.length + 1 := by
        rw [ho]
        cases hasName y.op
        · simp
        · exact addOne_le _ _
      refine ih (y.l ++ T) outs' vo' _ sa' c' xs' W' a' (by omega) hI hH (by omega) ?_
      rw [← hF, List.flatMap_cons, List.flatMap_append, namesX_eq y, List.append_assoc, addAll_append (o := outs), ho]
      cases hasName y.op
      · rfl
      · rfl

/-- The marks are taken down; what is held lies as it lay. -/
theorem leaves_marks (n : Nat) (fn : Func) (tmps : Array Value) (w0 : World) (vo : Value) (outs : List ByteArray) (hfn : fn.results = #[.tmp 2]) (ht : tmps.getD 2 undef = vo) :
    ∀ (ds : List Deferred) (W : World), Marks w0.heap.size ds W → W.ownsRow w0.heap.size 9 1 vo outs.length (outs.map .string) → Below w0.heap.size w0 W →
      LeavesInM Fence.wide n Tryd.prog fn tmps (fun e w' => ∃ v, e = .returned v ∧ w'.ownsRow w0.heap.size 9 1 v outs.length (outs.map .string) ∧ Ext w0 w') ds .returning W := by
  intro ds
  induction ds with
  | nil =>
    intro W hm ho hb
    exact ⟨_, results_tmp hfn _ _ _, _, rfl, by rw [ht]; exact ho, hb⟩
  | cons d ds ih =>
    intro W hm ho hb
    obtain ⟨D, rfl, hD, hK⟩ := hm.1 d (List.mem_cons_self ..)
    refine ⟨by simp, .inl ⟨D, _, rfl, run_takeDeferred hK, ih _ ⟨fun d hd => ?_, (List.pairwise_cons.1 hm.2).2⟩ (ownsRow_putObj ho _ hK rfl) (hb.trans (belowK_b (w := w0) (Nat.le_refl _) W D _ _ hD hK rfl rfl))⟩⟩
    obtain ⟨D', rfl, hD', hK'⟩ := hm.1 d (List.mem_cons_of_mem _ hd)
    refine ⟨D', rfl, hD', (World.putObj_heap_other (fun e => ?_)).trans hK'⟩
    subst e
    exact (List.pairwise_cons.1 hm.2).1 _ hd rfl

set_option maxRecDepth 100000 in
set_option maxHeartbeats 2000000 in
theorem Free_any (B : Nat) (x : X) (w : World) (cs : List Value) (hR : RX w B x cs) (hB : B ≤ w.heap.size) (hsz : sizeX x ≤ 100000000) :
    Calls Tryd.prog 34 #[.agg cs.toArray] w fun e w' => ∃ v, e = .returned v ∧ w'.ownsRow w.heap.size 9 1 v (freeX x).length ((freeX x).map .string) ∧ Ext w w' := by
  refine (callsIn_wide (n := 6)).1 ?_
  have HR := hide hR
  obtain ⟨a5, rfl, hS⟩ := RX_iff.1 hR
  have o5 := hS.oneCell
  clear hR hS
  refine callsIn_of_wp_marks Tryd.func34 rfl trivial ?_ rfl
  simp only [Tryd.ntmps34, List.size_toArray, List.length_cons, List.length_nil, Nat.reduceAdd, Nat.reduceSub, Array.replicate_succ, Array.replicate_zero, List.push_toArray, List.append_toArray, List.nil_append, List.cons_append]
  have hlen := RX_len HR.out
  obtain ⟨W1, hW1⟩ : ∃ W1, W1 = w.alloc (.cells #[.int .i64 x.op, .string x.name, .int .i64 x.n, .int .i64 x.w, .int .u64 x.v, a5] 25) := ⟨_, rfl⟩
  obtain ⟨W2, hW2⟩ : ∃ W2, W2 = W1.alloc (.cells #[.int .i64 x.op, .string x.name, .int .i64 x.n, .int .i64 x.w, .int .u64 x.v, a5] 25) := ⟨_, rfl⟩
  obtain ⟨W3, hW3⟩ : ∃ W3, W3 = W2.alloc (.cells #[.slice (some ⟨w.heap.size + 1, 0, none⟩) 1 1] 23) := ⟨_, rfl⟩
  have hs1 : W1.heap.size = w.heap.size + 1 := by rw [hW1]; simp
  have hs2 : W2.heap.size = w.heap.size + 1 + 1 := by rw [hW2]; simp [hs1]
  have hB3 : Below w.heap.size w W3 := by
    rw [hW3, hW2, hW1]
    exact (((Below.refl _ w).alloc (Nat.le_refl _) _).alloc (by simp) _).alloc (by simp; omega) _
  have hrow2 := World.ownsRow_lit (base := w.heap.size) (e := 25) (size := 6) W1 #[.int .i64 x.op, .string x.name, .int .i64 x.n, .int .i64 x.w, .int .u64 x.v, a5] 1 (by omega) (by decide) rfl
  rw [hs1, ← hW2] at hrow2
  have hI : FI w B w.heap.size (w.heap.size + 1 + 1) [x] [] (.slice none 0 0) [] (some ⟨w.heap.size + 1, 0, none⟩) 1 ([] ++ [.int .i64 x.op, .string x.name, .int .i64 x.n, .int .i64 x.w, .int .u64 x.v, a5]) W3 := by
    refine ⟨?_, ?_, SR.push [] [] x _ .nil HR.out, World.ownsRow_nil _ _ _ _, hB3, ⟨fun d hd => (by cases hd), .nil⟩⟩
    · have := Boxed.new W2 23 (.slice (some ⟨w.heap.size + 1, 0, none⟩) 1 1)
      rw [hs2, ← hW3] at this
      exact this
    · rw [hW3]; exact hrow2.alloc _
  have HI := hide hI
  have HLOOP := hide (free_loop 6 (by omega) w B (w.heap.size + 1 + 1) hB (by omega))
  have HW := hide (And.intro hW1 (And.intro hW2 hW3))
  clear hW1 hW2 hW3 hI hs1 hs2 hrow2 hB3
  simp only [freeCode, Tryd.f34, Option.getD, part] at HLOOP
  gi_wp2
  rw [← HW.out.1, ← HW.out.2.1, ← HW.out.2.2]
  refine wpIn_loop_rounds (sizeX x + 1) (HLOOP.out _ (freeX x) ?_ (sizeX x + 1) [x] [] (.slice none 0 0) [] _ _ _ W3 _ (by simp [msize]) HI.out ⟨rfl, rfl, rfl, rfl⟩ (by simpa [msize] using hsz) (by simp [freeX]))
  rintro a' W' vo' ds' sa' c' xs' hI ⟨hs, h3, h4, hd⟩
  rw [act_lit hs hd]
  simp only [List.range, List.range.loop, List.map_cons, List.map_nil, h3, h4]
  generalize a'.tmps.getD 0 undef = u0
  generalize a'.tmps.getD 1 undef = u1
  generalize a'.tmps.getD 2 undef = u2
  generalize a'.tmps.getD 5 undef = u5
  generalize a'.tmps.getD 6 undef = u6
  generalize a'.tmps.getD 7 undef = u7
  generalize a'.tmps.getD 8 undef = u8
  generalize a'.tmps.getD 9 undef = u9
  generalize a'.tmps.getD 10 undef = u10
  generalize a'.tmps.getD 11 undef = u11
  generalize a'.tmps.getD 12 undef = u12
  generalize a'.tmps.getD 13 undef = u13
  generalize a'.tmps.getD 14 undef = u14
  generalize a'.tmps.getD 15 undef = u15
  generalize a'.tmps.getD 16 undef = u16
  generalize a'.tmps.getD 17 undef = u17
  generalize a'.tmps.getD 18 undef = u18
  generalize a'.tmps.getD 19 undef = u19
  generalize a'.tmps.getD 20 undef = u20
  generalize a'.tmps.getD 21 undef = u21
  generalize a'.tmps.getD 22 undef = u22
  generalize a'.tmps.getD 23 undef = u23
  generalize a'.tmps.getD 24 undef = u24
  generalize a'.tmps.getD 25 undef = u25
  generalize a'.tmps.getD 26 undef = u26
  generalize a'.tmps.getD 27 undef = u27
  generalize a'.tmps.getD 28 undef = u28
  generalize a'.tmps.getD 29 undef = u29
  generalize a'.tmps.getD 30 undef = u30
  generalize a'.tmps.getD 31 undef = u31
  generalize a'.tmps.getD 32 undef = u32
  generalize a'.tmps.getD 33 undef = u33
  generalize a'.tmps.getD 34 undef = u34
  generalize a'.tmps.getD 35 undef = u35
  generalize a'.tmps.getD 36 undef = u36
  generalize a'.tmps.getD 37 undef = u37
  generalize a'.tmps.getD 38 undef = u38
  generalize a'.tmps.getD 39 undef = u39
  generalize a'.tmps.getD 40 undef = u40
  generalize a'.tmps.getD 41 undef = u41
  generalize a'.tmps.getD 42 undef = u42
  generalize a'.tmps.getD 43 undef = u43
  generalize a'.tmps.getD 44 undef = u44
  generalize a'.tmps.getD 45 undef = u45
  generalize a'.tmps.getD 46 undef = u46
  generalize a'.tmps.getD 47 undef = u47
  generalize a'.tmps.getD 48 undef = u48
  generalize a'.tmps.getD 49 undef = u49
  have HI2 := hide hI
  clear hs h3 h4 hd hI
  gi_wp2
  exact leaves_marks 6 _ _ w vo' (freeX x) rfl rfl ds' W' HI2.out.marks HI2.out.out HI2.out.below

end Go.Proofs.YtonbgnaopkopoaaDoor
