/-
  THE CONTRACTS OF WHAT COMPARES TREES, the reference: items, files.
-/
import Derived.Test.YtjoglnjpgkobeaaGreatDoorSameRPk
namespace Go.Proofs.YtjoglnjpgkobeaaGreatDoor
open Go Go.RowKit
set_option linter.all false
set_option linter.unusedVariables false
set_option linter.unusedSimpArgs false
set_option linter.unusedVariables false
set_option linter.unusedSimpArgs false
attribute [local go_sem] run_store_one

/-- What sameI answers of some items and any others. -/
def SameIok (B : Nat) (l : List Itm) : Prop := ∀ (m : List Itm) (w : World) (v u : Value), Sl (RI w B) w B 9 l v → Sl (RI w B) w B 9 m u → B ≤ w.heap.size → msize sizeI l ≤ 1000000000 →
    Calls Tryz.prog 46 #[v, u] w fun e w' => e = .returned (.bool (same l m)) ∧ Ext w w'

set_option maxRecDepth 20000 in
set_option maxHeartbeats 8000000 in
theorem refsameI_of (B : Nat) (l m : List Itm) (hf : ∀ x, x ∈ l → SameIok B x.l ∧ SameIok B x.els)
    (w : World) (v u : Value) (hS : Sl (RI w B) w B 9 l v) (hT : Sl (RI w B) w B 9 m u) (hB : B ≤ w.heap.size) (hsz : msize sizeI l ≤ 1000000000) :
    Calls Tryz.prog 46 #[v, u] w fun e w' => e = .returned (.bool (same l m)) ∧ Ext w w' := by
  obtain ⟨a, cap, rfl, hcap, hrow⟩ := hS
  obtain ⟨a', cap', rfl, hcap', hrow'⟩ := hT
  have hln := length_le_msize sizeI l sizeI_pos
  have HF := hide hf
  clear hf
  go_enter Tryz.func46, Tryz.ntmps46
  by_cases hlen : l.length = m.length
  · have hlz : (m.length : Int) = l.length := by omega
    have HL := hide hlen
    clear hlen
    go_wp2_with fail
    go_loopw [5] (fun i wr => ∃ k : Nat, k ≤ l.length ∧ i = .int .i64 k ∧ l.take k = m.take k ∧ Ext w wr) (fun i _ => l.length - (intOf i).toNat)
    case atStart => exact ⟨0, Nat.zero_le _, rfl, rfl, Ext.refl _⟩
    case round =>
      obtain ⟨k, hk, rfl, hpre, hx⟩ := hrel
      by_cases hlt : k < l.length
      · have hlm : k < m.length := by have := HL.out; omega
        have hst := same_take hlt hlm hpre
        have hmm := msize_mem sizeI l l[k] (List.getElem_mem hlt)
        have hfk := HF.out l[k] (List.getElem_mem hlt)
        obtain ⟨b, o, v0, v1, v2, v3, v4, v5, v6, v7, v8, rfl, hbB, hR, hC, o0, o1, o2, o3, o4, o5, o6, o7, o8⟩ := hrow.open9 hlt
        obtain ⟨b', o', u0, u1, u2, u3, u4, u5, u6, u7, u8, rfl, hbB', hR', hC', p0, p1, p2, p3, p4, p5, p6, p7, p8⟩ := hrow'.open9 hlm
        have hne := @same_at _ l m k hlt hlm
        generalize l[k] = y at *
        generalize m[k] = z at *
        have hsy : sizeI y = 1 + msize sizeX y.x + msize sizeS y.s + msize sizeI y.l + msize sizeI y.els + msize sizeB y.params + msize sizeB y.binds := sizeI_eq y
        have HF := hide hfk
        have hfk := HF
        clear HF
        obtain ⟨a3, a4, a5, a6, a7, a8, hEq, hS3, hS4, hS5, hS6, hS7, hS8⟩ := RI_iff.1 hR
        cases hEq
        obtain ⟨b3, b4, b5, b6, b7, b8, hEq', hT3, hT4, hT5, hT6, hT7, hT8⟩ := RI_iff.1 hR'
        cases hEq'
        have hmem3 := hide (fun z (hz : z ∈ y.x) => msize_mem sizeX y.x z hz)
        have hln3 := length_le_msize sizeX y.x sizeX_pos
        have hmem4 := hide (fun z (hz : z ∈ y.s) => msize_mem sizeS y.s z hz)
        have hln4 := length_le_msize sizeS y.s sizeS_pos
        have hmem5 := hide (fun z (hz : z ∈ y.l) => msize_mem sizeI y.l z hz)
        have hln5 := length_le_msize sizeI y.l sizeI_pos
        have hmem6 := hide (fun z (hz : z ∈ y.els) => msize_mem sizeI y.els z hz)
        have hln6 := length_le_msize sizeI y.els sizeI_pos
        have hmem7 := hide (fun z (hz : z ∈ y.params) => msize_mem sizeB y.params z hz)
        have hln7 := length_le_msize sizeB y.params sizeB_pos
        have hmem8 := hide (fun z (hz : z ∈ y.binds) => msize_mem sizeB y.binds z hz)
        have hln8 := length_le_msize sizeB y.binds sizeB_pos
        have hr : y = z ↔ y.op = z.op ∧ y.name = z.name ∧ y.of = z.of ∧ y.x = z.x ∧ y.s = z.s ∧ y.l = z.l ∧ y.els = z.els ∧ y.params = z.params ∧ y.binds = z.binds := ⟨by rintro rfl; simp, fun ⟨q0, q1, q2, q3, q4, q5, q6, q7, q8⟩ => Itm.ext_ q0 q1 q2 q3 q4 q5 q6 q7 q8⟩
        replace hne : ¬ (y = z) → same l m = false := hne
        generalize (y = z) = Q at *
        have KR := hide hr
        have HST := hide hst
        have HNE := hide hne
        have HS3 := hide hS3
        have HT3 := hide hT3
        have t3 := hS3.oneCell
        have s3 := hT3.oneCell
        have HS4 := hide hS4
        have HT4 := hide hT4
        have t4 := hS4.oneCell
        have s4 := hT4.oneCell
        have HS5 := hide hS5
        have HT5 := hide hT5
        have t5 := hS5.oneCell
        have s5 := hT5.oneCell
        have HS6 := hide hS6
        have HT6 := hide hT6
        have t6 := hS6.oneCell
        have s6 := hT6.oneCell
        have HS7 := hide hS7
        have HT7 := hide hT7
        have t7 := hS7.oneCell
        have s7 := hT7.oneCell
        have HS8 := hide hS8
        have HT8 := hide hT8
        have t8 := hS8.oneCell
        have s8 := hT8.oneCell
        clear hR hR' hr hst hne hpre hS3 hT3 hS4 hT4 hS5 hT5 hS6 hT6 hS7 hT7 hS8 hT8
        generalize y.op = f0 at *
        generalize z.op = g0 at *
        generalize y.name = f1 at *
        generalize z.name = g1 at *
        generalize y.of = f2 at *
        generalize z.of = g2 at *
        generalize y.x = f3 at *
        generalize z.x = g3 at *
        generalize y.s = f4 at *
        generalize z.s = g4 at *
        generalize y.l = f5 at *
        generalize z.l = g5 at *
        generalize y.els = f6 at *
        generalize z.els = g6 at *
        generalize y.params = f7 at *
        generalize z.params = g7 at *
        generalize y.binds = f8 at *
        generalize z.binds = g8 at *
        have hne := hide HNE.out
        clear HNE
        obtain ⟨W1, hW1, hx1, hb1⟩ := box9 wr (.int .i64 f0) (.string f1) (.string f2) v3 v4 v5 v6 v7 v8 53
        obtain ⟨W2, hW2, hx2, hb2⟩ := box9 W1 (.int .i64 g0) (.string g1) (.string g2) u3 u4 u5 u6 u7 u8 53
        have hz1 := size_box hW1
        have hz2 := size_box hW2
        have hV1 := hW1.symm
        have hV2 := hW2.symm
        rw [hz1] at hb2 hz2
        have HB1 := hide (hb1.ext hx2)
        have HB2 := hide hb2
        have hxw := hx.trans (hx1.trans hx2)
        have hb0 := hxw.size
        obtain ⟨i0, i1, i2, i3, i4, i5, i6, i7, i8⟩ := (hC.ext hx).get9
        obtain ⟨j0, j1, j2, j3, j4, j5, j6, j7, j8⟩ := (hC'.ext (hx.trans hx1)).get9
        obtain ⟨c0, c1, c2, c3, c4, c5, c6, c7, c8⟩ := HB1.out.get9
        obtain ⟨d0, d1, d2, d3, d4, d5, d6, d7, d8⟩ := HB2.out.get9
        clear hW1 hW2 hb1 hb2 hC hC' hrow hrow'
        by_cases h0 : f0 = g0
        · subst h0
          by_cases h1 : f1 = g1
          · subst h1
            by_cases h2 : f2 = g2
            · subst h2
              go_wp2_with fail
              refine (refsameL_of B f3 g3 (fun z hz z' w cs ds h1 h2 h3 => refSameX_any B z z' w cs ds h1 h2 h3 (by have := hmem3.out z hz; omega)) _ _ _ (HS3.out.extRX hxw hB) (HT3.out.extRX hxw hB) (by omega) (by omega)).mono ?_
              rintro e w1 ⟨rfl, hy1⟩
              have hxw1 := hxw.trans hy1
              have hb1 := hxw1.size
              have HB1 := hide (HB1.out.ext hy1)
              have HB2 := hide (HB2.out.ext hy1)
              clear c0 c1 c2 c3 c4 c5 c6 c7 c8 d0 d1 d2 d3 d4 d5 d6 d7 d8
              obtain ⟨c0, c1, c2, c3, c4, c5, c6, c7, c8⟩ := HB1.out.get9
              obtain ⟨d0, d1, d2, d3, d4, d5, d6, d7, d8⟩ := HB2.out.get9
              by_cases h3 : f3 = g3
              · rw [same_iff.2 h3]
                go_wp2_with fail
                refine (refsameAll_of B f4 g4 (fun z hz z' w cs ds h1 h2 h3 => refSameS_any B z z' w cs ds h1 h2 h3 (by have := hmem4.out z hz; omega)) _ _ _ (HS4.out.extRS hxw1 hB) (HT4.out.extRS hxw1 hB) (by omega) (by omega)).mono ?_
                rintro e w2 ⟨rfl, hy2⟩
                have hxw2 := hxw1.trans hy2
                have hb2 := hxw2.size
                have HB1 := hide (HB1.out.ext hy2)
                have HB2 := hide (HB2.out.ext hy2)
                clear c0 c1 c2 c3 c4 c5 c6 c7 c8 d0 d1 d2 d3 d4 d5 d6 d7 d8
                obtain ⟨c0, c1, c2, c3, c4, c5, c6, c7, c8⟩ := HB1.out.get9
                obtain ⟨d0, d1, d2, d3, d4, d5, d6, d7, d8⟩ := HB2.out.get9
                by_cases h4 : f4 = g4
                · rw [same_iff.2 h4]
                  go_wp2_with fail
                  refine (hfk.out.1 g5 _ _ _ (HS5.out.extRI hxw2 hB) (HT5.out.extRI hxw2 hB) (by omega) (by omega)).mono ?_
                  rintro e w3 ⟨rfl, hy3⟩
                  have hxw3 := hxw2.trans hy3
                  have hb3 := hxw3.size
                  have HB1 := hide (HB1.out.ext hy3)
                  have HB2 := hide (HB2.out.ext hy3)
                  clear c0 c1 c2 c3 c4 c5 c6 c7 c8 d0 d1 d2 d3 d4 d5 d6 d7 d8
                  obtain ⟨c0, c1, c2, c3, c4, c5, c6, c7, c8⟩ := HB1.out.get9
                  obtain ⟨d0, d1, d2, d3, d4, d5, d6, d7, d8⟩ := HB2.out.get9
                  by_cases h5 : f5 = g5
                  · rw [same_iff.2 h5]
                    go_wp2_with fail
                    refine (hfk.out.2 g6 _ _ _ (HS6.out.extRI hxw3 hB) (HT6.out.extRI hxw3 hB) (by omega) (by omega)).mono ?_
                    rintro e w4 ⟨rfl, hy4⟩
                    have hxw4 := hxw3.trans hy4
                    have hb4 := hxw4.size
                    have HB1 := hide (HB1.out.ext hy4)
                    have HB2 := hide (HB2.out.ext hy4)
                    clear c0 c1 c2 c3 c4 c5 c6 c7 c8 d0 d1 d2 d3 d4 d5 d6 d7 d8
                    obtain ⟨c0, c1, c2, c3, c4, c5, c6, c7, c8⟩ := HB1.out.get9
                    obtain ⟨d0, d1, d2, d3, d4, d5, d6, d7, d8⟩ := HB2.out.get9
                    by_cases h6 : f6 = g6
                    · rw [same_iff.2 h6]
                      go_wp2_with fail
                      refine (refsameB_any B f7 g7 _ _ _ (HS7.out.extRB hxw4 hB) (HT7.out.extRB hxw4 hB) (by omega) (by omega)).mono ?_
                      rintro e w5 ⟨rfl, hy5⟩
                      have hxw5 := hxw4.trans hy5
                      have hb5 := hxw5.size
                      have HB1 := hide (HB1.out.ext hy5)
                      have HB2 := hide (HB2.out.ext hy5)
                      clear c0 c1 c2 c3 c4 c5 c6 c7 c8 d0 d1 d2 d3 d4 d5 d6 d7 d8
                      obtain ⟨c0, c1, c2, c3, c4, c5, c6, c7, c8⟩ := HB1.out.get9
                      obtain ⟨d0, d1, d2, d3, d4, d5, d6, d7, d8⟩ := HB2.out.get9
                      by_cases h7 : f7 = g7
                      · rw [same_iff.2 h7]
                        go_wp2_with fail
                        refine (refsameB_any B f8 g8 _ _ _ (HS8.out.extRB hxw5 hB) (HT8.out.extRB hxw5 hB) (by omega) (by omega)).mono ?_
                        rintro e w6 ⟨rfl, hy6⟩
                        have hxw6 := hxw5.trans hy6
                        have hb6 := hxw6.size
                        have HB1 := hide (HB1.out.ext hy6)
                        have HB2 := hide (HB2.out.ext hy6)
                        clear c0 c1 c2 c3 c4 c5 c6 c7 c8 d0 d1 d2 d3 d4 d5 d6 d7 d8
                        obtain ⟨c0, c1, c2, c3, c4, c5, c6, c7, c8⟩ := HB1.out.get9
                        obtain ⟨d0, d1, d2, d3, d4, d5, d6, d7, d8⟩ := HB2.out.get9
                        by_cases h8 : f8 = g8
                        · rw [same_iff.2 h8]
                          have hq : Q := KR.out.2 (by simp [h3, h4, h5, h6, h7, h8])
                          have hnx := HST.out.2 hq
                          go_wp2_with fail
                          go_roundw
                          case rel => exact ⟨k + 1, by omega, by go_num, hnx, hxw6⟩
                          case measure => simp [intOf]; omega
                        · rw [same_false.2 h8]
                          have hnf := hide (hne.out (fun hh => h8 (KR.out.1 hh).2.2.2.2.2.2.2.2))
                          go_wp2_with fail
                          go_ret
                          exact ⟨by rw [hnf.out]; rfl, hxw6⟩
                      · rw [same_false.2 h7]
                        have hnf := hide (hne.out (fun hh => h7 (KR.out.1 hh).2.2.2.2.2.2.2.1))
                        go_wp2_with fail
                        go_ret
                        exact ⟨by rw [hnf.out]; rfl, hxw5⟩
                    · rw [same_false.2 h6]
                      have hnf := hide (hne.out (fun hh => h6 (KR.out.1 hh).2.2.2.2.2.2.1))
                      go_wp2_with fail
                      go_ret
                      exact ⟨by rw [hnf.out]; rfl, hxw4⟩
                  · rw [same_false.2 h5]
                    have hnf := hide (hne.out (fun hh => h5 (KR.out.1 hh).2.2.2.2.2.1))
                    go_wp2_with fail
                    go_ret
                    exact ⟨by rw [hnf.out]; rfl, hxw3⟩
                · rw [same_false.2 h4]
                  have hnf := hide (hne.out (fun hh => h4 (KR.out.1 hh).2.2.2.2.1))
                  go_wp2_with fail
                  go_ret
                  exact ⟨by rw [hnf.out]; rfl, hxw2⟩
              · rw [same_false.2 h3]
                have hnf := hide (hne.out (fun hh => h3 (KR.out.1 hh).2.2.2.1))
                go_wp2_with fail
                go_ret
                exact ⟨by rw [hnf.out]; rfl, hxw1⟩
            · have hbq : (f2.toList == g2.toList) = false := text_ne h2
              have hnf := hide (hne.out (fun hh => h2 (KR.out.1 hh).2.2.1))
              go_wp2_with fail
              go_ret
              exact ⟨by rw [hnf.out]; rfl, hxw⟩
          · have hbq : (f1.toList == g1.toList) = false := text_ne h1
            have hnf := hide (hne.out (fun hh => h1 (KR.out.1 hh).2.1))
            go_wp2_with fail
            go_ret
            exact ⟨by rw [hnf.out]; rfl, hxw⟩
        · have hbq : (f0 == g0) = false := beq_eq_false_iff_ne.2 h0
          have hnf := hide (hne.out (fun hh => h0 (KR.out.1 hh).1))
          go_wp2_with fail
          go_ret
          exact ⟨by rw [hnf.out]; rfl, hxw⟩
      · have : k = l.length := by omega
        subst this
        have hfull : same l m = true := same_iff.2 (by rw [List.take_length, HL.out, List.take_length] at hpre; exact hpre)
        go_wp2_with fail
        go_ret
        exact ⟨by rw [hfull]; rfl, hx⟩
  · have hf := same_len hlen
    have hlz : ((l.length : Int) != m.length) = true := by simp; omega
    go_wp2_with fail
    go_ret
    exact ⟨by rw [hf]; rfl, Ext.refl _⟩

theorem refsameI_item (B : Nat) (x : Itm) : SameIok B x.l ∧ SameIok B x.els := by
  induction x using Itm.ind with
  | h x ih1 ih2 => exact ⟨fun m w v u h1 h2 h3 h4 => refsameI_of B x.l m ih1 w v u h1 h2 h3 h4, fun m w v u h1 h2 h3 h4 => refsameI_of B x.els m ih2 w v u h1 h2 h3 h4⟩
theorem refsameI_any (B : Nat) (l m : List Itm) (w : World) (v u : Value) (hS : Sl (RI w B) w B 9 l v) (hT : Sl (RI w B) w B 9 m u) (hB : B ≤ w.heap.size) (hsz : msize sizeI l ≤ 1000000000) :
    Calls Tryz.prog 46 #[v, u] w fun e w' => e = .returned (.bool (same l m)) ∧ Ext w w' := refsameI_of B l m (fun x _ => refsameI_item B x) w v u hS hT hB hsz

end Go.Proofs.YtjoglnjpgkobeaaGreatDoor
