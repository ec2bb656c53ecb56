/-
  THE CONTRACT OF WHAT COMPARES FILES, the reference.
-/
import Derived.Test.YtjoglnjpgkobeaaGreatDoorSameRIPk
namespace Go.Proofs.YtjoglnjpgkobeaaGreatDoor
open Go Go.RowKit
set_option linter.all false
set_option linter.unusedVariables false
set_option linter.unusedSimpArgs false
set_option linter.unusedVariables false
set_option linter.unusedSimpArgs false
attribute [local go_sem] run_store_one

set_option maxRecDepth 20000 in
set_option maxHeartbeats 2000000 in
theorem refSame_any (B : Nat) (l m : List Mdl) 
    (w : World) (v u : Value) (hS : Sl (RM w B) w B 4 l v) (hT : Sl (RM w B) w B 4 m u) (hB : B ≤ w.heap.size) (hsz : msize sizeM l ≤ 1000000000) :
    Calls Tryz.prog 14 #[.agg #[v], .agg #[u]] w fun e w' => e = .returned (.bool (same l m)) ∧ Ext w w' := by
  obtain ⟨a, cap, rfl, hcap, hrow⟩ := hS
  obtain ⟨a', cap', rfl, hcap', hrow'⟩ := hT
  have hln := length_le_msize sizeM l sizeM_pos
  obtain ⟨V1, hV1, hxa, hba⟩ := box1 w (.slice a l.length cap) 24
  obtain ⟨V2, hV2, hxc, hbc⟩ := box1 V1 (.slice a' m.length cap') 24
  have hza := size_box hV1
  have hzc := size_box hV2
  have hU1 := hV1.symm
  have hU2 := hV2.symm
  rw [hza] at hbc hzc
  have HA1 := hide (hba.ext hxc)
  have HA2 := hide hbc
  have hxb := hxa.trans hxc
  have k0 := HA1.out.get1
  have k1 := HA2.out.get1
  clear hV1 hV2 hba hbc
  go_enter Tryz.func14, Tryz.ntmps14
  by_cases hlen : l.length = m.length
  · have hlz : (m.length : Int) = l.length := by omega
    have HL := hide hlen
    clear hlen
    go_wp2_with fail
    go_loopw [5] (fun i wr => ∃ k : Nat, k ≤ l.length ∧ i = .int .i64 k ∧ l.take k = m.take k ∧ Ext V2 wr) (fun i _ => l.length - (intOf i).toNat)
    case atStart => exact ⟨0, Nat.zero_le _, rfl, rfl, Ext.refl _⟩
    case round =>
      obtain ⟨k, hk, rfl, hpre, hx0⟩ := hrel
      have hx := hxb.trans hx0
      have k0 := (HA1.out.ext hx0).get1
      by_cases hlt : k < l.length
      · have hlm : k < m.length := by have := HL.out; omega
        have hst := same_take hlt hlm hpre
        have hmm := msize_mem sizeM l l[k] (List.getElem_mem hlt)
        obtain ⟨b, o, v0, v1, v2, v3, rfl, hbB, hR, hC, o0, o1, o2, o3⟩ := hrow.open4 hlt
        obtain ⟨b', o', u0, u1, u2, u3, rfl, hbB', hR', hC', p0, p1, p2, p3⟩ := hrow'.open4 hlm
        have hne := @same_at _ l m k hlt hlm
        generalize l[k] = y at *
        generalize m[k] = z at *
        have hsy : sizeM y = 1 + msize sizeB y.params + msize sizeP y.ports + msize sizeI y.items := rfl
        obtain ⟨a1, a2, a3, hEq, hS1, hS2, hS3⟩ := hR
        cases hEq
        obtain ⟨b1, b2, b3, hEq', hT1, hT2, hT3⟩ := hR'
        cases hEq'
        have hmem1 := hide (fun z (hz : z ∈ y.params) => msize_mem sizeB y.params z hz)
        have hln1 := length_le_msize sizeB y.params sizeB_pos
        have hmem2 := hide (fun z (hz : z ∈ y.ports) => msize_mem sizeP y.ports z hz)
        have hln2 := length_le_msize sizeP y.ports sizeP_pos
        have hmem3 := hide (fun z (hz : z ∈ y.items) => msize_mem sizeI y.items z hz)
        have hln3 := length_le_msize sizeI y.items sizeI_pos
        have hr : y = z ↔ y.name = z.name ∧ y.params = z.params ∧ y.ports = z.ports ∧ y.items = z.items := ⟨by rintro rfl; simp, fun ⟨q0, q1, q2, q3⟩ => Mdl.ext_ q0 q1 q2 q3⟩
        replace hne : ¬ (y = z) → same l m = false := hne
        generalize (y = z) = Q at *
        have KR := hide hr
        have HST := hide hst
        have HNE := hide hne
        have HS1 := hide hS1
        have HT1 := hide hT1
        have t1 := hS1.oneCell
        have s1 := hT1.oneCell
        have HS2 := hide hS2
        have HT2 := hide hT2
        have t2 := hS2.oneCell
        have s2 := hT2.oneCell
        have HS3 := hide hS3
        have HT3 := hide hT3
        have t3 := hS3.oneCell
        have s3 := hT3.oneCell
        clear hr hst hne hpre hS1 hT1 hS2 hT2 hS3 hT3
        generalize y.name = f0 at *
        generalize z.name = g0 at *
        generalize y.params = f1 at *
        generalize z.params = g1 at *
        generalize y.ports = f2 at *
        generalize z.ports = g2 at *
        generalize y.items = f3 at *
        generalize z.items = g3 at *
        have hne := hide HNE.out
        clear HNE
        obtain ⟨W1, hW1, hx1, hb1⟩ := box4 wr (.string f0) v1 v2 v3 33
        obtain ⟨W2, hW2, hx2, hb2⟩ := box4 W1 (.string g0) u1 u2 u3 33
        have hz1 := size_box hW1
        have hz2 := size_box hW2
        have hV1 := hW1.symm
        have hV2 := hW2.symm
        rw [hz1] at hb2 hz2
        have HB1 := hide (hb1.ext hx2)
        have HB2 := hide hb2
        have hxw := hx.trans (hx1.trans hx2)
        have hb0 := hxw.size
        have k0 := (HA1.out.ext hx0).get1
        have k1 := (HA2.out.ext (hx0.trans hx1)).get1
        have hx12 := hx1.trans hx2
        obtain ⟨i0, i1, i2, i3⟩ := (hC.ext hx).get4
        obtain ⟨j0, j1, j2, j3⟩ := (hC'.ext (hx.trans hx1)).get4
        obtain ⟨c0, c1, c2, c3⟩ := HB1.out.get4
        obtain ⟨d0, d1, d2, d3⟩ := HB2.out.get4
        clear hW1 hW2 hb1 hb2 hC hC' hrow hrow'
        by_cases h0 : f0 = g0
        · subst h0
          go_wp2_with fail
          refine (refsameB_any B f1 g1 _ _ _ (HS1.out.extRB hxw hB) (HT1.out.extRB hxw hB) (by omega) (by omega)).mono ?_
          rintro e w1 ⟨rfl, hy1⟩
          have hxw1 := hxw.trans hy1
          have hb1 := hxw1.size
          have HB1 := hide (HB1.out.ext hy1)
          have HB2 := hide (HB2.out.ext hy1)
          clear c0 c1 c2 c3 d0 d1 d2 d3
          obtain ⟨c0, c1, c2, c3⟩ := HB1.out.get4
          obtain ⟨d0, d1, d2, d3⟩ := HB2.out.get4
          by_cases h1 : f1 = g1
          · rw [same_iff.2 h1]
            go_wp2_with fail
            refine (refsameP_any B f2 g2 _ _ _ (HS2.out.extRP hxw1 hB) (HT2.out.extRP hxw1 hB) (by omega) (by omega)).mono ?_
            rintro e w2 ⟨rfl, hy2⟩
            have hxw2 := hxw1.trans hy2
            have hb2 := hxw2.size
            have HB1 := hide (HB1.out.ext hy2)
            have HB2 := hide (HB2.out.ext hy2)
            clear c0 c1 c2 c3 d0 d1 d2 d3
            obtain ⟨c0, c1, c2, c3⟩ := HB1.out.get4
            obtain ⟨d0, d1, d2, d3⟩ := HB2.out.get4
            by_cases h2 : f2 = g2
            · rw [same_iff.2 h2]
              go_wp2_with fail
              refine (refsameI_any B f3 g3 _ _ _ (HS3.out.extRI hxw2 hB) (HT3.out.extRI hxw2 hB) (by omega) (by omega)).mono ?_
              rintro e w3 ⟨rfl, hy3⟩
              have hxw3 := hxw2.trans hy3
              have hb3 := hxw3.size
              have HB1 := hide (HB1.out.ext hy3)
              have HB2 := hide (HB2.out.ext hy3)
              clear c0 c1 c2 c3 d0 d1 d2 d3
              obtain ⟨c0, c1, c2, c3⟩ := HB1.out.get4
              obtain ⟨d0, d1, d2, d3⟩ := HB2.out.get4
              by_cases h3 : f3 = g3
              · rw [same_iff.2 h3]
                have hq : Q := KR.out.2 (by simp [h1, h2, h3])
                have hnx := HST.out.2 hq
                go_wp2_with fail
                go_roundw
                case rel => exact ⟨k + 1, by omega, by go_num, hnx, hx0.trans (hx12.trans (hy1.trans (hy2.trans hy3)))⟩
                case measure => simp [intOf]; omega
              · rw [same_false.2 h3]
                have hnf := hide (hne.out (fun hh => h3 (KR.out.1 hh).2.2.2))
                go_wp2_with fail
                go_ret
                exact ⟨by rw [hnf.out]; rfl, hxw3⟩
            · rw [same_false.2 h2]
              have hnf := hide (hne.out (fun hh => h2 (KR.out.1 hh).2.2.1))
              go_wp2_with fail
              go_ret
              exact ⟨by rw [hnf.out]; rfl, hxw2⟩
          · rw [same_false.2 h1]
            have hnf := hide (hne.out (fun hh => h1 (KR.out.1 hh).2.1))
            go_wp2_with fail
            go_ret
            exact ⟨by rw [hnf.out]; rfl, hxw1⟩
        · have hbq : (f0.toList == g0.toList) = false := text_ne h0
          have hnf := hide (hne.out (fun hh => h0 (KR.out.1 hh).1))
          go_wp2_with fail
          go_ret
          exact ⟨by rw [hnf.out]; rfl, hxw⟩
      · have : k = l.length := by omega
        subst this
        have hfull : same l m = true := same_iff.2 (by rw [List.take_length, HL.out, List.take_length] at hpre; exact hpre)
        go_wp2_with fail
        go_ret
        exact ⟨by rw [hfull]; rfl, hx⟩
  · have hf := same_len hlen
    have hlz : ((l.length : Int) != m.length) = true := by simp; omega
    go_wp2_with fail
    go_ret
    exact ⟨by rw [hf]; rfl, hxb⟩

end Go.Proofs.YtjoglnjpgkobeaaGreatDoor
