/-
  THE CONTRACTS OF WHAT COMPARES TREES, the reference.
-/
import Derived.Test.YtjoglnjpgkobeaaGreatDoorSamePk
namespace Go.Proofs.YtjoglnjpgkobeaaGreatDoor
open Go Go.RowKit
set_option linter.all false
set_option linter.unusedVariables false
set_option linter.unusedSimpArgs false
set_option linter.unusedVariables false
set_option linter.unusedSimpArgs false
attribute [local go_sem] run_store_one

theorem text_bne {a b : ByteArray} (h : ¬ a = b) : (a.toList != b.toList) = true := by
  rw [bne, text_ne h]; rfl

set_option maxRecDepth 20000 in
set_option maxHeartbeats 2000000 in
theorem refsameL_of (B : Nat) (l m : List X) (hf : ∀ x, x ∈ l → ∀ (y : X) (w : World) (cs ds : List Value), RX w B x cs → RX w B y ds → B ≤ w.heap.size →
      Calls Tryz.prog 82 #[.agg cs.toArray, .agg ds.toArray] w fun e w' => e = .returned (.bool (same x y)) ∧ Ext w w')
    (w : World) (v u : Value) (hS : Sl (RX w B) w B 6 l v) (hT : Sl (RX w B) w B 6 m u) (hB : B ≤ w.heap.size) (hsz : msize sizeX l ≤ 1000000000) :
    Calls Tryz.prog 83 #[v, u] w fun e w' => e = .returned (.bool (same l m)) ∧ Ext w w' := by
  obtain ⟨a, cap, rfl, hcap, hrow⟩ := hS
  obtain ⟨a', cap', rfl, hcap', hrow'⟩ := hT
  have hln := length_le_msize sizeX l sizeX_pos
  have HF := hide hf
  clear hf
  go_enter Tryz.func83, Tryz.ntmps83
  by_cases hlen : l.length = m.length
  · have hlz : (m.length : Int) = l.length := by omega
    have HL := hide hlen
    clear hlen
    go_wp2_with fail
    go_loopw [5] (fun i wr => ∃ k : Nat, k ≤ l.length ∧ i = .int .i64 k ∧ l.take k = m.take k ∧ Ext w wr) (fun i _ => l.length - (intOf i).toNat)
    case atStart => exact ⟨0, Nat.zero_le _, rfl, rfl, Ext.refl _⟩
    case round =>
      obtain ⟨k, hk, rfl, hpre, hx⟩ := hrel
      by_cases hlt : k < l.length
      · have hlm : k < m.length := by have := HL.out; omega
        have hst := same_take hlt hlm hpre
        have hmm := msize_mem sizeX l l[k] (List.getElem_mem hlt)
        have hfk := HF.out l[k] (List.getElem_mem hlt) m[k]
        obtain ⟨b, o, v0, v1, v2, v3, v4, v5, rfl, hbB, hR, hC, o0, o1, o2, o3, o4, o5⟩ := hrow.open6 hlt
        obtain ⟨b', o', u0, u1, u2, u3, u4, u5, rfl, hbB', hR', hC', p0, p1, p2, p3, p4, p5⟩ := hrow'.open6 hlm
        have hne := @same_at _ l m k hlt hlm
        generalize l[k] = y at *
        generalize m[k] = z at *
        obtain ⟨d0, d1, d2, d3, d4, d5⟩ := (hC.ext hx).later6
        obtain ⟨e0, e1, e2, e3, e4, e5⟩ := (hC'.ext hx).later6
        have HFK := hide hfk
        have HST := hide hst
        have q1 := hide (fun e : Later wr => hR.ext (hx.trans e.ext) hB)
        have q2 := hide (fun e : Later wr => hR'.ext (hx.trans e.ext) hB)
        have q3 := hide (fun e : Later wr => Nat.le_trans hB (hx.trans e.ext).size)
        clear hC hC' hrow hrow' hfk HF hpre hst hR hR'
        go_wp2_with fail
        refine wp_region_later (W := wr) (by kernel_rfl) (by kernel_rfl) (Ext.refl _) ?_
        repeat (go_big_quiet_step (first | (go_at_call 82; exact Later.calls (HFK.out _ _ _ (q1.out _) (q2.out _) (q3.out _)))))
        refine wpQuiet_nil ?_
        rintro _ ⟨e, rfl⟩
        have hx9 := hx.trans e.ext
        by_cases hyz : y = z
        · rw [same_iff.2 hyz]
          have hnx := HST.out.2 hyz
          go_wp2_with fail
          go_roundw
          case rel => exact ⟨k + 1, by omega, by go_num, hnx, hx9⟩
          case measure => simp [intOf]; omega
        · rw [same_false.2 hyz]
          have hnf := hne hyz
          go_wp2_with fail
          go_ret
          exact ⟨by rw [hnf]; rfl, hx9⟩
      · have : k = l.length := by omega
        subst this
        have hfull : same l m = true := same_iff.2 (by rw [List.take_length, HL.out, List.take_length] at hpre; exact hpre)
        go_wp2_with fail
        go_ret
        exact ⟨by rw [hfull]; rfl, hx⟩
  · have hf := same_len hlen
    have hlz : ((l.length : Int) != m.length) = true := by simp; omega
    go_wp2_with fail
    go_ret
    exact ⟨by rw [hf]; rfl, Ext.refl _⟩

set_option maxRecDepth 20000 in
set_option maxHeartbeats 2000000 in
theorem refSameX_any (B : Nat) (x : X) : ∀ (y : X) (w : World) (cs ds : List Value), RX w B x cs → RX w B y ds → B ≤ w.heap.size → sizeX x ≤ 1000000000 →
    Calls Tryz.prog 82 #[.agg cs.toArray, .agg ds.toArray] w fun e w' => e = .returned (.bool (same x y)) ∧ Ext w w' := by
  induction x using X.ind with
  | h x ih =>
  intro y w cs ds hR hR' hB hsz
  obtain ⟨a5, rfl, hS5⟩ := RX_iff.1 hR
  obtain ⟨b5, rfl, hT5⟩ := RX_iff.1 hR'
  have hs0 : 1 + msize sizeX x.l ≤ 1000000000 := by rw [← sizeX_eq]; exact hsz
  have hmem5 := hide (fun z (hz : z ∈ x.l) => msize_mem sizeX x.l z hz)
  have hln5 := length_le_msize sizeX x.l sizeX_pos
  have hr : same x y = true ↔ x.op = y.op ∧ x.name = y.name ∧ x.n = y.n ∧ x.w = y.w ∧ x.v = y.v ∧ x.l = y.l := by
    rw [same_iff]
    exact ⟨by rintro rfl; simp, fun ⟨q0, q1, q2, q3, q4, q5⟩ => X.ext_ q0 q1 q2 q3 q4 q5⟩
  generalize same x y = r at *
  have KR := hide hr
  have HS5 := hide hS5
  have HT5 := hide hT5
  have o5 := hS5.oneCell
  have p5 := hT5.oneCell
  have IH := hide ih
  clear hR hR' hsz hr hS5 hT5 ih
  generalize x.op = f0 at *
  generalize y.op = g0 at *
  generalize x.name = f1 at *
  generalize y.name = g1 at *
  generalize x.n = f2 at *
  generalize y.n = g2 at *
  generalize x.w = f3 at *
  generalize y.w = g3 at *
  generalize x.v = f4 at *
  generalize y.v = g4 at *
  generalize x.l = f5 at *
  generalize y.l = g5 at *
  obtain ⟨W1, hW1, hx1, hb1⟩ := box6 w (.int .i64 f0) (.string f1) (.int .i64 f2) (.int .i64 f3) (.int .u64 f4) a5 49
  obtain ⟨W2, hW2, hx2, hb2⟩ := box6 W1 (.int .i64 g0) (.string g1) (.int .i64 g2) (.int .i64 g3) (.int .u64 g4) b5 49
  have hz1 := size_box hW1
  have hz2 := size_box hW2
  have hV1 := hW1.symm
  have hV2 := hW2.symm
  rw [hz1] at hb2 hz2
  have HB1 := hide (hb1.ext hx2)
  have HB2 := hide hb2
  have hxw := hx1.trans hx2
  have hb0 := hxw.size
  obtain ⟨c0, c1, c2, c3, c4, c5⟩ := HB1.out.get6
  obtain ⟨d0, d1, d2, d3, d4, d5⟩ := HB2.out.get6
  clear hW1 hW2 hb1 hb2
  go_enter Tryz.func82, Tryz.ntmps82
  by_cases h0 : f0 = g0
  · subst h0
    by_cases h1 : f1 = g1
    · subst h1
      by_cases h2 : f2 = g2
      · subst h2
        by_cases h3 : f3 = g3
        · subst h3
          by_cases h4 : f4 = g4
          · subst h4
            go_wp2_with fail
            refine (refsameL_of B f5 g5 (fun z hz z' w cs ds h1 h2 h3 => IH.out z hz z' w cs ds h1 h2 h3 (by have := hmem5.out z hz; omega)) _ _ _ (HS5.out.extRX hxw hB) (HT5.out.extRX hxw hB) (by omega) (by omega)).mono ?_
            rintro e w1 ⟨rfl, hy1⟩
            have hxw1 := hxw.trans hy1
            have hb1 := hxw1.size
            have HB1 := hide (HB1.out.ext hy1)
            have HB2 := hide (HB2.out.ext hy1)
            clear c0 c1 c2 c3 c4 c5 d0 d1 d2 d3 d4 d5
            obtain ⟨c0, c1, c2, c3, c4, c5⟩ := HB1.out.get6
            obtain ⟨d0, d1, d2, d3, d4, d5⟩ := HB2.out.get6
            by_cases h5 : f5 = g5
            · rw [same_iff.2 h5]
              have hrt : r = true := KR.out.2 (by simp [h5])
              subst hrt
              go_wp2_with fail
              go_ret
              exact ⟨rfl, hxw1⟩
            · rw [same_false.2 h5]
              have hrf : r = false := Bool.eq_false_iff.2 (fun hh => h5 (KR.out.1 hh).2.2.2.2.2)
              subst hrf
              go_wp2_with fail
              go_ret
              exact ⟨rfl, hxw1⟩
          · have hbq : (f4 == g4) = false := beq_eq_false_iff_ne.2 h4
            have hrf : r = false := Bool.eq_false_iff.2 (fun hh => h4 (KR.out.1 hh).2.2.2.2.1)
            subst hrf
            go_wp2_with fail
            go_ret
            exact ⟨rfl, hxw⟩
        · have hbq : (f3 == g3) = false := beq_eq_false_iff_ne.2 h3
          have hrf : r = false := Bool.eq_false_iff.2 (fun hh => h3 (KR.out.1 hh).2.2.2.1)
          subst hrf
          go_wp2_with fail
          go_ret
          exact ⟨rfl, hxw⟩
      · have hbq : (f2 == g2) = false := beq_eq_false_iff_ne.2 h2
        have hrf : r = false := Bool.eq_false_iff.2 (fun hh => h2 (KR.out.1 hh).2.2.1)
        subst hrf
        go_wp2_with fail
        go_ret
        exact ⟨rfl, hxw⟩
    · have hbq : (f1.toList == g1.toList) = false := text_ne h1
      have hrf : r = false := Bool.eq_false_iff.2 (fun hh => h1 (KR.out.1 hh).2.1)
      subst hrf
      go_wp2_with fail
      go_ret
      exact ⟨rfl, hxw⟩
  · have hbq : (f0 == g0) = false := beq_eq_false_iff_ne.2 h0
    have hrf : r = false := Bool.eq_false_iff.2 (fun hh => h0 (KR.out.1 hh).1)
    subst hrf
    go_wp2_with fail
    go_ret
    exact ⟨rfl, hxw⟩

set_option maxRecDepth 20000 in
set_option maxHeartbeats 2000000 in
theorem refsameAll_of (B : Nat) (l m : List S) (hf : ∀ x, x ∈ l → ∀ (y : S) (w : World) (cs ds : List Value), RS w B x cs → RS w B y ds → B ≤ w.heap.size →
      Calls Tryz.prog 120 #[.agg cs.toArray, .agg ds.toArray] w fun e w' => e = .returned (.bool (same x y)) ∧ Ext w w')
    (w : World) (v u : Value) (hS : Sl (RS w B) w B 4 l v) (hT : Sl (RS w B) w B 4 m u) (hB : B ≤ w.heap.size) (hsz : msize sizeS l ≤ 1000000000) :
    Calls Tryz.prog 84 #[v, u] w fun e w' => e = .returned (.bool (same l m)) ∧ Ext w w' := by
  obtain ⟨a, cap, rfl, hcap, hrow⟩ := hS
  obtain ⟨a', cap', rfl, hcap', hrow'⟩ := hT
  have hln := length_le_msize sizeS l sizeS_pos
  have HF := hide hf
  clear hf
  go_enter Tryz.func84, Tryz.ntmps84
  by_cases hlen : l.length = m.length
  · have hlz : (m.length : Int) = l.length := by omega
    have HL := hide hlen
    clear hlen
    go_wp2_with fail
    go_loopw [5] (fun i wr => ∃ k : Nat, k ≤ l.length ∧ i = .int .i64 k ∧ l.take k = m.take k ∧ Ext w wr) (fun i _ => l.length - (intOf i).toNat)
    case atStart => exact ⟨0, Nat.zero_le _, rfl, rfl, Ext.refl _⟩
    case round =>
      obtain ⟨k, hk, rfl, hpre, hx⟩ := hrel
      by_cases hlt : k < l.length
      · have hlm : k < m.length := by have := HL.out; omega
        have hst := same_take hlt hlm hpre
        have hmm := msize_mem sizeS l l[k] (List.getElem_mem hlt)
        have hfk := HF.out l[k] (List.getElem_mem hlt) m[k]
        obtain ⟨b, o, v0, v1, v2, v3, rfl, hbB, hR, hC, o0, o1, o2, o3⟩ := hrow.open4 hlt
        obtain ⟨b', o', u0, u1, u2, u3, rfl, hbB', hR', hC', p0, p1, p2, p3⟩ := hrow'.open4 hlm
        have hne := @same_at _ l m k hlt hlm
        generalize l[k] = y at *
        generalize m[k] = z at *
        obtain ⟨d0, d1, d2, d3⟩ := (hC.ext hx).later4
        obtain ⟨e0, e1, e2, e3⟩ := (hC'.ext hx).later4
        have HFK := hide hfk
        have HST := hide hst
        have q1 := hide (fun e : Later wr => hR.ext (hx.trans e.ext) hB)
        have q2 := hide (fun e : Later wr => hR'.ext (hx.trans e.ext) hB)
        have q3 := hide (fun e : Later wr => Nat.le_trans hB (hx.trans e.ext).size)
        clear hC hC' hrow hrow' hfk HF hpre hst hR hR'
        go_wp2_with fail
        refine wp_region_later (W := wr) (by kernel_rfl) (by kernel_rfl) (Ext.refl _) ?_
        repeat (go_big_quiet_step (first | (go_at_call 120; exact Later.calls (HFK.out _ _ _ (q1.out _) (q2.out _) (q3.out _)))))
        refine wpQuiet_nil ?_
        rintro _ ⟨e, rfl⟩
        have hx9 := hx.trans e.ext
        by_cases hyz : y = z
        · rw [same_iff.2 hyz]
          have hnx := HST.out.2 hyz
          go_wp2_with fail
          go_roundw
          case rel => exact ⟨k + 1, by omega, by go_num, hnx, hx9⟩
          case measure => simp [intOf]; omega
        · rw [same_false.2 hyz]
          have hnf := hne hyz
          go_wp2_with fail
          go_ret
          exact ⟨by rw [hnf]; rfl, hx9⟩
      · have : k = l.length := by omega
        subst this
        have hfull : same l m = true := same_iff.2 (by rw [List.take_length, HL.out, List.take_length] at hpre; exact hpre)
        go_wp2_with fail
        go_ret
        exact ⟨by rw [hfull]; rfl, hx⟩
  · have hf := same_len hlen
    have hlz : ((l.length : Int) != m.length) = true := by simp; omega
    go_wp2_with fail
    go_ret
    exact ⟨by rw [hf]; rfl, Ext.refl _⟩

set_option maxRecDepth 20000 in
set_option maxHeartbeats 2000000 in
theorem refSameS_any (B : Nat) (x : S) : ∀ (y : S) (w : World) (cs ds : List Value), RS w B x cs → RS w B y ds → B ≤ w.heap.size → sizeS x ≤ 1000000000 →
    Calls Tryz.prog 120 #[.agg cs.toArray, .agg ds.toArray] w fun e w' => e = .returned (.bool (same x y)) ∧ Ext w w' := by
  induction x using S.ind with
  | h x ih =>
  intro y w cs ds hR hR' hB hsz
  obtain ⟨a2, a3, rfl, hS2, hS3⟩ := RS_iff.1 hR
  obtain ⟨b2, b3, rfl, hT2, hT3⟩ := RS_iff.1 hR'
  have hs0 : 1 + msize sizeX x.x + msize sizeS x.l ≤ 1000000000 := by rw [← sizeS_eq]; exact hsz
  have hmem2 := hide (fun z (hz : z ∈ x.x) => msize_mem sizeX x.x z hz)
  have hln2 := length_le_msize sizeX x.x sizeX_pos
  have hmem3 := hide (fun z (hz : z ∈ x.l) => msize_mem sizeS x.l z hz)
  have hln3 := length_le_msize sizeS x.l sizeS_pos
  have hr : same x y = true ↔ x.op = y.op ∧ x.name = y.name ∧ x.x = y.x ∧ x.l = y.l := by
    rw [same_iff]
    exact ⟨by rintro rfl; simp, fun ⟨q0, q1, q2, q3⟩ => S.ext_ q0 q1 q2 q3⟩
  generalize same x y = r at *
  have KR := hide hr
  have HS2 := hide hS2
  have HT2 := hide hT2
  have o2 := hS2.oneCell
  have p2 := hT2.oneCell
  have HS3 := hide hS3
  have HT3 := hide hT3
  have o3 := hS3.oneCell
  have p3 := hT3.oneCell
  have IH := hide ih
  clear hR hR' hsz hr hS2 hT2 hS3 hT3 ih
  generalize x.op = f0 at *
  generalize y.op = g0 at *
  generalize x.name = f1 at *
  generalize y.name = g1 at *
  generalize x.x = f2 at *
  generalize y.x = g2 at *
  generalize x.l = f3 at *
  generalize y.l = g3 at *
  obtain ⟨W1, hW1, hx1, hb1⟩ := box4 w (.int .i64 f0) (.string f1) a2 a3 140
  obtain ⟨W2, hW2, hx2, hb2⟩ := box4 W1 (.int .i64 g0) (.string g1) b2 b3 140
  have hz1 := size_box hW1
  have hz2 := size_box hW2
  have hV1 := hW1.symm
  have hV2 := hW2.symm
  rw [hz1] at hb2 hz2
  have HB1 := hide (hb1.ext hx2)
  have HB2 := hide hb2
  have hxw := hx1.trans hx2
  have hb0 := hxw.size
  obtain ⟨c0, c1, c2, c3⟩ := HB1.out.get4
  obtain ⟨d0, d1, d2, d3⟩ := HB2.out.get4
  clear hW1 hW2 hb1 hb2
  go_enter Tryz.func120, Tryz.ntmps120
  by_cases h0 : f0 = g0
  · subst h0
    by_cases h1 : f1 = g1
    · subst h1
      go_wp2_with fail
      refine (refsameL_of B f2 g2 (fun z hz z' w cs ds h1 h2 h3 => refSameX_any B z z' w cs ds h1 h2 h3 (by have := hmem2.out z hz; omega)) _ _ _ (HS2.out.extRX hxw hB) (HT2.out.extRX hxw hB) (by omega) (by omega)).mono ?_
      rintro e w1 ⟨rfl, hy1⟩
      have hxw1 := hxw.trans hy1
      have hb1 := hxw1.size
      have HB1 := hide (HB1.out.ext hy1)
      have HB2 := hide (HB2.out.ext hy1)
      clear c0 c1 c2 c3 d0 d1 d2 d3
      obtain ⟨c0, c1, c2, c3⟩ := HB1.out.get4
      obtain ⟨d0, d1, d2, d3⟩ := HB2.out.get4
      by_cases h2 : f2 = g2
      · rw [same_iff.2 h2]
        go_wp2_with fail
        refine (refsameAll_of B f3 g3 (fun z hz z' w cs ds h1 h2 h3 => IH.out z hz z' w cs ds h1 h2 h3 (by have := hmem3.out z hz; omega)) _ _ _ (HS3.out.extRS hxw1 hB) (HT3.out.extRS hxw1 hB) (by omega) (by omega)).mono ?_
        rintro e w2 ⟨rfl, hy2⟩
        have hxw2 := hxw1.trans hy2
        have hb2 := hxw2.size
        have HB1 := hide (HB1.out.ext hy2)
        have HB2 := hide (HB2.out.ext hy2)
        clear c0 c1 c2 c3 d0 d1 d2 d3
        obtain ⟨c0, c1, c2, c3⟩ := HB1.out.get4
        obtain ⟨d0, d1, d2, d3⟩ := HB2.out.get4
        by_cases h3 : f3 = g3
        · rw [same_iff.2 h3]
          have hrt : r = true := KR.out.2 (by simp [h2, h3])
          subst hrt
          go_wp2_with fail
          go_ret
          exact ⟨rfl, hxw2⟩
        · rw [same_false.2 h3]
          have hrf : r = false := Bool.eq_false_iff.2 (fun hh => h3 (KR.out.1 hh).2.2.2)
          subst hrf
          go_wp2_with fail
          go_ret
          exact ⟨rfl, hxw2⟩
      · rw [same_false.2 h2]
        have hrf : r = false := Bool.eq_false_iff.2 (fun hh => h2 (KR.out.1 hh).2.2.1)
        subst hrf
        go_wp2_with fail
        go_ret
        exact ⟨rfl, hxw1⟩
    · have hbq : (f1.toList == g1.toList) = false := text_ne h1
      have hrf : r = false := Bool.eq_false_iff.2 (fun hh => h1 (KR.out.1 hh).2.1)
      subst hrf
      go_wp2_with fail
      go_ret
      exact ⟨rfl, hxw⟩
  · have hbq : (f0 == g0) = false := beq_eq_false_iff_ne.2 h0
    have hrf : r = false := Bool.eq_false_iff.2 (fun hh => h0 (KR.out.1 hh).1)
    subst hrf
    go_wp2_with fail
    go_ret
    exact ⟨rfl, hxw⟩

set_option maxRecDepth 20000 in
set_option maxHeartbeats 2000000 in
theorem refsameB_any (B : Nat) (l m : List Bnd) 
    (w : World) (v u : Value) (hS : Sl (RB w B) w B 7 l v) (hT : Sl (RB w B) w B 7 m u) (hB : B ≤ w.heap.size) (hsz : msize sizeB l ≤ 1000000000) :
    Calls Tryz.prog 44 #[v, u] w fun e w' => e = .returned (.bool (same l m)) ∧ Ext w w' := by
  obtain ⟨a, cap, rfl, hcap, hrow⟩ := hS
  obtain ⟨a', cap', rfl, hcap', hrow'⟩ := hT
  have hln := length_le_msize sizeB l sizeB_pos
  go_enter Tryz.func44, Tryz.ntmps44
  by_cases hlen : l.length = m.length
  · have hlz : (m.length : Int) = l.length := by omega
    have HL := hide hlen
    clear hlen
    go_wp2_with fail
    go_loopw [5] (fun i wr => ∃ k : Nat, k ≤ l.length ∧ i = .int .i64 k ∧ l.take k = m.take k ∧ Ext w wr) (fun i _ => l.length - (intOf i).toNat)
    case atStart => exact ⟨0, Nat.zero_le _, rfl, rfl, Ext.refl _⟩
    case round =>
      obtain ⟨k, hk, rfl, hpre, hx⟩ := hrel
      by_cases hlt : k < l.length
      · have hlm : k < m.length := by have := HL.out; omega
        have hst := same_take hlt hlm hpre
        have hmm := msize_mem sizeB l l[k] (List.getElem_mem hlt)
        obtain ⟨b, o, v0, v1, v2, v3, v4, v5, v6, rfl, hbB, hR, hC, o0, o1, o2, o3, o4, o5, o6⟩ := hrow.open7 hlt
        obtain ⟨b', o', u0, u1, u2, u3, u4, u5, u6, rfl, hbB', hR', hC', p0, p1, p2, p3, p4, p5, p6⟩ := hrow'.open7 hlm
        have hne := @same_at _ l m k hlt hlm
        generalize l[k] = y at *
        generalize m[k] = z at *
        obtain ⟨d0, d1, d2, d3, d4, d5, d6⟩ := (hC.ext hx).later7
        obtain ⟨e0, e1, e2, e3, e4, e5, e6⟩ := (hC'.ext hx).later7
        obtain ⟨rfl, hX⟩ := RB_iff.1 hR
        obtain ⟨rfl, hX'⟩ := RB_iff.1 hR'
        have hmx : sizeX y.x ≤ 1000000000 := by have : sizeB y = 1 + sizeX y.x := rfl; omega
        have hyz : y = z ↔ y.name = z.name ∧ y.x = z.x := ⟨by rintro rfl; simp, fun h => Bnd.ext_ h.1 h.2⟩
        rw [hyz] at hst
        have hne' : ¬ (y.name = z.name ∧ y.x = z.x) → same l m = false := fun h => hne fun e => h (hyz.1 e)
        have hfk := hide (fun e : Later wr => refSameX_any B y.x z.x e.w _ _ (hX.ext (hx.trans e.ext) hB) (hX'.ext (hx.trans e.ext) hB) (Nat.le_trans hB (hx.trans e.ext).size) hmx)
        have HST := hide hst
        have hne := hide hne'
        clear hC hC' hrow hrow' hpre hst hR hR' hmm hX hX' hyz hne' hmx
        generalize y.name = s1 at *
        generalize z.name = s2 at *
        generalize y.x = x1 at *
        generalize z.x = x2 at *
        by_cases h0 : s1 = s2
        · subst h0
          go_wp2_with fail
          refine wp_region_later (W := wr) (by kernel_rfl) (by kernel_rfl) (Ext.refl _) ?_
          repeat (go_big_quiet_step (first | (go_at_call 82; exact Later.calls (hfk.out _))))
          refine wpQuiet_nil ?_
          rintro _ ⟨e, rfl⟩
          have hx9 := hx.trans e.ext
          by_cases hyz : x1 = x2
          · rw [same_iff.2 hyz]
            have hnx := HST.out.2 (by simp [hyz])
            go_wp2_with fail
            go_roundw
            case rel => exact ⟨k + 1, by omega, by go_num, hnx, hx9⟩
            case measure => simp [intOf]; omega
          · rw [same_false.2 hyz]
            have hnf := hne.out (fun h => hyz h.2)
            go_wp2_with fail
            go_ret
            exact ⟨by rw [hnf]; rfl, hx9⟩
        · have hbq := text_ne h0
          go_wp2_with fail
          refine wp_region_later (W := wr) (by kernel_rfl) (by kernel_rfl) (Ext.refl _) ?_
          repeat (go_big_quiet_step (first | (go_at_call 82; exact Later.calls (hfk.out _))))
          refine wpQuiet_nil ?_
          rintro _ ⟨e, rfl⟩
          have hx9 := hx.trans e.ext
          have hnf := hne.out (fun h => h0 h.1)
          go_wp2_with fail
          go_ret
          exact ⟨by rw [hnf]; rfl, hx9⟩
      · have : k = l.length := by omega
        subst this
        have hfull : same l m = true := same_iff.2 (by rw [List.take_length, HL.out, List.take_length] at hpre; exact hpre)
        go_wp2_with fail
        go_ret
        exact ⟨by rw [hfull]; rfl, hx⟩
  · have hf := same_len hlen
    have hlz : ((l.length : Int) != m.length) = true := by simp; omega
    go_wp2_with fail
    go_ret
    exact ⟨by rw [hf]; rfl, Ext.refl _⟩

set_option maxRecDepth 20000 in
set_option maxHeartbeats 2000000 in
theorem refsameP_any (B : Nat) (l m : List Prt) 
    (w : World) (v u : Value) (hS : Sl (RP w B) w B 8 l v) (hT : Sl (RP w B) w B 8 m u) (hB : B ≤ w.heap.size) (hsz : msize sizeP l ≤ 1000000000) :
    Calls Tryz.prog 45 #[v, u] w fun e w' => e = .returned (.bool (same l m)) ∧ Ext w w' := by
  obtain ⟨a, cap, rfl, hcap, hrow⟩ := hS
  obtain ⟨a', cap', rfl, hcap', hrow'⟩ := hT
  have hln := length_le_msize sizeP l sizeP_pos
  go_enter Tryz.func45, Tryz.ntmps45
  by_cases hlen : l.length = m.length
  · have hlz : (m.length : Int) = l.length := by omega
    have HL := hide hlen
    clear hlen
    go_wp2_with fail
    go_loopw [5] (fun i wr => ∃ k : Nat, k ≤ l.length ∧ i = .int .i64 k ∧ l.take k = m.take k ∧ Ext w wr) (fun i _ => l.length - (intOf i).toNat)
    case atStart => exact ⟨0, Nat.zero_le _, rfl, rfl, Ext.refl _⟩
    case round =>
      obtain ⟨k, hk, rfl, hpre, hx⟩ := hrel
      by_cases hlt : k < l.length
      · have hlm : k < m.length := by have := HL.out; omega
        have hst := same_take hlt hlm hpre
        have hmm := msize_mem sizeP l l[k] (List.getElem_mem hlt)
        obtain ⟨b, o, v0, v1, v2, v3, v4, v5, v6, v7, rfl, hbB, hR, hC, o0, o1, o2, o3, o4, o5, o6, o7⟩ := hrow.open8 hlt
        obtain ⟨b', o', u0, u1, u2, u3, u4, u5, u6, u7, rfl, hbB', hR', hC', p0, p1, p2, p3, p4, p5, p6, p7⟩ := hrow'.open8 hlm
        have hne := @same_at _ l m k hlt hlm
        generalize l[k] = y at *
        generalize m[k] = z at *
        obtain ⟨d0, d1, d2, d3, d4, d5, d6, d7⟩ := (hC.ext hx).later8
        obtain ⟨e0, e1, e2, e3, e4, e5, e6, e7⟩ := (hC'.ext hx).later8
        obtain ⟨rfl, rfl, hX⟩ := RP_iff.1 hR
        obtain ⟨rfl, rfl, hX'⟩ := RP_iff.1 hR'
        have hmx : sizeX y.w ≤ 1000000000 := by have : sizeP y = 1 + sizeX y.w := rfl; omega
        have hyz : y = z ↔ y.name = z.name ∧ y.out = z.out ∧ y.w = z.w := ⟨by rintro rfl; simp, fun h => Prt.ext_ h.1 h.2.1 h.2.2⟩
        rw [hyz] at hst
        have hne' : ¬ (y.name = z.name ∧ y.out = z.out ∧ y.w = z.w) → same l m = false := fun h => hne fun e => h (hyz.1 e)
        have hfk := hide (fun e : Later wr => refSameX_any B y.w z.w e.w _ _ (hX.ext (hx.trans e.ext) hB) (hX'.ext (hx.trans e.ext) hB) (Nat.le_trans hB (hx.trans e.ext).size) hmx)
        have HST := hide hst
        have hne := hide hne'
        clear hC hC' hrow hrow' hpre hst hR hR' hmm hX hX' hyz hne' hmx
        generalize y.name = s1 at *
        generalize z.name = s2 at *
        generalize y.out = b1 at *
        generalize z.out = b2 at *
        generalize y.w = x1 at *
        generalize z.w = x2 at *
        by_cases h0 : s1 = s2
        · subst h0
          by_cases h1 : b1 = b2
          · subst h1
            go_wp2_with fail
            refine wp_region_later (W := wr) (by kernel_rfl) (by kernel_rfl) (Ext.refl _) ?_
            repeat (go_big_quiet_step (first | (go_at_call 82; exact Later.calls (hfk.out _))))
            refine wpQuiet_nil ?_
            rintro _ ⟨e, rfl⟩
            have hx9 := hx.trans e.ext
            by_cases hyz : x1 = x2
            · rw [same_iff.2 hyz]
              have hnx := HST.out.2 (by simp [hyz])
              go_wp2_with fail
              go_roundw
              case rel => exact ⟨k + 1, by omega, by go_num, hnx, hx9⟩
              case measure => simp [intOf]; omega
            · rw [same_false.2 hyz]
              have hnf := hne.out (fun h => hyz h.2.2)
              go_wp2_with fail
              go_ret
              exact ⟨by rw [hnf]; rfl, hx9⟩
          · have hbq : (b1 == b2) = false := by simpa using h1
            go_wp2_with fail
            refine wp_region_later (W := wr) (by kernel_rfl) (by kernel_rfl) (Ext.refl _) ?_
            repeat (go_big_quiet_step (first | (go_at_call 82; exact Later.calls (hfk.out _))))
            refine wpQuiet_nil ?_
            rintro _ ⟨e, rfl⟩
            have hx9 := hx.trans e.ext
            have hnf := hne.out (fun h => h1 h.2.1)
            go_wp2_with fail
            go_ret
            exact ⟨by rw [hnf]; rfl, hx9⟩
        · have hbq := text_ne h0
          go_wp2_with fail
          refine wp_region_later (W := wr) (by kernel_rfl) (by kernel_rfl) (Ext.refl _) ?_
          repeat (go_big_quiet_step (first | (go_at_call 82; exact Later.calls (hfk.out _))))
          refine wpQuiet_nil ?_
          rintro _ ⟨e, rfl⟩
          have hx9 := hx.trans e.ext
          have hnf := hne.out (fun h => h0 h.1)
          go_wp2_with fail
          go_ret
          exact ⟨by rw [hnf]; rfl, hx9⟩
      · have : k = l.length := by omega
        subst this
        have hfull : same l m = true := same_iff.2 (by rw [List.take_length, HL.out, List.take_length] at hpre; exact hpre)
        go_wp2_with fail
        go_ret
        exact ⟨by rw [hfull]; rfl, hx⟩
  · have hf := same_len hlen
    have hlz : ((l.length : Int) != m.length) = true := by simp; omega
    go_wp2_with fail
    go_ret
    exact ⟨by rw [hf]; rfl, Ext.refl _⟩

end Go.Proofs.YtjoglnjpgkobeaaGreatDoor
