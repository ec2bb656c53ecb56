/-
  THE CONTRACTS OF PACKAGE ast's arms, AND OF goodS of any statement.
-/
import Derived.Test.YtjoglnjpgkobeaaGreatDoorGoodS0Pk
import Derived.Test.YtjoglnjpgkobeaaGreatDoorGoodS2Pk
import Derived.Test.YtjoglnjpgkobeaaGreatDoorGoodS5Pk
namespace Go.Proofs.YtjoglnjpgkobeaaGreatDoor
open Go Go.RowKit
set_option linter.all false
set_option linter.unusedVariables false
set_option linter.unusedSimpArgs false
set_option linter.unusedVariables false
set_option linter.unusedSimpArgs false
attribute [local go_sem] run_store_one

set_option maxRecDepth 20000 in
set_option maxHeartbeats 4000000 in
theorem goodarms_of (B : Nat) (l : List S) (hf : ∀ x, x ∈ l → GoodAllOk B x.l) (hvx : ∀ x, x ∈ l → ∀ z, z ∈ x.x → VX z) (hsz : msize sizeS l ≤ 65536) : GoodArmsOk B l := by
  intro w v hT hS hB
  obtain ⟨a, cap, rfl, hcap, hrow⟩ := hS
  have HF := hide hf
  have HVXA := hide hvx
  have HT := hide hT
  have hln := length_le_msize sizeS l sizeS_pos
  clear hf hvx hT
  go_enter Tryz.func137, Tryz.ntmps137
  go_wp2_with fail
  go_loopw [7] (fun i wr => ∃ k : Nat, k ≤ l.length ∧ i = .int .i64 k ∧ (∀ (i : Nat) (hi : i < l.length), i < k → MayArm (i + 1 = l.length) l[i]) ∧ Ext w wr) (fun i _ => l.length - (intOf i).toNat)
  case atStart => exact ⟨0, Nat.zero_le _, rfl, fun i _ h => by omega, Ext.refl _⟩
  case round =>
    obtain ⟨k, hk, rfl, hpre, hx⟩ := hrel
    by_cases hlt : k < l.length
    · have hfk := hide (HF.out l[k] (List.getElem_mem hlt))
      have HVX := hide (HVXA.out l[k] (List.getElem_mem hlt))
      have hmm := msize_mem sizeS l l[k] (List.getElem_mem hlt)
      have hsy := sizeS_eq l[k]
      have hyes := fun (h : MayArm (k + 1 = l.length) l[k]) (i : Nat) (hi : i < l.length) (hik : i < k + 1) => show MayArm (i + 1 = l.length) l[i] by
        by_cases e : i = k
        · subst e; exact h
        · exact hpre i hi (by omega)
      have hno := fun (h : ¬ MayArm (k + 1 = l.length) l[k]) => yes_no.2 (fun (hm : MayArms l) => h (hm.2 k hlt))
      obtain ⟨b, o, v0, v1, v2, v3, rfl, hbB, hR, hC, o0, o1, o2, o3⟩ := hrow.open4 hlt
      obtain ⟨a2, a3, hEq, hS2, hS3⟩ := RS_iff.1 hR
      cases hEq
      have hmemx := hide (fun z (hz : z ∈ l[k].x) => msize_mem sizeX l[k].x z hz)
      have hln2 := length_le_msize sizeX l[k].x sizeX_pos
      have YES := hide (fun h => hyes (MayArm_iff.2 h))
      have NO := hide (fun (h : ¬ _) => hno (fun hm => h (MayArm_iff.1 hm)))
      obtain ⟨i0, i1, i2, i3⟩ := (hC.ext hx).get4
      obtain ⟨W1, e1, hV1, hx1, hs1, c0, c1, c2, c3⟩ := boxL4 wr (.int .i64 l[k].op) (.string l[k].name) v2 v3 140
      have hxw := hx.trans hx1
      have hB1 : B ≤ W1.heap.size := Nat.le_trans hB hxw.size
      have GX := hide (show ECalls Tryz.prog 91 #[v2, .func (.func 57) #[] #[]] W1 (.bool (yes (∀ y, y ∈ l[k].x → MayX y))) from
        fun w' hw => goodXs_of B l[k].x (by omega) HVX.out w' v2 (HT.out.ext (hxw.trans hw)) (hS2.extRX (hxw.trans hw) hB) (Nat.le_trans hB1 hw.size))
      have GL := hide (show ECalls Tryz.prog 127 #[v3, .func (.func 128) #[] #[]] W1 (.bool (yes (∀ y, y ∈ l[k].l → MayS y))) from
        fun w' hw => hfk.out w' v3 (HT.out.ext (hxw.trans hw)) (hS3.extRS (hxw.trans hw) hB) (Nat.le_trans hB1 hw.size))
      have t3 := hS3.oneCell
      obtain ⟨sa, scap, rfl, hsc, hsr⟩ := hS2
      clear hyes hno hpre hR hS3 hrow hsc hsr hC hfk HVX hmemx HF HVXA
      generalize l[k].op = f0 at *
      generalize l[k].name = f1 at *
      generalize l[k].x = f2 at *
      generalize l[k].l = f3 at *
      generalize sizeS l[k] = sy at *
      by_cases h4 : f0 = 4
      · have h4b : (f0 == 4) = true := beq_iff_eq.2 h4
        have q4 := hide h4
        clear h4
        by_cases hZ : f1.size = 0
        · have hem := empty_size hZ
          have qZ := hide hZ
          clear hZ
          by_cases hz : f2.length = 0
          · have hab : ((f2.length : Int) == 0) = true := beq_iff_eq.2 (by omega)
            have h0 := hide hz
            clear hz
            by_cases hK : k + 1 = l.length
            · have hbb : ((k : Int) + 1 == (l.length : Int)) = true := beq_iff_eq.2 (by omega)
              have q0 := hide (show (f2.length = 0 ↔ k + 1 = l.length) from ⟨fun _ => hK, fun _ => h0.out⟩)
              clear hK
              by_cases hX : ∀ z, z ∈ f2 → MayX z
              · rw [yes_iff.2 hX] at GX
                have qX := hide hX
                clear hX
                by_cases hL : ∀ z, z ∈ f3 → MayS z
                · rw [yes_iff.2 hL] at GL
                  have hn := hide (YES.out ⟨q4.out, qZ.out, q0.out, qX.out, hL⟩)
                  clear hL
                  go_wp2_with (first | (go_at_call 91; refine (GX.out.at_ _).mono ?_; rintro _ _ ⟨rfl, e, rfl⟩) | (go_at_call 127; refine (GL.out.at_ _).mono ?_; rintro _ _ ⟨rfl, e, rfl⟩))
                  go_roundw
                  case rel => exact ⟨k + 1, by omega, by go_num, hn.out, hxw.trans (Later.ext _)⟩
                  case measure => simp [intOf]; omega
                · rw [yes_no.2 hL] at GL
                  have hr := hide (NO.out (fun h => hL h.2.2.2.2))
                  clear hL
                  go_wp2_with (first | (go_at_call 91; refine (GX.out.at_ _).mono ?_; rintro _ _ ⟨rfl, e, rfl⟩) | (go_at_call 127; refine (GL.out.at_ _).mono ?_; rintro _ _ ⟨rfl, e, rfl⟩))
                  go_ret
                  exact ⟨by rw [hr.out]; rfl, hxw.trans (Later.ext _)⟩
              · rw [yes_no.2 hX] at GX
                have hr := hide (NO.out (fun h => hX h.2.2.2.1))
                clear hX
                go_wp2_with (first | (go_at_call 91; refine (GX.out.at_ _).mono ?_; rintro _ _ ⟨rfl, e, rfl⟩) | (go_at_call 127; refine (GL.out.at_ _).mono ?_; rintro _ _ ⟨rfl, e, rfl⟩))
                go_ret
                exact ⟨by rw [hr.out]; rfl, hxw.trans (Later.ext _)⟩
            · have hbb : ((k : Int) + 1 == (l.length : Int)) = false := beq_eq_false_iff_ne.2 (by omega)
              have hr := hide (NO.out (fun h => hK (h.2.2.1.1 h0.out)))
              clear hK
              go_wp2_with (first | (go_at_call 91; refine (GX.out.at_ _).mono ?_; rintro _ _ ⟨rfl, e, rfl⟩) | (go_at_call 127; refine (GL.out.at_ _).mono ?_; rintro _ _ ⟨rfl, e, rfl⟩))
              go_ret
              exact ⟨by rw [hr.out]; rfl, hxw.trans (Later.ext _)⟩
          · have hab : ((f2.length : Int) == 0) = false := beq_eq_false_iff_ne.2 (by omega)
            have h0 := hide hz
            clear hz
            by_cases hK : k + 1 = l.length
            · have hbb : ((k : Int) + 1 == (l.length : Int)) = true := beq_iff_eq.2 (by omega)
              have hr := hide (NO.out (fun h => h0.out (h.2.2.1.2 hK)))
              clear hK
              go_wp2_with (first | (go_at_call 91; refine (GX.out.at_ _).mono ?_; rintro _ _ ⟨rfl, e, rfl⟩) | (go_at_call 127; refine (GL.out.at_ _).mono ?_; rintro _ _ ⟨rfl, e, rfl⟩))
              go_ret
              exact ⟨by rw [hr.out]; rfl, hxw.trans (Later.ext _)⟩
            · have hbb : ((k : Int) + 1 == (l.length : Int)) = false := beq_eq_false_iff_ne.2 (by omega)
              have q0 := hide (show (f2.length = 0 ↔ k + 1 = l.length) from ⟨fun h => (h0.out h).elim, fun h => (hK h).elim⟩)
              clear hK
              by_cases hX : ∀ z, z ∈ f2 → MayX z
              · rw [yes_iff.2 hX] at GX
                have qX := hide hX
                clear hX
                by_cases hL : ∀ z, z ∈ f3 → MayS z
                · rw [yes_iff.2 hL] at GL
                  have hn := hide (YES.out ⟨q4.out, qZ.out, q0.out, qX.out, hL⟩)
                  clear hL
                  go_wp2_with (first | (go_at_call 91; refine (GX.out.at_ _).mono ?_; rintro _ _ ⟨rfl, e, rfl⟩) | (go_at_call 127; refine (GL.out.at_ _).mono ?_; rintro _ _ ⟨rfl, e, rfl⟩))
                  go_roundw
                  case rel => exact ⟨k + 1, by omega, by go_num, hn.out, hxw.trans (Later.ext _)⟩
                  case measure => simp [intOf]; omega
                · rw [yes_no.2 hL] at GL
                  have hr := hide (NO.out (fun h => hL h.2.2.2.2))
                  clear hL
                  go_wp2_with (first | (go_at_call 91; refine (GX.out.at_ _).mono ?_; rintro _ _ ⟨rfl, e, rfl⟩) | (go_at_call 127; refine (GL.out.at_ _).mono ?_; rintro _ _ ⟨rfl, e, rfl⟩))
                  go_ret
                  exact ⟨by rw [hr.out]; rfl, hxw.trans (Later.ext _)⟩
              · rw [yes_no.2 hX] at GX
                have hr := hide (NO.out (fun h => hX h.2.2.2.1))
                clear hX
                go_wp2_with (first | (go_at_call 91; refine (GX.out.at_ _).mono ?_; rintro _ _ ⟨rfl, e, rfl⟩) | (go_at_call 127; refine (GL.out.at_ _).mono ?_; rintro _ _ ⟨rfl, e, rfl⟩))
                go_ret
                exact ⟨by rw [hr.out]; rfl, hxw.trans (Later.ext _)⟩
        · have hem := full_size hZ
          have hr := hide (NO.out (fun h => hZ h.2.1))
          clear hZ
          go_wp2_with (first | (go_at_call 91; refine (GX.out.at_ _).mono ?_; rintro _ _ ⟨rfl, e, rfl⟩) | (go_at_call 127; refine (GL.out.at_ _).mono ?_; rintro _ _ ⟨rfl, e, rfl⟩))
          go_ret
          exact ⟨by rw [hr.out]; rfl, hxw.trans (Later.ext _)⟩
      · have h4b : (f0 == 4) = false := beq_eq_false_iff_ne.2 h4
        have hr := hide (NO.out (fun h => h4 h.1))
        go_wp2_with (first | (go_at_call 91; refine (GX.out.at_ _).mono ?_; rintro _ _ ⟨rfl, e, rfl⟩) | (go_at_call 127; refine (GL.out.at_ _).mono ?_; rintro _ _ ⟨rfl, e, rfl⟩))
        go_ret
        exact ⟨by rw [hr.out]; rfl, hxw.trans (Later.ext _)⟩
    · have hkl : k = l.length := by omega
      subst hkl
      by_cases hl : l.length = 0
      · have hr := hide (yes_no.2 (fun (hm : MayArms l) => by have := hm.1; omega))
        have hlz : (l.length : Int) = 0 := by omega
        clear hpre
        go_wp2_with fail
        go_ret
        exact ⟨by rw [hr.out]; rfl, hx⟩
      · have hr := hide (yes_iff.2 (show MayArms l from ⟨by omega, fun i hi => hpre i hi hi⟩))
        have hd : decide (0 < l.length) = true := decide_eq_true (by omega)
        clear hpre
        go_wp2_with fail
        go_ret
        exact ⟨by rw [hr.out]; rfl, hx⟩

theorem goodS_both (B : Nat) (x : S) : VS x → sizeS x ≤ 65536 → GoodSOk B x ∧ GoodAllOk B x.l := by
  induction x using S.ind with
  | h x ih =>
    intro hv hsz
    obtain ⟨hts, hvx, hvl⟩ := VS_iff.1 hv
    have hs0 : 1 + msize sizeX x.x + msize sizeS x.l ≤ 65536 := by rw [← sizeS_eq]; exact hsz
    have hln := length_le_msize sizeS x.l sizeS_pos
    have hone : ∀ y, y ∈ x.l → GoodSOk B y ∧ GoodAllOk B y.l := fun y hy => ih y hy (hvl y hy) (by have := msize_mem sizeS x.l y hy; omega)
    have hall : GoodAllOk B x.l := goodAll_of B x.l (fun y hy => (hone y hy).1) (by omega)
    have harms : GoodArmsOk B x.l := goodarms_of B x.l (fun y hy => (hone y hy).2) (fun y hy => (VS_iff.1 (hvl y hy)).2.1) (by omega)
    refine ⟨?_, hall⟩
    by_cases h1 : x.op = 1
    · exact goodS_1 B x h1 hall harms hvx hts hsz
    by_cases h2 : x.op = 2
    · exact goodS_2 B x h2 hall harms hvx hts hsz
    by_cases h3 : x.op = 3
    · exact goodS_3 B x h3 hall harms hvx hts hsz
    by_cases h5 : x.op = 5
    · exact goodS_5 B x h5 hall harms hvx hts hsz
    by_cases h6 : x.op = 6
    · exact goodS_6 B x h6 hall harms hvx hts hsz
    exact goodS_0 B x h1 h2 h3 h5 h6 hall harms hvx hts hsz
theorem goodS_any (B : Nat) (x : S) (hv : VS x) (hsz : sizeS x ≤ 65536) : GoodSOk B x := (goodS_both B x hv hsz).1
theorem goodSs_of (B : Nat) (l : List S) (hsz : msize sizeS l ≤ 65536) (hv : ∀ y, y ∈ l → VS y) : GoodAllOk B l :=
  goodAll_of B l (fun y hy => goodS_any B y (hv y hy) (by have := msize_mem sizeS l y hy; omega)) (by have := length_le_msize sizeS l sizeS_pos; omega)

end Go.Proofs.YtjoglnjpgkobeaaGreatDoor
