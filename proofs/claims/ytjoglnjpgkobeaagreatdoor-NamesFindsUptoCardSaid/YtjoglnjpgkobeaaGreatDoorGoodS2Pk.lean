/-
  THE CONTRACT OF PACKAGE ast's goodS: kind 2.
-/
import Derived.Test.YtjoglnjpgkobeaaGreatDoorGoodXPk
namespace Go.Proofs.YtjoglnjpgkobeaaGreatDoor
open Go Go.RowKit
set_option linter.all false
set_option linter.unusedVariables false
set_option linter.unusedSimpArgs false
set_option linter.unusedVariables false
set_option linter.unusedSimpArgs false
attribute [local go_sem] run_store_one

set_option maxRecDepth 20000 in
set_option maxHeartbeats 2000000 in
theorem goodS_2 (B : Nat) (x : S) (hop : x.op = 2) (hall : GoodAllOk B x.l) (harms : GoodArmsOk B x.l) (hvx : ∀ z, z ∈ x.x → VX z) (hts : x.name.size < 4294967281) (hsz : sizeS x ≤ 65536) : GoodSOk B x := by
  intro w cs hT hR hB
  obtain ⟨v2, v3, rfl, hS2, hS3⟩ := RS_iff.1 hR
  have hs0 : 1 + msize sizeX x.x + msize sizeS x.l ≤ 65536 := by rw [← sizeS_eq]; exact hsz
  have hlnx := length_le_msize sizeX x.x sizeX_pos
  have hlnl := length_le_msize sizeS x.l sizeS_pos
  have o2 := hS2.oneCell
  have o3 := hS3.oneCell
  obtain ⟨W1, e1, hV1, hx1, hs1, c0, c1, c2, c3⟩ := boxL4 w (.int .i64 x.op) (.string x.name) v2 v3 140
  have hB1 : B ≤ W1.heap.size := Nat.le_trans hB hx1.size
  have GX := hide (show ECalls Tryz.prog 91 #[v2, .func (.func 57) #[] #[]] W1 (.bool (yes (∀ y, y ∈ x.x → MayX y))) from
    fun w' hw => goodXs_of B x.x (by omega) hvx w' v2 (hT.ext (hx1.trans hw)) (hS2.extRX (hx1.trans hw) hB) (Nat.le_trans hB1 hw.size))
  have GL := hide (show ECalls Tryz.prog 127 #[v3, .func (.func 128) #[] #[]] W1 (.bool (yes (∀ y, y ∈ x.l → MayS y))) from
    fun w' hw => hall w' v3 (hT.ext (hx1.trans hw)) (hS3.extRS (hx1.trans hw) hB) (Nat.le_trans hB1 hw.size))
  have GA := hide (show ECalls Tryz.prog 137 #[v3] W1 (.bool (yes (MayArms x.l))) from
    fun w' hw => harms w' v3 (hT.ext (hx1.trans hw)) (hS3.extRS (hx1.trans hw) hB) (Nat.le_trans hB1 hw.size))
  have GN := hide (show ECalls Tryz.prog 105 #[.string x.name] W1 (.bool (nameOk x.name)) from fun w' hw => name_any x.name w' ((hT.ext (hx1.trans hw)).lib) hts)
  have hnil := hide (fun h : x.l.length = 0 => yes_nil (P := MayS) h)
  obtain ⟨sa, scap, rfl, hsc, hsr⟩ := hS2
  obtain ⟨sb, tcap, rfl, htc, hrow⟩ := hS3
  obtain ⟨res, hres⟩ : ∃ res, res = yes (MayS x) := ⟨_, rfl⟩
  rw [← hres]
  rw [yes_congr (MayS_2 (x := x) hop)] at hres
  obtain ⟨PX, hPX⟩ : ∃ P : Prop, P = (∀ y, y ∈ x.x → MayX y) := ⟨_, rfl⟩
  try rw [← hPX] at hres
  rw [← hPX] at GX
  obtain ⟨PZ, hPZ⟩ : ∃ P : Prop, P = (x.name.size = 0) := ⟨_, rfl⟩
  try rw [← hPZ] at hres
  obtain ⟨PX1, hPX1⟩ : ∃ P : Prop, P = (x.x.length = 1) := ⟨_, rfl⟩
  try rw [← hPX1] at hres
  obtain ⟨PL2, hPL2⟩ : ∃ P : Prop, P = (x.l.length = 2) := ⟨_, rfl⟩
  try rw [← hPL2] at hres
  obtain ⟨PO0, hPO0⟩ : ∃ P : Prop, P = (opAt x.l 0 = 5) := ⟨_, rfl⟩
  try rw [← hPO0] at hres
  obtain ⟨PO1, hPO1⟩ : ∃ P : Prop, P = (opAt x.l 1 = 5) := ⟨_, rfl⟩
  try rw [← hPO1] at hres
  obtain ⟨PO2, hPO2⟩ : ∃ P : Prop, P = (opAt x.l 1 = 2) := ⟨_, rfl⟩
  try rw [← hPO2] at hres
  obtain ⟨PL, hPL⟩ : ∃ P : Prop, P = (∀ y, y ∈ x.l → MayS y) := ⟨_, rfl⟩
  try rw [← hPL] at hres
  rw [← hPL] at GL
  have R := hide hres
  have HROW := hide hrow
  clear hR hT hall harms hvx hs0 hsz hts o2 o3 hres hsc hsr htc
  rw [hop] at c0 hV1 ⊢
  generalize x.name = nm at *
  generalize x.x = fx at *
  generalize x.l = fl at *
  clear hop hnil GA GN hrow
  by_cases pX : PX
  · have qX := hide pX
    rw [yes_iff.2 pX] at GX
    clear pX
    by_cases pZ : PZ
    · have qZ := hide pZ
      rw [hPZ] at pZ
      have hem := empty_size pZ
      clear pZ
      by_cases pL : PL
      · have qL := hide pL
        rw [yes_iff.2 pL] at GL
        clear pL
        by_cases pX1 : PX1
        · have qX1 := hide pX1
          rw [hPX1] at pX1
          have bX1 : ((fx.length : Int) == 1) = true := beq_iff_eq.2 (by omega)
          clear pX1
          by_cases pL2 : PL2
          · have qL2 := hide pL2
            rw [hPL2] at pL2
            have bL2 : ((fl.length : Int) == 2) = true := beq_iff_eq.2 (by omega)
            have hl0 : 0 < fl.length := by omega
            have hl1 : 1 < fl.length := by omega
            clear pL2
            have hp0 : (0 : Int) < fl.length := by omega
            have hp1 : (1 : Int) < fl.length := by omega
            obtain ⟨b, o, v0, v1, v2, v3, rfl, hbB, hRa, hCa, o0, o1, o2, o3⟩ := HROW.out.open4 hl0
            obtain ⟨b', o', u0, u1, u2, u3, hsb, hbB', hRb, hCb, p0, p1, p2, p3⟩ := HROW.out.open4 hl1
            cases hsb
            obtain ⟨e2, e3, hEq, -, -⟩ := RS_iff.1 hRa
            cases hEq
            obtain ⟨e4, e5, hEq', -, -⟩ := RS_iff.1 hRb
            cases hEq'
            obtain ⟨i0, i1, i2, i3⟩ := hCa.get4
            obtain ⟨j0, j1, j2, j3⟩ := hCb.get4
            simp only [Nat.zero_mul, Nat.add_zero, Nat.one_mul] at i0 j0
            have ha0 := opAt_eq fl 0 hl0
            have ha1 := opAt_eq fl 1 hl1
            rw [← ha0] at i0
            rw [← ha1] at j0
            have i0 := cellL (cellAt i0) hx1
            have j0 := cellL (cellAt j0) hx1
            clear hRa hRb hCa hCb ha0 ha1 i1 i2 i3 j1 j2 j3
            by_cases pO0 : PO0
            · have qO0 := hide pO0
              rw [hPO0] at pO0
              have bO0 : (opAt fl 0 == 5) = true := beq_iff_eq.2 pO0
              clear pO0
              by_cases pO1 : PO1
              · have qO1 := hide pO1
                rw [hPO1] at pO1
                have bO1 : (opAt fl 1 == 5) = true := beq_iff_eq.2 pO1
                clear pO1
                go_enter Tryz.func128, Tryz.ntmps128
                go_wp2_with (first | (go_at_call 91; refine (GX.out.at_ _).mono ?_; rintro _ _ ⟨rfl, e, rfl⟩) | (go_at_call 127; refine (GL.out.at_ _).mono ?_; rintro _ _ ⟨rfl, e, rfl⟩))
                all_goals
                  go_ret
                  refine ⟨?_, hx1.trans (Later.ext _)⟩
                  rw [R.out]
                  refine congrArg (fun b => Ending.returned (Value.bool b)) ?_
                  rw [Bool.eq_iff_iff, yes_iff]
                  simp [qX.out, qZ.out, qX1.out, qL2.out, qL.out, qO0.out, qO1.out]
              · have qO1 := hide pO1
                rw [hPO1] at pO1
                have bO1 : (opAt fl 1 == 5) = false := beq_eq_false_iff_ne.2 pO1
                clear pO1
                by_cases pO2 : PO2
                · have qO2 := hide pO2
                  rw [hPO2] at pO2
                  have bO2 : (opAt fl 1 == 2) = true := beq_iff_eq.2 pO2
                  clear pO2
                  go_enter Tryz.func128, Tryz.ntmps128
                  go_wp2_with (first | (go_at_call 91; refine (GX.out.at_ _).mono ?_; rintro _ _ ⟨rfl, e, rfl⟩) | (go_at_call 127; refine (GL.out.at_ _).mono ?_; rintro _ _ ⟨rfl, e, rfl⟩))
                  all_goals
                    go_ret
                    refine ⟨?_, hx1.trans (Later.ext _)⟩
                    rw [R.out]
                    refine congrArg (fun b => Ending.returned (Value.bool b)) ?_
                    rw [Bool.eq_iff_iff, yes_iff]
                    simp [qX.out, qZ.out, qX1.out, qL2.out, qL.out, qO0.out, qO1.out, qO2.out]
                · have qO2 := hide pO2
                  rw [hPO2] at pO2
                  have bO2 : (opAt fl 1 == 2) = false := beq_eq_false_iff_ne.2 pO2
                  clear pO2
                  go_enter Tryz.func128, Tryz.ntmps128
                  go_wp2_with (first | (go_at_call 91; refine (GX.out.at_ _).mono ?_; rintro _ _ ⟨rfl, e, rfl⟩) | (go_at_call 127; refine (GL.out.at_ _).mono ?_; rintro _ _ ⟨rfl, e, rfl⟩))
                  all_goals
                    go_ret
                    refine ⟨?_, hx1.trans (Later.ext _)⟩
                    rw [R.out]
                    refine congrArg (fun b => Ending.returned (Value.bool b)) ?_
                    rw [Bool.eq_iff_iff, yes_iff]
                    simp [qX.out, qZ.out, qX1.out, qL2.out, qL.out, qO0.out, qO1.out, qO2.out]
            · have qO0 := hide pO0
              rw [hPO0] at pO0
              have bO0 : (opAt fl 0 == 5) = false := beq_eq_false_iff_ne.2 pO0
              clear pO0
              go_enter Tryz.func128, Tryz.ntmps128
              go_wp2_with (first | (go_at_call 91; refine (GX.out.at_ _).mono ?_; rintro _ _ ⟨rfl, e, rfl⟩) | (go_at_call 127; refine (GL.out.at_ _).mono ?_; rintro _ _ ⟨rfl, e, rfl⟩))
              all_goals
                go_ret
                refine ⟨?_, hx1.trans (Later.ext _)⟩
                rw [R.out]
                refine congrArg (fun b => Ending.returned (Value.bool b)) ?_
                rw [Bool.eq_iff_iff, yes_iff]
                simp [qX.out, qZ.out, qX1.out, qL2.out, qL.out, qO0.out]
          · have qL2 := hide pL2
            rw [hPL2] at pL2
            have bL2 : ((fl.length : Int) == 2) = false := beq_eq_false_iff_ne.2 (by omega)
            clear pL2
            go_enter Tryz.func128, Tryz.ntmps128
            go_wp2_with (first | (go_at_call 91; refine (GX.out.at_ _).mono ?_; rintro _ _ ⟨rfl, e, rfl⟩) | (go_at_call 127; refine (GL.out.at_ _).mono ?_; rintro _ _ ⟨rfl, e, rfl⟩))
            all_goals
              go_ret
              refine ⟨?_, hx1.trans (Later.ext _)⟩
              rw [R.out]
              refine congrArg (fun b => Ending.returned (Value.bool b)) ?_
              rw [Bool.eq_iff_iff, yes_iff]
              simp [qX.out, qZ.out, qX1.out, qL2.out]
        · have qX1 := hide pX1
          rw [hPX1] at pX1
          have bX1 : ((fx.length : Int) == 1) = false := beq_eq_false_iff_ne.2 (by omega)
          clear pX1
          go_enter Tryz.func128, Tryz.ntmps128
          go_wp2_with (first | (go_at_call 91; refine (GX.out.at_ _).mono ?_; rintro _ _ ⟨rfl, e, rfl⟩) | (go_at_call 127; refine (GL.out.at_ _).mono ?_; rintro _ _ ⟨rfl, e, rfl⟩))
          all_goals
            go_ret
            refine ⟨?_, hx1.trans (Later.ext _)⟩
            rw [R.out]
            refine congrArg (fun b => Ending.returned (Value.bool b)) ?_
            rw [Bool.eq_iff_iff, yes_iff]
            simp [qX.out, qZ.out, qX1.out]
      · have qL := hide pL
        rw [yes_no.2 pL] at GL
        clear pL
        go_enter Tryz.func128, Tryz.ntmps128
        go_wp2_with (first | (go_at_call 91; refine (GX.out.at_ _).mono ?_; rintro _ _ ⟨rfl, e, rfl⟩) | (go_at_call 127; refine (GL.out.at_ _).mono ?_; rintro _ _ ⟨rfl, e, rfl⟩))
        all_goals
          go_ret
          refine ⟨?_, hx1.trans (Later.ext _)⟩
          rw [R.out]
          refine congrArg (fun b => Ending.returned (Value.bool b)) ?_
          rw [Bool.eq_iff_iff, yes_iff]
          simp [qX.out, qZ.out, qL.out]
    · have qZ := hide pZ
      rw [hPZ] at pZ
      have hem := full_size pZ
      clear pZ
      go_enter Tryz.func128, Tryz.ntmps128
      go_wp2_with (first | (go_at_call 91; refine (GX.out.at_ _).mono ?_; rintro _ _ ⟨rfl, e, rfl⟩))
      all_goals
        go_ret
        refine ⟨?_, hx1.trans (Later.ext _)⟩
        rw [R.out]
        refine congrArg (fun b => Ending.returned (Value.bool b)) ?_
        rw [Bool.eq_iff_iff, yes_iff]
        simp [qX.out, qZ.out]
  · have qX := hide pX
    rw [yes_no.2 pX] at GX
    clear pX
    go_enter Tryz.func128, Tryz.ntmps128
    go_wp2_with (first | (go_at_call 91; refine (GX.out.at_ _).mono ?_; rintro _ _ ⟨rfl, e, rfl⟩))
    all_goals
      go_ret
      refine ⟨?_, hx1.trans (Later.ext _)⟩
      rw [R.out]
      refine congrArg (fun b => Ending.returned (Value.bool b)) ?_
      rw [Bool.eq_iff_iff, yes_iff]
      simp [qX.out]

end Go.Proofs.YtjoglnjpgkobeaaGreatDoor

/-
  THE CONTRACT OF PACKAGE ast's goodS: kind 3.
-/
namespace Go.Proofs.YtjoglnjpgkobeaaGreatDoor
open Go Go.RowKit
set_option linter.all false
set_option linter.unusedVariables false
set_option linter.unusedSimpArgs false
set_option linter.unusedVariables false
set_option linter.unusedSimpArgs false
attribute [local go_sem] run_store_one

set_option maxRecDepth 20000 in
set_option maxHeartbeats 2000000 in
theorem goodS_3 (B : Nat) (x : S) (hop : x.op = 3) (hall : GoodAllOk B x.l) (harms : GoodArmsOk B x.l) (hvx : ∀ z, z ∈ x.x → VX z) (hts : x.name.size < 4294967281) (hsz : sizeS x ≤ 65536) : GoodSOk B x := by
  intro w cs hT hR hB
  obtain ⟨v2, v3, rfl, hS2, hS3⟩ := RS_iff.1 hR
  have hs0 : 1 + msize sizeX x.x + msize sizeS x.l ≤ 65536 := by rw [← sizeS_eq]; exact hsz
  have hlnx := length_le_msize sizeX x.x sizeX_pos
  have hlnl := length_le_msize sizeS x.l sizeS_pos
  have o2 := hS2.oneCell
  have o3 := hS3.oneCell
  obtain ⟨W1, e1, hV1, hx1, hs1, c0, c1, c2, c3⟩ := boxL4 w (.int .i64 x.op) (.string x.name) v2 v3 140
  have hB1 : B ≤ W1.heap.size := Nat.le_trans hB hx1.size
  have GX := hide (show ECalls Tryz.prog 91 #[v2, .func (.func 57) #[] #[]] W1 (.bool (yes (∀ y, y ∈ x.x → MayX y))) from
    fun w' hw => goodXs_of B x.x (by omega) hvx w' v2 (hT.ext (hx1.trans hw)) (hS2.extRX (hx1.trans hw) hB) (Nat.le_trans hB1 hw.size))
  have GL := hide (show ECalls Tryz.prog 127 #[v3, .func (.func 128) #[] #[]] W1 (.bool (yes (∀ y, y ∈ x.l → MayS y))) from
    fun w' hw => hall w' v3 (hT.ext (hx1.trans hw)) (hS3.extRS (hx1.trans hw) hB) (Nat.le_trans hB1 hw.size))
  have GA := hide (show ECalls Tryz.prog 137 #[v3] W1 (.bool (yes (MayArms x.l))) from
    fun w' hw => harms w' v3 (hT.ext (hx1.trans hw)) (hS3.extRS (hx1.trans hw) hB) (Nat.le_trans hB1 hw.size))
  have GN := hide (show ECalls Tryz.prog 105 #[.string x.name] W1 (.bool (nameOk x.name)) from fun w' hw => name_any x.name w' ((hT.ext (hx1.trans hw)).lib) hts)
  have hnil := hide (fun h : x.l.length = 0 => yes_nil (P := MayS) h)
  obtain ⟨sa, scap, rfl, hsc, hsr⟩ := hS2
  obtain ⟨sb, tcap, rfl, htc, hrow⟩ := hS3
  obtain ⟨res, hres⟩ : ∃ res, res = yes (MayS x) := ⟨_, rfl⟩
  rw [← hres]
  rw [yes_congr (MayS_3 (x := x) hop)] at hres
  obtain ⟨PX, hPX⟩ : ∃ P : Prop, P = (∀ y, y ∈ x.x → MayX y) := ⟨_, rfl⟩
  try rw [← hPX] at hres
  rw [← hPX] at GX
  obtain ⟨PZ, hPZ⟩ : ∃ P : Prop, P = (x.name.size = 0) := ⟨_, rfl⟩
  try rw [← hPZ] at hres
  obtain ⟨PX1, hPX1⟩ : ∃ P : Prop, P = (x.x.length = 1) := ⟨_, rfl⟩
  try rw [← hPX1] at hres
  obtain ⟨PA, hPA⟩ : ∃ P : Prop, P = (MayArms x.l) := ⟨_, rfl⟩
  try rw [← hPA] at hres
  rw [← hPA] at GA
  have R := hide hres
  clear hR hT hall harms hvx hs0 hsz hts o2 o3 hres hsc hsr htc
  rw [hop] at c0 hV1 ⊢
  generalize x.name = nm at *
  generalize x.x = fx at *
  generalize x.l = fl at *
  clear hop hnil GL GN hrow
  by_cases pX : PX
  · have qX := hide pX
    rw [yes_iff.2 pX] at GX
    clear pX
    by_cases pZ : PZ
    · have qZ := hide pZ
      rw [hPZ] at pZ
      have hem := empty_size pZ
      clear pZ
      by_cases pX1 : PX1
      · have qX1 := hide pX1
        rw [hPX1] at pX1
        have bX1 : ((fx.length : Int) == 1) = true := beq_iff_eq.2 (by omega)
        clear pX1
        by_cases pA : PA
        · have qA := hide pA
          rw [yes_iff.2 pA] at GA
          clear pA
          go_enter Tryz.func128, Tryz.ntmps128
          go_wp2_with (first | (go_at_call 91; refine (GX.out.at_ _).mono ?_; rintro _ _ ⟨rfl, e, rfl⟩) | (go_at_call 137; refine (GA.out.at_ _).mono ?_; rintro _ _ ⟨rfl, e, rfl⟩))
          all_goals
            go_ret
            refine ⟨?_, hx1.trans (Later.ext _)⟩
            rw [R.out]
            refine congrArg (fun b => Ending.returned (Value.bool b)) ?_
            rw [Bool.eq_iff_iff, yes_iff]
            simp [qX.out, qZ.out, qX1.out, qA.out]
        · have qA := hide pA
          rw [yes_no.2 pA] at GA
          clear pA
          go_enter Tryz.func128, Tryz.ntmps128
          go_wp2_with (first | (go_at_call 91; refine (GX.out.at_ _).mono ?_; rintro _ _ ⟨rfl, e, rfl⟩) | (go_at_call 137; refine (GA.out.at_ _).mono ?_; rintro _ _ ⟨rfl, e, rfl⟩))
          all_goals
            go_ret
            refine ⟨?_, hx1.trans (Later.ext _)⟩
            rw [R.out]
            refine congrArg (fun b => Ending.returned (Value.bool b)) ?_
            rw [Bool.eq_iff_iff, yes_iff]
            simp [qX.out, qZ.out, qX1.out, qA.out]
      · have qX1 := hide pX1
        rw [hPX1] at pX1
        have bX1 : ((fx.length : Int) == 1) = false := beq_eq_false_iff_ne.2 (by omega)
        clear pX1
        go_enter Tryz.func128, Tryz.ntmps128
        go_wp2_with (first | (go_at_call 91; refine (GX.out.at_ _).mono ?_; rintro _ _ ⟨rfl, e, rfl⟩))
        all_goals
          go_ret
          refine ⟨?_, hx1.trans (Later.ext _)⟩
          rw [R.out]
          refine congrArg (fun b => Ending.returned (Value.bool b)) ?_
          rw [Bool.eq_iff_iff, yes_iff]
          simp [qX.out, qZ.out, qX1.out]
    · have qZ := hide pZ
      rw [hPZ] at pZ
      have hem := full_size pZ
      clear pZ
      go_enter Tryz.func128, Tryz.ntmps128
      go_wp2_with (first | (go_at_call 91; refine (GX.out.at_ _).mono ?_; rintro _ _ ⟨rfl, e, rfl⟩))
      all_goals
        go_ret
        refine ⟨?_, hx1.trans (Later.ext _)⟩
        rw [R.out]
        refine congrArg (fun b => Ending.returned (Value.bool b)) ?_
        rw [Bool.eq_iff_iff, yes_iff]
        simp [qX.out, qZ.out]
  · have qX := hide pX
    rw [yes_no.2 pX] at GX
    clear pX
    go_enter Tryz.func128, Tryz.ntmps128
    go_wp2_with (first | (go_at_call 91; refine (GX.out.at_ _).mono ?_; rintro _ _ ⟨rfl, e, rfl⟩))
    all_goals
      go_ret
      refine ⟨?_, hx1.trans (Later.ext _)⟩
      rw [R.out]
      refine congrArg (fun b => Ending.returned (Value.bool b)) ?_
      rw [Bool.eq_iff_iff, yes_iff]
      simp [qX.out]

end Go.Proofs.YtjoglnjpgkobeaaGreatDoor
