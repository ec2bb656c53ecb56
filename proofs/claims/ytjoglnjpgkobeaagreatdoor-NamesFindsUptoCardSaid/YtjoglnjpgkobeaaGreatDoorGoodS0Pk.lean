/-
  THE CONTRACT OF PACKAGE ast's goodS: kind 0.
-/
import Derived.Test.YtjoglnjpgkobeaaGreatDoorGoodXPk
namespace Go.Proofs.YtjoglnjpgkobeaaGreatDoor
open Go Go.RowKit
set_option linter.all false
set_option linter.unusedVariables false
set_option linter.unusedSimpArgs false
set_option linter.unusedVariables false
set_option linter.unusedSimpArgs false
attribute [local go_sem] run_store_one

set_option maxRecDepth 20000 in
set_option maxHeartbeats 2000000 in
theorem goodS_0 (B : Nat) (x : S) (h1 : x.op ≠ 1) (h2 : x.op ≠ 2) (h3 : x.op ≠ 3) (h5 : x.op ≠ 5) (h6 : x.op ≠ 6) (hall : GoodAllOk B x.l) (harms : GoodArmsOk B x.l) (hvx : ∀ z, z ∈ x.x → VX z) (hts : x.name.size < 4294967281) (hsz : sizeS x ≤ 65536) : GoodSOk B x := by
  intro w cs hT hR hB
  obtain ⟨v2, v3, rfl, hS2, hS3⟩ := RS_iff.1 hR
  have hs0 : 1 + msize sizeX x.x + msize sizeS x.l ≤ 65536 := by rw [← sizeS_eq]; exact hsz
  have hlnx := length_le_msize sizeX x.x sizeX_pos
  have hlnl := length_le_msize sizeS x.l sizeS_pos
  have o2 := hS2.oneCell
  have o3 := hS3.oneCell
  obtain ⟨W1, e1, hV1, hx1, hs1, c0, c1, c2, c3⟩ := boxL4 w (.int .i64 x.op) (.string x.name) v2 v3 140
  have hB1 : B ≤ W1.heap.size := Nat.le_trans hB hx1.size
  have GX := hide (show ECalls Tryz.prog 91 #[v2, .func (.func 57) #[] #[]] W1 (.bool (yes (∀ y, y ∈ x.x → MayX y))) from
    fun w' hw => goodXs_of B x.x (by omega) hvx w' v2 (hT.ext (hx1.trans hw)) (hS2.extRX (hx1.trans hw) hB) (Nat.le_trans hB1 hw.size))
  have GL := hide (show ECalls Tryz.prog 127 #[v3, .func (.func 128) #[] #[]] W1 (.bool (yes (∀ y, y ∈ x.l → MayS y))) from
    fun w' hw => hall w' v3 (hT.ext (hx1.trans hw)) (hS3.extRS (hx1.trans hw) hB) (Nat.le_trans hB1 hw.size))
  have GA := hide (show ECalls Tryz.prog 137 #[v3] W1 (.bool (yes (MayArms x.l))) from
    fun w' hw => harms w' v3 (hT.ext (hx1.trans hw)) (hS3.extRS (hx1.trans hw) hB) (Nat.le_trans hB1 hw.size))
  have GN := hide (show ECalls Tryz.prog 105 #[.string x.name] W1 (.bool (nameOk x.name)) from fun w' hw => name_any x.name w' ((hT.ext (hx1.trans hw)).lib) hts)
  have hnil := hide (fun h : x.l.length = 0 => yes_nil (P := MayS) h)
  obtain ⟨sa, scap, rfl, hsc, hsr⟩ := hS2
  obtain ⟨sb, tcap, rfl, htc, hrow⟩ := hS3
  obtain ⟨res, hres⟩ : ∃ res, res = yes (MayS x) := ⟨_, rfl⟩
  rw [← hres]
  rw [yes_congr (MayS_0 (x := x) h1 h2 h3 h5 h6)] at hres
  obtain ⟨PX, hPX⟩ : ∃ P : Prop, P = (∀ y, y ∈ x.x → MayX y) := ⟨_, rfl⟩
  try rw [← hPX] at hres
  rw [← hPX] at GX
  obtain ⟨PZ, hPZ⟩ : ∃ P : Prop, P = (x.name.size = 0) := ⟨_, rfl⟩
  try rw [← hPZ] at hres
  obtain ⟨PL, hPL⟩ : ∃ P : Prop, P = (∀ y, y ∈ x.l → MayS y) := ⟨_, rfl⟩
  try rw [← hPL] at hres
  rw [← hPL] at GL
  have R := hide hres
  clear hR hT hall harms hvx hs0 hsz hts o2 o3 hres hsc hsr htc
  generalize x.name = nm at *
  generalize x.x = fx at *
  generalize x.l = fl at *
  generalize x.op = op at *
  clear hnil GA GN hrow
  have hb1 : (op == 1) = false := beq_eq_false_iff_ne.2 h1
  have hb2 : (op == 2) = false := beq_eq_false_iff_ne.2 h2
  have hb3 : (op == 3) = false := beq_eq_false_iff_ne.2 h3
  have hb5 : (op == 5) = false := beq_eq_false_iff_ne.2 h5
  have hb6 : (op == 6) = false := beq_eq_false_iff_ne.2 h6
  by_cases pX : PX
  · have qX := hide pX
    rw [yes_iff.2 pX] at GX
    clear pX
    by_cases pZ : PZ
    · have qZ := hide pZ
      rw [hPZ] at pZ
      have hem := empty_size pZ
      clear pZ
      by_cases pL : PL
      · have qL := hide pL
        rw [yes_iff.2 pL] at GL
        clear pL
        go_enter Tryz.func128, Tryz.ntmps128
        go_wp2_with (first | (go_at_call 91; refine (GX.out.at_ _).mono ?_; rintro _ _ ⟨rfl, e, rfl⟩) | (go_at_call 127; refine (GL.out.at_ _).mono ?_; rintro _ _ ⟨rfl, e, rfl⟩))
        all_goals
          go_ret
          refine ⟨?_, hx1.trans (Later.ext _)⟩
          rw [R.out]
          refine congrArg (fun b => Ending.returned (Value.bool b)) ?_
          rw [Bool.eq_iff_iff, yes_iff]
          simp [qX.out, qZ.out]
      · have qL := hide pL
        rw [yes_no.2 pL] at GL
        clear pL
        go_enter Tryz.func128, Tryz.ntmps128
        go_wp2_with (first | (go_at_call 91; refine (GX.out.at_ _).mono ?_; rintro _ _ ⟨rfl, e, rfl⟩) | (go_at_call 127; refine (GL.out.at_ _).mono ?_; rintro _ _ ⟨rfl, e, rfl⟩))
        all_goals
          go_ret
          refine ⟨?_, hx1.trans (Later.ext _)⟩
          rw [R.out]
          refine congrArg (fun b => Ending.returned (Value.bool b)) ?_
          rw [Bool.eq_iff_iff, yes_iff]
          simp [qX.out, qZ.out]
    · have qZ := hide pZ
      rw [hPZ] at pZ
      have hem := full_size pZ
      clear pZ
      go_enter Tryz.func128, Tryz.ntmps128
      go_wp2_with (first | (go_at_call 91; refine (GX.out.at_ _).mono ?_; rintro _ _ ⟨rfl, e, rfl⟩))
      all_goals
        go_ret
        refine ⟨?_, hx1.trans (Later.ext _)⟩
        rw [R.out]
        refine congrArg (fun b => Ending.returned (Value.bool b)) ?_
        rw [Bool.eq_iff_iff, yes_iff]
        simp [qX.out, qZ.out]
  · have qX := hide pX
    rw [yes_no.2 pX] at GX
    clear pX
    go_enter Tryz.func128, Tryz.ntmps128
    go_wp2_with (first | (go_at_call 91; refine (GX.out.at_ _).mono ?_; rintro _ _ ⟨rfl, e, rfl⟩))
    all_goals
      go_ret
      refine ⟨?_, hx1.trans (Later.ext _)⟩
      rw [R.out]
      refine congrArg (fun b => Ending.returned (Value.bool b)) ?_
      rw [Bool.eq_iff_iff, yes_iff]
      simp [qX.out]

end Go.Proofs.YtjoglnjpgkobeaaGreatDoor

/-
  THE CONTRACT OF PACKAGE ast's goodS: kind 1.
-/
namespace Go.Proofs.YtjoglnjpgkobeaaGreatDoor
open Go Go.RowKit
set_option linter.all false
set_option linter.unusedVariables false
set_option linter.unusedSimpArgs false
set_option linter.unusedVariables false
set_option linter.unusedSimpArgs false
attribute [local go_sem] run_store_one

set_option maxRecDepth 20000 in
set_option maxHeartbeats 2000000 in
theorem goodS_1 (B : Nat) (x : S) (hop : x.op = 1) (hall : GoodAllOk B x.l) (harms : GoodArmsOk B x.l) (hvx : ∀ z, z ∈ x.x → VX z) (hts : x.name.size < 4294967281) (hsz : sizeS x ≤ 65536) : GoodSOk B x := by
  intro w cs hT hR hB
  obtain ⟨v2, v3, rfl, hS2, hS3⟩ := RS_iff.1 hR
  have hs0 : 1 + msize sizeX x.x + msize sizeS x.l ≤ 65536 := by rw [← sizeS_eq]; exact hsz
  have hlnx := length_le_msize sizeX x.x sizeX_pos
  have hlnl := length_le_msize sizeS x.l sizeS_pos
  have o2 := hS2.oneCell
  have o3 := hS3.oneCell
  obtain ⟨W1, e1, hV1, hx1, hs1, c0, c1, c2, c3⟩ := boxL4 w (.int .i64 x.op) (.string x.name) v2 v3 140
  have hB1 : B ≤ W1.heap.size := Nat.le_trans hB hx1.size
  have GX := hide (show ECalls Tryz.prog 91 #[v2, .func (.func 57) #[] #[]] W1 (.bool (yes (∀ y, y ∈ x.x → MayX y))) from
    fun w' hw => goodXs_of B x.x (by omega) hvx w' v2 (hT.ext (hx1.trans hw)) (hS2.extRX (hx1.trans hw) hB) (Nat.le_trans hB1 hw.size))
  have GL := hide (show ECalls Tryz.prog 127 #[v3, .func (.func 128) #[] #[]] W1 (.bool (yes (∀ y, y ∈ x.l → MayS y))) from
    fun w' hw => hall w' v3 (hT.ext (hx1.trans hw)) (hS3.extRS (hx1.trans hw) hB) (Nat.le_trans hB1 hw.size))
  have GA := hide (show ECalls Tryz.prog 137 #[v3] W1 (.bool (yes (MayArms x.l))) from
    fun w' hw => harms w' v3 (hT.ext (hx1.trans hw)) (hS3.extRS (hx1.trans hw) hB) (Nat.le_trans hB1 hw.size))
  have GN := hide (show ECalls Tryz.prog 105 #[.string x.name] W1 (.bool (nameOk x.name)) from fun w' hw => name_any x.name w' ((hT.ext (hx1.trans hw)).lib) hts)
  have hnil := hide (fun h : x.l.length = 0 => yes_nil (P := MayS) h)
  obtain ⟨sa, scap, rfl, hsc, hsr⟩ := hS2
  obtain ⟨sb, tcap, rfl, htc, hrow⟩ := hS3
  obtain ⟨res, hres⟩ : ∃ res, res = yes (MayS x) := ⟨_, rfl⟩
  rw [← hres]
  rw [yes_congr (MayS_1 (x := x) hop)] at hres
  obtain ⟨PX, hPX⟩ : ∃ P : Prop, P = (∀ y, y ∈ x.x → MayX y) := ⟨_, rfl⟩
  try rw [← hPX] at hres
  rw [← hPX] at GX
  obtain ⟨PZ, hPZ⟩ : ∃ P : Prop, P = (x.name.size = 0) := ⟨_, rfl⟩
  try rw [← hPZ] at hres
  obtain ⟨PX2, hPX2⟩ : ∃ P : Prop, P = (x.x.length = 2) := ⟨_, rfl⟩
  try rw [← hPX2] at hres
  obtain ⟨PL0, hPL0⟩ : ∃ P : Prop, P = (x.l.length = 0) := ⟨_, rfl⟩
  try rw [← hPL0] at hres
  obtain ⟨PT, hPT⟩ : ∃ P : Prop, P = (isTargets x.x) := ⟨_, rfl⟩
  rw [← hPT] at hres
  have R := hide hres
  have HSR := hide hsr
  clear hR hT hall harms hvx hs0 hsz hts o2 o3 hres hsc hsr htc
  rw [hop] at c0 hV1 ⊢
  generalize x.name = nm at *
  generalize x.x = fx at *
  generalize x.l = fl at *
  clear hop hnil GA GN hrow
  by_cases pX : PX
  · have qX := hide pX
    rw [yes_iff.2 pX] at GX
    clear pX
    by_cases pZ : PZ
    · have qZ := hide pZ
      rw [hPZ] at pZ
      have hem := empty_size pZ
      clear pZ
      by_cases pL0 : PL0
      · have qL0 := hide pL0
        rw [hPL0] at pL0
        have bL0 : ((fl.length : Int) == 0) = true := beq_iff_eq.2 (by omega)
        have nl0 := hide (yes_nil (P := MayS) pL0)
        clear pL0
        rw [nl0.out] at GL
        by_cases pX2 : PX2
        · have qX2 := hide pX2
          rw [hPX2] at pX2
          have bX2 : ((fx.length : Int) == 2) = true := beq_iff_eq.2 (by omega)
          have hlt : 0 < fx.length := by omega
          clear pX2
          have hp : (0 : Int) < fx.length := by omega
          obtain ⟨b, o, v0, v1, v2, v3, v4, v5, rfl, hbB, hRy, hC, o0, o1, o2, o3, o4, o5⟩ := HSR.out.open6 hlt
          obtain ⟨a5, hEq, hS5⟩ := RX_iff.1 hRy
          cases hEq
          obtain ⟨d0, d1, d2, d3, d4, d5⟩ := hC.get6
          have d0 := cellL (cellAt d0) hx1
          have d1 := cellL (cellAt d1) hx1
          have d2 := cellL (cellAt d2) hx1
          have d3 := cellL (cellAt d3) hx1
          have d4 := cellL (cellAt d4) hx1
          have d5 := cellL (cellAt d5) hx1
          simp only [Nat.zero_mul, Nat.add_zero] at d0 d1 d2 d3 d4 d5
          have GT := hide (show ECalls Tryz.prog 126 #[.agg #[.int .i64 fx[0].op, .string fx[0].name, .int .i64 fx[0].n, .int .i64 fx[0].w, .int .u64 fx[0].v, v5]] W1 (.bool (yes (isNamed fx[0].op))) from
            fun w' hw => target_any _ _ _ _ _ _ rfl rfl rfl rfl o5 w')
          rw [← yes_congr (isTargets_at hlt), ← hPT] at GT
          generalize fx[0].op = f0 at *
          generalize fx[0].name = f1 at *
          generalize fx[0].n = f2 at *
          generalize fx[0].w = f3 at *
          generalize fx[0].v = f4 at *
          clear hRy hC hS5
          by_cases pT : PT
          · have qT := hide pT
            rw [yes_iff.2 pT] at GT
            clear pT
            go_enter Tryz.func128, Tryz.ntmps128
            go_wp2_with (first | (go_at_call 91; refine (GX.out.at_ _).mono ?_; rintro _ _ ⟨rfl, e, rfl⟩) | (go_at_call 127; refine (GL.out.at_ _).mono ?_; rintro _ _ ⟨rfl, e, rfl⟩) | (go_at_call 126; refine (GT.out.at_ _).mono ?_; rintro _ _ ⟨rfl, e, rfl⟩))
            all_goals
              go_ret
              refine ⟨?_, hx1.trans (Later.ext _)⟩
              rw [R.out]
              refine congrArg (fun b => Ending.returned (Value.bool b)) ?_
              rw [Bool.eq_iff_iff, yes_iff]
              simp [qX.out, qZ.out, qL0.out, qX2.out, qT.out]
          · have qT := hide pT
            rw [yes_no.2 pT] at GT
            clear pT
            go_enter Tryz.func128, Tryz.ntmps128
            go_wp2_with (first | (go_at_call 91; refine (GX.out.at_ _).mono ?_; rintro _ _ ⟨rfl, e, rfl⟩) | (go_at_call 127; refine (GL.out.at_ _).mono ?_; rintro _ _ ⟨rfl, e, rfl⟩) | (go_at_call 126; refine (GT.out.at_ _).mono ?_; rintro _ _ ⟨rfl, e, rfl⟩))
            all_goals
              go_ret
              refine ⟨?_, hx1.trans (Later.ext _)⟩
              rw [R.out]
              refine congrArg (fun b => Ending.returned (Value.bool b)) ?_
              rw [Bool.eq_iff_iff, yes_iff]
              simp [qX.out, qZ.out, qL0.out, qX2.out, qT.out]
        · have qX2 := hide pX2
          rw [hPX2] at pX2
          have bX2 : ((fx.length : Int) == 2) = false := beq_eq_false_iff_ne.2 (by omega)
          clear pX2
          go_enter Tryz.func128, Tryz.ntmps128
          go_wp2_with (first | (go_at_call 91; refine (GX.out.at_ _).mono ?_; rintro _ _ ⟨rfl, e, rfl⟩) | (go_at_call 127; refine (GL.out.at_ _).mono ?_; rintro _ _ ⟨rfl, e, rfl⟩))
          all_goals
            go_ret
            refine ⟨?_, hx1.trans (Later.ext _)⟩
            rw [R.out]
            refine congrArg (fun b => Ending.returned (Value.bool b)) ?_
            rw [Bool.eq_iff_iff, yes_iff]
            simp [qX.out, qZ.out, qL0.out, qX2.out]
      · have qL0 := hide pL0
        rw [hPL0] at pL0
        have bL0 : ((fl.length : Int) == 0) = false := beq_eq_false_iff_ne.2 (by omega)
        clear pL0
        by_cases pL : ∀ y, y ∈ fl → MayS y
        · rw [yes_iff.2 pL] at GL
          clear pL
          by_cases pX2 : PX2
          · have qX2 := hide pX2
            rw [hPX2] at pX2
            have bX2 : ((fx.length : Int) == 2) = true := beq_iff_eq.2 (by omega)
            have hlt : 0 < fx.length := by omega
            clear pX2
            have hp : (0 : Int) < fx.length := by omega
            obtain ⟨b, o, v0, v1, v2, v3, v4, v5, rfl, hbB, hRy, hC, o0, o1, o2, o3, o4, o5⟩ := HSR.out.open6 hlt
            obtain ⟨a5, hEq, hS5⟩ := RX_iff.1 hRy
            cases hEq
            obtain ⟨d0, d1, d2, d3, d4, d5⟩ := hC.get6
            have d0 := cellL (cellAt d0) hx1
            have d1 := cellL (cellAt d1) hx1
            have d2 := cellL (cellAt d2) hx1
            have d3 := cellL (cellAt d3) hx1
            have d4 := cellL (cellAt d4) hx1
            have d5 := cellL (cellAt d5) hx1
            simp only [Nat.zero_mul, Nat.add_zero] at d0 d1 d2 d3 d4 d5
            have GT := hide (show ECalls Tryz.prog 126 #[.agg #[.int .i64 fx[0].op, .string fx[0].name, .int .i64 fx[0].n, .int .i64 fx[0].w, .int .u64 fx[0].v, v5]] W1 (.bool (yes (isNamed fx[0].op))) from
              fun w' hw => target_any _ _ _ _ _ _ rfl rfl rfl rfl o5 w')
            rw [← yes_congr (isTargets_at hlt), ← hPT] at GT
            generalize fx[0].op = f0 at *
            generalize fx[0].name = f1 at *
            generalize fx[0].n = f2 at *
            generalize fx[0].w = f3 at *
            generalize fx[0].v = f4 at *
            clear hRy hC hS5
            by_cases pT : PT
            · have qT := hide pT
              rw [yes_iff.2 pT] at GT
              clear pT
              go_enter Tryz.func128, Tryz.ntmps128
              go_wp2_with (first | (go_at_call 91; refine (GX.out.at_ _).mono ?_; rintro _ _ ⟨rfl, e, rfl⟩) | (go_at_call 127; refine (GL.out.at_ _).mono ?_; rintro _ _ ⟨rfl, e, rfl⟩) | (go_at_call 126; refine (GT.out.at_ _).mono ?_; rintro _ _ ⟨rfl, e, rfl⟩))
              all_goals
                go_ret
                refine ⟨?_, hx1.trans (Later.ext _)⟩
                rw [R.out]
                refine congrArg (fun b => Ending.returned (Value.bool b)) ?_
                rw [Bool.eq_iff_iff, yes_iff]
                simp [qX.out, qZ.out, qL0.out, qX2.out, qT.out]
            · have qT := hide pT
              rw [yes_no.2 pT] at GT
              clear pT
              go_enter Tryz.func128, Tryz.ntmps128
              go_wp2_with (first | (go_at_call 91; refine (GX.out.at_ _).mono ?_; rintro _ _ ⟨rfl, e, rfl⟩) | (go_at_call 127; refine (GL.out.at_ _).mono ?_; rintro _ _ ⟨rfl, e, rfl⟩) | (go_at_call 126; refine (GT.out.at_ _).mono ?_; rintro _ _ ⟨rfl, e, rfl⟩))
              all_goals
                go_ret
                refine ⟨?_, hx1.trans (Later.ext _)⟩
                rw [R.out]
                refine congrArg (fun b => Ending.returned (Value.bool b)) ?_
                rw [Bool.eq_iff_iff, yes_iff]
                simp [qX.out, qZ.out, qL0.out, qX2.out, qT.out]
          · have qX2 := hide pX2
            rw [hPX2] at pX2
            have bX2 : ((fx.length : Int) == 2) = false := beq_eq_false_iff_ne.2 (by omega)
            clear pX2
            go_enter Tryz.func128, Tryz.ntmps128
            go_wp2_with (first | (go_at_call 91; refine (GX.out.at_ _).mono ?_; rintro _ _ ⟨rfl, e, rfl⟩) | (go_at_call 127; refine (GL.out.at_ _).mono ?_; rintro _ _ ⟨rfl, e, rfl⟩))
            all_goals
              go_ret
              refine ⟨?_, hx1.trans (Later.ext _)⟩
              rw [R.out]
              refine congrArg (fun b => Ending.returned (Value.bool b)) ?_
              rw [Bool.eq_iff_iff, yes_iff]
              simp [qX.out, qZ.out, qL0.out, qX2.out]
        · rw [yes_no.2 pL] at GL
          clear pL
          go_enter Tryz.func128, Tryz.ntmps128
          go_wp2_with (first | (go_at_call 91; refine (GX.out.at_ _).mono ?_; rintro _ _ ⟨rfl, e, rfl⟩) | (go_at_call 127; refine (GL.out.at_ _).mono ?_; rintro _ _ ⟨rfl, e, rfl⟩))
          all_goals
            go_ret
            refine ⟨?_, hx1.trans (Later.ext _)⟩
            rw [R.out]
            refine congrArg (fun b => Ending.returned (Value.bool b)) ?_
            rw [Bool.eq_iff_iff, yes_iff]
            simp [qX.out, qZ.out, qL0.out]
    · have qZ := hide pZ
      rw [hPZ] at pZ
      have hem := full_size pZ
      clear pZ
      go_enter Tryz.func128, Tryz.ntmps128
      go_wp2_with (first | (go_at_call 91; refine (GX.out.at_ _).mono ?_; rintro _ _ ⟨rfl, e, rfl⟩))
      all_goals
        go_ret
        refine ⟨?_, hx1.trans (Later.ext _)⟩
        rw [R.out]
        refine congrArg (fun b => Ending.returned (Value.bool b)) ?_
        rw [Bool.eq_iff_iff, yes_iff]
        simp [qX.out, qZ.out]
  · have qX := hide pX
    rw [yes_no.2 pX] at GX
    clear pX
    go_enter Tryz.func128, Tryz.ntmps128
    go_wp2_with (first | (go_at_call 91; refine (GX.out.at_ _).mono ?_; rintro _ _ ⟨rfl, e, rfl⟩))
    all_goals
      go_ret
      refine ⟨?_, hx1.trans (Later.ext _)⟩
      rw [R.out]
      refine congrArg (fun b => Ending.returned (Value.bool b)) ?_
      rw [Bool.eq_iff_iff, yes_iff]
      simp [qX.out]

end Go.Proofs.YtjoglnjpgkobeaaGreatDoor
