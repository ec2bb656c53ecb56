/-
  THE CONTRACTS OF PACKAGE ast's good AND goodX, of any expression.
-/
import Derived.Test.YtjoglnjpgkobeaaGreatDoorProg
import Derived.Test.YtjoglnjpgkobeaaGreatDoorS20
import Derived.Test.YtjoglnjpgkobeaaGreatDoorS12
namespace Go.Proofs.YtjoglnjpgkobeaaGreatDoor
open Go Go.RowKit
set_option linter.all false
set_option linter.unusedVariables false
set_option linter.unusedSimpArgs false
set_option linter.unusedVariables false
set_option linter.unusedSimpArgs false
attribute [local go_sem] run_store_one
theorem own_row {x : X} (k : Nat) (r : KRow) (hr : kindRows[k]? = some r) (hk1 : 2 ≤ k) (hk2 : k ≤ 10) (hop : x.op = k) (hl : x.l.length ≤ 65536) : ownX x ↔ rowOk r x.n x.l.length x.w x.v x.name := by
  unfold ownX rowOk partsOk numOk valOk nmOk isNamed
  rw [hop]
  generalize x.n = n
  generalize x.w = w
  generalize x.v = v
  generalize x.l.length = len at *
  generalize nameP x.name = P
  generalize x.name.size = z
  have hc : k = 2 ∨ k = 3 ∨ k = 4 ∨ k = 5 ∨ k = 6 ∨ k = 7 ∨ k = 8 ∨ k = 9 ∨ k = 10 := by omega
  by_cases hN : P
  all_goals
    rcases hc with rfl | rfl | rfl | rfl | rfl | rfl | rfl | rfl | rfl
    all_goals
      simp only [kindRows, List.getElem?_cons_succ, List.getElem?_cons_zero, Option.some.injEq] at hr
      subst hr
      simp [hN]
      try omega
theorem own_numb {x : X} (hop : x.op = 1) : ownX x ↔ numbOk x.n x.l.length x.w x.v x.name := by
  unfold ownX numbOk partsOk numOk valOk nmOk isNamed
  rw [hop]
  generalize x.n = n
  generalize x.w = w
  generalize x.v = v
  generalize x.l.length = len at *
  generalize nameP x.name = P
  generalize x.name.size = z
  simp
  generalize (2 : Int) ^ w.toNat = p
  omega
theorem own_out {x : X} (hop : x.op < 1 ∨ 10 < x.op) : ¬ ownX x := by
  rintro ⟨h, _⟩
  unfold partsOk at h
  omega
set_option maxRecDepth 20000 in
set_option maxHeartbeats 1000000 in
theorem good_out (op : Int) (hop : op < 1 ∨ 10 < op) (v1 v2 v3 v4 v5 : Value) (o1 : v1.oneCell' = true) (o2 : v2.oneCell' = true) (o3 : v3.oneCell' = true) (o4 : v4.oneCell' = true) (o5 : v5.oneCell' = true) (w : World) :
    Calls Tryz.prog 90 #[.agg #[.int .i64 op, v1, v2, v3, v4, v5]] w fun e w' => e = .returned (.bool false) ∧ Ext w w' := by
  obtain ⟨W1, e1, hV1, hx1, hs1, c0, c1, c2, c3, c4, c5⟩ := boxL6 w (.int .i64 op) v1 v2 v3 v4 v5 49
  by_cases h1 : op < 1
  · clear hop
    go_enter Tryz.func90, Tryz.ntmps90
    go_wp2_with fail
    go_ret
    exact ⟨rfl, hx1.trans (Later.ext _)⟩
  · have h2 : 11 ≤ op := by omega
    have h1 : 1 ≤ op := by omega
    clear hop
    go_enter Tryz.func90, Tryz.ntmps90
    go_wp2_with fail
    go_ret
    exact ⟨rfl, hx1.trans (Later.ext _)⟩
theorem good_any (B : Nat) (x : X) (w : World) (cs : List Value) (hT : Tabs w) (hR : RX w B x cs) (hl : x.l.length ≤ 65536) (hs : x.name.size < 4294967281) :
    Calls Tryz.prog 90 #[.agg cs.toArray] w fun e w' => e = .returned (.bool (yes (ownX x))) ∧ Ext w w' := by
  obtain ⟨a5, rfl, sa, cap, rfl, hcap, hrow⟩ := RX_iff.1 hR
  by_cases h1 : x.op < 1 ∨ 10 < x.op
  · rw [yes_no.2 (own_out h1)]
    exact good_out _ h1 _ _ _ _ _ rfl rfl rfl rfl rfl w
  · by_cases h2 : x.op = 1
    · rw [yes_congr (own_numb h2), h2]
      exact good_1 _ _ _ _ _ _ _ (by omega) w hT
    · obtain ⟨k, hk⟩ : ∃ k : Nat, x.op = k := ⟨x.op.toNat, by omega⟩
      obtain ⟨r, hr⟩ : ∃ r, kindRows[k]? = some r := ⟨kindRows[k]'(show k < 11 by omega), List.getElem?_eq_getElem _⟩
      rw [yes_congr (own_row k r hr (by omega) (by omega) hk hl), hk]
      exact good_n k r hr (by omega) (by omega) _ _ _ _ _ _ _ (by omega) hs w hT
theorem enters_goodX : Enters Tryz.prog 57 := ⟨fun _ _ => by kernel_rfl⟩
set_option maxRecDepth 20000 in
set_option maxHeartbeats 1000000 in
theorem goodX_any (B : Nat) (x : X) : ∀ (w : World) (cs : List Value), Tabs w → RX w B x cs → B ≤ w.heap.size → sizeX x ≤ 65536 → VX x →
    Calls Tryz.prog 57 #[.agg cs.toArray] w fun e w' => e = .returned (.bool (yes (MayX x))) ∧ Ext w w' := by
  induction x using X.ind with
  | h x ih =>
  intro w cs hT hR hB hsz hvx
  have HR := hide hR
  obtain ⟨a5, rfl, hS⟩ := RX_iff.1 hR
  have hs0 : 1 + msize sizeX x.l ≤ 65536 := by rw [← sizeX_eq]; exact hsz
  have hlen := length_le_msize sizeX x.l sizeX_pos
  obtain ⟨hv1, hv2, hns, hvl⟩ := VX_iff.1 hvx
  have o5 := hS.oneCell
  obtain ⟨W1, e1, hV1, hx1, hs1, c0, c1, c2, c3, c4, c5⟩ := boxL6 w (.int .i64 x.op) (.string x.name) (.int .i64 x.n) (.int .i64 x.w) (.int .u64 x.v) a5 49
  have hB1 : B ≤ W1.heap.size := Nat.le_trans hB hx1.size
  have G1 := hide (show ECalls Tryz.prog 90 #[.agg #[.int .i64 x.op, .string x.name, .int .i64 x.n, .int .i64 x.w, .int .u64 x.v, a5]] W1 (.bool (yes (ownX x))) from
    fun w' hw => good_any B x w' _ (hT.ext (hx1.trans hw)) (HR.out.ext (hx1.trans hw) hB) (by omega) hns)
  have G2 := hide (show ECalls Tryz.prog 91 #[a5, .func (.func 57) #[] #[]] W1 (.bool (yes (∀ y, y ∈ x.l → MayX y))) from
    fun w' hw => allX_any _ enters_goodX MayX B x.l w' (fun y hy w'' cs hx hr hb => ih y hy w'' cs (hT.ext ((hx1.trans hw).trans hx)) hr hb (by have := msize_mem sizeX x.l y hy; omega) (hvl y hy)) a5
      (hS.extRX (hx1.trans hw) hB) (Nat.le_trans hB1 hw.size) (by omega))
  obtain ⟨res, hres⟩ : ∃ res, res = yes (MayX x) := ⟨_, rfl⟩
  rw [← hres]
  rw [yes_congr MayX_iff, yes_and] at hres
  have R := hide hres
  clear hR hsz hvx hv1 hv2 hvl ih hs0 hlen hres hS HR
  generalize yes (ownX x) = b1 at *
  generalize yes (∀ y, y ∈ x.l → MayX y) = b2 at *
  cases b1
  all_goals
    go_enter Tryz.func57, Tryz.ntmps57
    go_wp2_with (first
      | (go_at_call 90; refine (G1.out.at_ _).mono ?_; rintro _ _ ⟨rfl, e, rfl⟩)
      | (go_at_call 91; refine (G2.out.at_ _).mono ?_; rintro _ _ ⟨rfl, e, rfl⟩))
    all_goals
      go_ret
      exact ⟨by rw [R.out]; rfl, hx1.trans (Later.ext _)⟩
end Go.Proofs.YtjoglnjpgkobeaaGreatDoor

/-
  THE CONTRACTS OF PACKAGE ast's target; what goodS stands on.
-/
namespace Go.Proofs.YtjoglnjpgkobeaaGreatDoor
open Go Go.RowKit
set_option linter.all false
set_option linter.unusedVariables false
set_option linter.unusedSimpArgs false
set_option linter.unusedVariables false
set_option linter.unusedSimpArgs false
attribute [local go_sem] run_store_one
theorem target_any (op : Int) (v1 v2 v3 v4 v5 : Value) (o1 : v1.oneCell' = true) (o2 : v2.oneCell' = true) (o3 : v3.oneCell' = true) (o4 : v4.oneCell' = true) (o5 : v5.oneCell' = true) (w : World) :
    Calls Tryz.prog 126 #[.agg #[.int .i64 op, v1, v2, v3, v4, v5]] w fun e w' => e = .returned (.bool (yes (isNamed op))) ∧ Ext w w' := by
  obtain ⟨res, hres⟩ : ∃ res, res = yes (isNamed op) := ⟨_, rfl⟩
  rw [← hres]
  have R := hide hres
  clear hres
  obtain ⟨W1, e1, hV1, hx1, hs1, c0, c1, c2, c3, c4, c5⟩ := boxL6 w (.int .i64 op) v1 v2 v3 v4 v5 49
  go_enter Tryz.func126, Tryz.ntmps126
  go_wp2_with fail
  all_goals
    go_ret
    refine ⟨?_, hx1.trans (Later.ext _)⟩
    rw [R.out]
    refine congrArg (fun b => Ending.returned (Value.bool b)) ?_
    rw [Bool.eq_iff_iff, yes_iff]
    unfold isNamed
    simp
    try omega
theorem enters_goodS : Enters Tryz.prog 128 := ⟨fun _ _ => by kernel_rfl⟩
/-- goodS of x. -/
def GoodSOk (B : Nat) (x : S) : Prop := ∀ (w : World) (cs : List Value), Tabs w → RS w B x cs → B ≤ w.heap.size →
    Calls Tryz.prog 128 #[.agg cs.toArray] w fun e w' => e = .returned (.bool (yes (MayS x))) ∧ Ext w w'
/-- 'all', of statements. -/
def GoodAllOk (B : Nat) (l : List S) : Prop := ∀ (w : World) (v : Value), Tabs w → Sl (RS w B) w B 4 l v → B ≤ w.heap.size →
    Calls Tryz.prog 127 #[v, .func (.func 128) #[] #[]] w fun e w' => e = .returned (.bool (yes (∀ y, y ∈ l → MayS y))) ∧ Ext w w'
/-- 'arms'. -/
def GoodArmsOk (B : Nat) (l : List S) : Prop := ∀ (w : World) (v : Value), Tabs w → Sl (RS w B) w B 4 l v → B ≤ w.heap.size →
    Calls Tryz.prog 137 #[v] w fun e w' => e = .returned (.bool (yes (MayArms l))) ∧ Ext w w'
theorem goodAll_of (B : Nat) (l : List S) (h : ∀ y, y ∈ l → GoodSOk B y) (hl : l.length ≤ 1000000000) : GoodAllOk B l :=
  fun w v hT hS hB => allS_any _ enters_goodS MayS B l w (fun y hy w' cs hx hr hb => h y hy w' cs (hT.ext hx) hr hb) v hS hB hl
theorem goodXs_of (B : Nat) (l : List X) (hsz : msize sizeX l ≤ 65536) (hv : ∀ y, y ∈ l → VX y) (w : World) (v : Value) (hT : Tabs w) (hS : Sl (RX w B) w B 6 l v) (hB : B ≤ w.heap.size) :
    Calls Tryz.prog 91 #[v, .func (.func 57) #[] #[]] w fun e w' => e = .returned (.bool (yes (∀ y, y ∈ l → MayX y))) ∧ Ext w w' :=
  allX_any _ enters_goodX MayX B l w (fun y hy w' cs hx hr hb => goodX_any B y w' cs (hT.ext hx) hr hb (by have := msize_mem sizeX l y hy; omega) (hv y hy)) v hS hB (by have := length_le_msize sizeX l sizeX_pos; omega)
theorem yes_nil {α : Type} {P : α → Prop} {l : List α} (h : l.length = 0) : yes (∀ y, y ∈ l → P y) = true := by
  rw [yes_iff, List.eq_nil_of_length_eq_zero h]
  intro y hy
  cases hy
theorem isTargets_at {l : List X} (h : 0 < l.length) : isTargets l ↔ isNamed l[0].op := by
  cases l with
  | nil => simp at h
  | cons x r => exact Iff.rfl
end Go.Proofs.YtjoglnjpgkobeaaGreatDoor

/-
  THE CONTRACT OF PACKAGE ast's goodS: kind 0.
-/
namespace Go.Proofs.YtjoglnjpgkobeaaGreatDoor
open Go Go.RowKit
set_option linter.all false
set_option linter.unusedVariables false
set_option linter.unusedSimpArgs false
set_option linter.unusedVariables false
set_option linter.unusedSimpArgs false
attribute [local go_sem] run_store_one
set_option maxRecDepth 20000 in
set_option maxHeartbeats 2000000 in
theorem goodS_0 (B : Nat) (x : S) (h1 : x.op ≠ 1) (h2 : x.op ≠ 2) (h3 : x.op ≠ 3) (h5 : x.op ≠ 5) (h6 : x.op ≠ 6) (hall : GoodAllOk B x.l) (harms : GoodArmsOk B x.l) (hvx : ∀ z, z ∈ x.x → VX z) (hts : x.name.size < 4294967281) (hsz : sizeS x ≤ 65536) : GoodSOk B x := by
  intro w cs hT hR hB
  obtain ⟨v2, v3, rfl, hS2, hS3⟩ := RS_iff.1 hR
  have hs0 : 1 + msize sizeX x.x + msize sizeS x.l ≤ 65536 := by rw [← sizeS_eq]; exact hsz
  have hlnx := length_le_msize sizeX x.x sizeX_pos
  have hlnl := length_le_msize sizeS x.l sizeS_pos
  have o2 := hS2.oneCell
  have o3 := hS3.oneCell
  obtain ⟨W1, e1, hV1, hx1, hs1, c0, c1, c2, c3⟩ := boxL4 w (.int .i64 x.op) (.string x.name) v2 v3 140
  have hB1 : B ≤ W1.heap.size := Nat.le_trans hB hx1.size
  have GX := hide (show ECalls Tryz.prog 91 #[v2, .func (.func 57) #[] #[]] W1 (.bool (yes (∀ y, y ∈ x.x → MayX y))) from
    fun w' hw => goodXs_of B x.x (by omega) hvx w' v2 (hT.ext (hx1.trans hw)) (hS2.extRX (hx1.trans hw) hB) (Nat.le_trans hB1 hw.size))
  have GL := hide (show ECalls Tryz.prog 127 #[v3, .func (.func 128) #[] #[]] W1 (.bool (yes (∀ y, y ∈ x.l → MayS y))) from
    fun w' hw => hall w' v3 (hT.ext (hx1.trans hw)) (hS3.extRS (hx1.trans hw) hB) (Nat.le_trans hB1 hw.size))
  have GA := hide (show ECalls Tryz.prog 137 #[v3] W1 (.bool (yes (MayArms x.l))) from
    fun w' hw => harms w' v3 (hT.ext (hx1.trans hw)) (hS3.extRS (hx1.trans hw) hB) (Nat.le_trans hB1 hw.size))
  have GN := hide (show ECalls Tryz.prog 105 #[.string x.name] W1 (.bool (nameOk x.name)) from fun w' hw => name_any x.name w' ((hT.ext (hx1.trans hw)).lib) hts)
  have hnil := hide (fun h : x.l.length = 0 => yes_nil (P := MayS) h)
  obtain ⟨sa, scap, rfl, hsc, hsr⟩ := hS2
  obtain ⟨sb, tcap, rfl, htc, hrow⟩ := hS3
  obtain ⟨res, hres⟩ : ∃ res, res = yes (MayS x) := ⟨_, rfl⟩
  rw [← hres]
  rw [yes_congr (MayS_0 (x := x) h1 h2 h3 h5 h6)] at hres
  obtain ⟨PX, hPX⟩ : ∃ P : Prop, P = (∀ y, y ∈ x.x → MayX y) := ⟨_, rfl⟩
  try rw [← hPX] at hres
  rw [← hPX] at GX
  obtain ⟨PZ, hPZ⟩ : ∃ P : Prop, P = (x.name.size = 0) := ⟨_, rfl⟩
  try rw [← hPZ] at hres
  obtain ⟨PL, hPL⟩ : ∃ P : Prop, P = (∀ y, y ∈ x.l → MayS y) := ⟨_, rfl⟩
  try rw [← hPL] at hres
  rw [← hPL] at GL
  have R := hide hres
  clear hR hT hall harms hvx hs0 hsz hts o2 o3 hres hsc hsr htc
  generalize x.name = nm at *
  generalize x.x = fx at *
  generalize x.l = fl at *
  generalize x.op = op at *
  clear hnil GA GN hrow
  have hb1 : (op == 1) = false := beq_eq_false_iff_ne.2 h1
  have hb2 : (op == 2) = false := beq_eq_false_iff_ne.2 h2
  have hb3 : (op == 3) = false := beq_eq_false_iff_ne.2 h3
  have hb5 : (op == 5) = false := beq_eq_false_iff_ne.2 h5
  have hb6 : (op == 6) = false := beq_eq_false_iff_ne.2 h6
  by_cases pX : PX
  · have qX := hide pX
    rw [yes_iff.2 pX] at GX
    clear pX
    by_cases pZ : PZ
    · have qZ := hide pZ
      rw [hPZ] at pZ
      have hem := empty_size pZ
      clear pZ
      by_cases pL : PL
      · have qL := hide pL
        rw [yes_iff.2 pL] at GL
        clear pL
        go_enter Tryz.func128, Tryz.ntmps128
        go_wp2_with (first | (go_at_call 91; refine (GX.out.at_ _).mono ?_; rintro _ _ ⟨rfl, e, rfl⟩) | (go_at_call 127; refine (GL.out.at_ _).mono ?_; rintro _ _ ⟨rfl, e, rfl⟩))
        all_goals
          go_ret
          refine ⟨?_, hx1.trans (Later.ext _)⟩
          rw [R.out]
          refine congrArg (fun b => Ending.returned (Value.bool b)) ?_
          rw [Bool.eq_iff_iff, yes_iff]
          simp [qX.out, qZ.out]
      · have qL := hide pL
        rw [yes_no.2 pL] at GL
        clear pL
        go_enter Tryz.func128, Tryz.ntmps128
        go_wp2_with (first | (go_at_call 91; refine (GX.out.at_ _).mono ?_; rintro _ _ ⟨rfl, e, rfl⟩) | (go_at_call 127; refine (GL.out.at_ _).mono ?_; rintro _ _ ⟨rfl, e, rfl⟩))
        all_goals
          go_ret
          refine ⟨?_, hx1.trans (Later.ext _)⟩
          rw [R.out]
          refine congrArg (fun b => Ending.returned (Value.bool b)) ?_
          rw [Bool.eq_iff_iff, yes_iff]
          simp [qX.out, qZ.out]
    · have qZ := hide pZ
      rw [hPZ] at pZ
      have hem := full_size pZ
      clear pZ
      go_enter Tryz.func128, Tryz.ntmps128
      go_wp2_with (first | (go_at_call 91; refine (GX.out.at_ _).mono ?_; rintro _ _ ⟨rfl, e, rfl⟩))
      all_goals
        go_ret
        refine ⟨?_, hx1.trans (Later.ext _)⟩
        rw [R.out]
        refine congrArg (fun b => Ending.returned (Value.bool b)) ?_
        rw [Bool.eq_iff_iff, yes_iff]
        simp [qX.out, qZ.out]
  · have qX := hide pX
    rw [yes_no.2 pX] at GX
    clear pX
    go_enter Tryz.func128, Tryz.ntmps128
    go_wp2_with (first | (go_at_call 91; refine (GX.out.at_ _).mono ?_; rintro _ _ ⟨rfl, e, rfl⟩))
    all_goals
      go_ret
      refine ⟨?_, hx1.trans (Later.ext _)⟩
      rw [R.out]
      refine congrArg (fun b => Ending.returned (Value.bool b)) ?_
      rw [Bool.eq_iff_iff, yes_iff]
      simp [qX.out]
end Go.Proofs.YtjoglnjpgkobeaaGreatDoor

/-
  THE CONTRACT OF PACKAGE ast's goodS: kind 1.
-/
namespace Go.Proofs.YtjoglnjpgkobeaaGreatDoor
open Go Go.RowKit
set_option linter.all false
set_option linter.unusedVariables false
set_option linter.unusedSimpArgs false
set_option linter.unusedVariables false
set_option linter.unusedSimpArgs false
attribute [local go_sem] run_store_one
set_option maxRecDepth 20000 in
set_option maxHeartbeats 2000000 in
theorem goodS_1 (B : Nat) (x : S) (hop : x.op = 1) (hall : GoodAllOk B x.l) (harms : GoodArmsOk B x.l) (hvx : ∀ z, z ∈ x.x → VX z) (hts : x.name.size < 4294967281) (hsz : sizeS x ≤ 65536) : GoodSOk B x := by
  intro w cs hT hR hB
  obtain ⟨v2, v3, rfl, hS2, hS3⟩ := RS_iff.1 hR
  have hs0 : 1 + msize sizeX x.x + msize sizeS x.l ≤ 65536 := by rw [← sizeS_eq]; exact hsz
  have hlnx := length_le_msize sizeX x.x sizeX_pos
  have hlnl := length_le_msize sizeS x.l sizeS_pos
  have o2 := hS2.oneCell
  have o3 := hS3.oneCell
  obtain ⟨W1, e1, hV1, hx1, hs1, c0, c1, c2, c3⟩ := boxL4 w (.int .i64 x.op) (.string x.name) v2 v3 140
  have hB1 : B ≤ W1.heap.size := Nat.le_trans hB hx1.size
  have GX := hide (show ECalls Tryz.prog 91 #[v2, .func (.func 57) #[] #[]] W1 (.bool (yes (∀ y, y ∈ x.x → MayX y))) from
    fun w' hw => goodXs_of B x.x (by omega) hvx w' v2 (hT.ext (hx1.trans hw)) (hS2.extRX (hx1.trans hw) hB) (Nat.le_trans hB1 hw.size))
  have GL := hide (show ECalls Tryz.prog 127 #[v3, .func (.func 128) #[] #[]] W1 (.bool (yes (∀ y, y ∈ x.l → MayS y))) from
    fun w' hw => hall w' v3 (hT.ext (hx1.trans hw)) (hS3.extRS (hx1.trans hw) hB) (Nat.le_trans hB1 hw.size))
  have GA := hide (show ECalls Tryz.prog 137 #[v3] W1 (.bool (yes (MayArms x.l))) from
    fun w' hw => harms w' v3 (hT.ext (hx1.trans hw)) (hS3.extRS (hx1.trans hw) hB) (Nat.le_trans hB1 hw.size))
  have GN := hide (show ECalls Tryz.prog 105 #[.string x.name] W1 (.bool (nameOk x.name)) from fun w' hw => name_any x.name w' ((hT.ext (hx1.trans hw)).lib) hts)
  have hnil := hide (fun h : x.l.length = 0 => yes_nil (P := MayS) h)
  obtain ⟨sa, scap, rfl, hsc, hsr⟩ := hS2
  obtain ⟨sb, tcap, rfl, htc, hrow⟩ := hS3
  obtain ⟨res, hres⟩ : ∃ res, res = yes (MayS x) := ⟨_, rfl⟩
  rw [← hres]
  rw [yes_congr (MayS_1 (x := x) hop)] at hres
  obtain ⟨PX, hPX⟩ : ∃ P : Prop, P = (∀ y, y ∈ x.x → MayX y) := ⟨_, rfl⟩
  try rw [← hPX] at hres
  rw [← hPX] at GX
  obtain ⟨PZ, hPZ⟩ : ∃ P : Prop, P = (x.name.size = 0) := ⟨_, rfl⟩
  try rw [← hPZ] at hres
  obtain ⟨PX2, hPX2⟩ : ∃ P : Prop, P = (x.x.length = 2) := ⟨_, rfl⟩
  try rw [← hPX2] at hres
  obtain ⟨PL0, hPL0⟩ : ∃ P : Prop, P = (x.l.length = 0) := ⟨_, rfl⟩
  try rw [← hPL0] at hres
  obtain ⟨PT, hPT⟩ : ∃ P : Prop, P = (isTargets x.x) := ⟨_, rfl⟩
  rw [← hPT] at hres
  have R := hide hres
  have HSR := hide hsr
  clear hR hT hall harms hvx hs0 hsz hts o2 o3 hres hsc hsr htc
  rw [hop] at c0 hV1 ⊢
  generalize x.name = nm at *
  generalize x.x = fx at *
  generalize x.l = fl at *
  clear hop hnil GA GN hrow
  by_cases pX : PX
  · have qX := hide pX
    rw [yes_iff.2 pX] at GX
    clear pX
    by_cases pZ : PZ
    · have qZ := hide pZ
      rw [hPZ] at pZ
      have hem := empty_size pZ
      clear pZ
      by_cases pL0 : PL0
      · have qL0 := hide pL0
        rw [hPL0] at pL0
        have bL0 : ((fl.length : Int) == 0) = true := beq_iff_eq.2 (by omega)
        have nl0 := hide (yes_nil (P := MayS) pL0)
        clear pL0
        rw [nl0.out] at GL
        by_cases pX2 : PX2
        · have qX2 := hide pX2
          rw [hPX2] at pX2
          have bX2 : ((fx.length : Int) == 2) = true := beq_iff_eq.2 (by omega)
          have hlt : 0 < fx.length := by omega
          clear pX2
          have hp : (0 : Int) < fx.length := by omega
          obtain ⟨b, o, v0, v1, v2, v3, v4, v5, rfl, hbB, hRy, hC, o0, o1, o2, o3, o4, o5⟩ := HSR.out.open6 hlt
          obtain ⟨a5, hEq, hS5⟩ := RX_iff.1 hRy
          cases hEq
          obtain ⟨d0, d1, d2, d3, d4, d5⟩ := hC.get6
          have d0 := cellL (cellAt d0) hx1
          have d1 := cellL (cellAt d1) hx1
          have d2 := cellL (cellAt d2) hx1
          have d3 := cellL (cellAt d3) hx1
          have d4 := cellL (cellAt d4) hx1
          have d5 := cellL (cellAt d5) hx1
          simp only [Nat.zero_mul, Nat.add_zero] at d0 d1 d2 d3 d4 d5
          have GT := hide (show ECalls Tryz.prog 126 #[.agg #[.int .i64 fx[0].op, .string fx[0].name, .int .i64 fx[0].n, .int .i64 fx[0].w, .int .u64 fx[0].v, v5]] W1 (.bool (yes (isNamed fx[0].op))) from
            fun w' hw => target_any _ _ _ _ _ _ rfl rfl rfl rfl o5 w')
          rw [← yes_congr (isTargets_at hlt), ← hPT] at GT
          generalize fx[0].op = f0 at *
          generalize fx[0].name = f1 at *
          generalize fx[0].n = f2 at *
          generalize fx[0].w = f3 at *
          generalize fx[0].v = f4 at *
          clear hRy hC hS5
          by_cases pT : PT
          · have qT := hide pT
            rw [yes_iff.2 pT] at GT
            clear pT
            go_enter Tryz.func128, Tryz.ntmps128
            go_wp2_with (first | (go_at_call 91; refine (GX.out.at_ _).mono ?_; rintro _ _ ⟨rfl, e, rfl⟩) | (go_at_call 127; refine (GL.out.at_ _).mono ?_; rintro _ _ ⟨rfl, e, rfl⟩) | (go_at_call 126; refine (GT.out.at_ _).mono ?_; rintro _ _ ⟨rfl, e, rfl⟩))
            all_goals
              go_ret
              refine ⟨?_, hx1.trans (Later.ext _)⟩
              rw [R.out]
              refine congrArg (fun b => Ending.returned (Value.bool b)) ?_
              rw [Bool.eq_iff_iff, yes_iff]
              simp [qX.out, qZ.out, qL0.out, qX2.out, qT.out]
          · have qT := hide pT
            rw [yes_no.2 pT] at GT
            clear pT
            go_enter Tryz.func128, Tryz.ntmps128
            go_wp2_with (first | (go_at_call 91; refine (GX.out.at_ _).mono ?_; rintro _ _ ⟨rfl, e, rfl⟩) | (go_at_call 127; refine (GL.out.at_ _).mono ?_; rintro _ _ ⟨rfl, e, rfl⟩) | (go_at_call 126; refine (GT.out.at_ _).mono ?_; rintro _ _ ⟨rfl, e, rfl⟩))
            all_goals
              go_ret
              refine ⟨?_, hx1.trans (Later.ext _)⟩
              rw [R.out]
              refine congrArg (fun b => Ending.returned (Value.bool b)) ?_
              rw [Bool.eq_iff_iff, yes_iff]
              simp [qX.out, qZ.out, qL0.out, qX2.out, qT.out]
        · have qX2 := hide pX2
          rw [hPX2] at pX2
          have bX2 : ((fx.length : Int) == 2) = false := beq_eq_false_iff_ne.2 (by omega)
          clear pX2
          go_enter Tryz.func128, Tryz.ntmps128
          go_wp2_with (first | (go_at_call 91; refine (GX.out.at_ _).mono ?_; rintro _ _ ⟨rfl, e, rfl⟩) | (go_at_call 127; refine (GL.out.at_ _).mono ?_; rintro _ _ ⟨rfl, e, rfl⟩))
          all_goals
            go_ret
            refine ⟨?_, hx1.trans (Later.ext _)⟩
            rw [R.out]
            refine congrArg (fun b => Ending.returned (Value.bool b)) ?_
            rw [Bool.eq_iff_iff, yes_iff]
            simp [qX.out, qZ.out, qL0.out, qX2.out]
      · have qL0 := hide pL0
        rw [hPL0] at pL0
        have bL0 : ((fl.length : Int) == 0) = false := beq_eq_false_iff_ne.2 (by omega)
        clear pL0
        by_cases pL : ∀ y, y ∈ fl → MayS y
        · rw [yes_iff.2 pL] at GL
          clear pL
          by_cases pX2 : PX2
          · have qX2 := hide pX2
            rw [hPX2] at pX2
            have bX2 : ((fx.length : Int) == 2) = true := beq_iff_eq.2 (by omega)
            have hlt : 0 < fx.length := by omega
            clear pX2
            have hp : (0 : Int) < fx.length := by omega
            obtain ⟨b, o, v0, v1, v2, v3, v4, v5, rfl, hbB, hRy, hC, o0, o1, o2, o3, o4, o5⟩ := HSR.out.open6 hlt
            obtain ⟨a5, hEq, hS5⟩ := RX_iff.1 hRy
            cases hEq
            obtain ⟨d0, d1, d2, d3, d4, d5⟩ := hC.get6
            have d0 := cellL (cellAt d0) hx1
            have d1 := cellL (cellAt d1) hx1
            have d2 := cellL (cellAt d2) hx1
            have d3 := cellL (cellAt d3) hx1
            have d4 := cellL (cellAt d4) hx1
            have d5 := cellL (cellAt d5) hx1
            simp only [Nat.zero_mul, Nat.add_zero] at d0 d1 d2 d3 d4 d5
            have GT := hide (show ECalls Tryz.prog 126 #[.agg #[.int .i64 fx[0].op, .string fx[0].name, .int .i64 fx[0].n, .int .i64 fx[0].w, .int .u64 fx[0].v, v5]] W1 (.bool (yes (isNamed fx[0].op))) from
              fun w' hw => target_any _ _ _ _ _ _ rfl rfl rfl rfl o5 w')
            rw [← yes_congr (isTargets_at hlt), ← hPT] at GT
            generalize fx[0].op = f0 at *
            generalize fx[0].name = f1 at *
            generalize fx[0].n = f2 at *
            generalize fx[0].w = f3 at *
            generalize fx[0].v = f4 at *
            clear hRy hC hS5
            by_cases pT : PT
            · have qT := hide pT
              rw [yes_iff.2 pT] at GT
              clear pT
              go_enter Tryz.func128, Tryz.ntmps128
              go_wp2_with (first | (go_at_call 91; refine (GX.out.at_ _).mono ?_; rintro _ _ ⟨rfl, e, rfl⟩) | (go_at_call 127; refine (GL.out.at_ _).mono ?_; rintro _ _ ⟨rfl, e, rfl⟩) | (go_at_call 126; refine (GT.out.at_ _).mono ?_; rintro _ _ ⟨rfl, e, rfl⟩))
              all_goals
                go_ret
                refine ⟨?_, hx1.trans (Later.ext _)⟩
                rw [R.out]
                refine congrArg (fun b => Ending.returned (Value.bool b)) ?_
                rw [Bool.eq_iff_iff, yes_iff]
                simp [qX.out, qZ.out, qL0.out, qX2.out, qT.out]
            · have qT := hide pT
              rw [yes_no.2 pT] at GT
              clear pT
              go_enter Tryz.func128, Tryz.ntmps128
              go_wp2_with (first | (go_at_call 91; refine (GX.out.at_ _).mono ?_; rintro _ _ ⟨rfl, e, rfl⟩) | (go_at_call 127; refine (GL.out.at_ _).mono ?_; rintro _ _ ⟨rfl, e, rfl⟩) | (go_at_call 126; refine (GT.out.at_ _).mono ?_; rintro _ _ ⟨rfl, e, rfl⟩))
              all_goals
                go_ret
                refine ⟨?_, hx1.trans (Later.ext _)⟩
                rw [R.out]
                refine congrArg (fun b => Ending.returned (Value.bool b)) ?_
                rw [Bool.eq_iff_iff, yes_iff]
                simp [qX.out, qZ.out, qL0.out, qX2.out, qT.out]
          · have qX2 := hide pX2
            rw [hPX2] at pX2
            have bX2 : ((fx.length : Int) == 2) = false := beq_eq_false_iff_ne.2 (by omega)
            clear pX2
            go_enter Tryz.func128, Tryz.ntmps128
            go_wp2_with (first | (go_at_call 91; refine (GX.out.at_ _).mono ?_; rintro _ _ ⟨rfl, e, rfl⟩) | (go_at_call 127; refine (GL.out.at_ _).mono ?_; rintro _ _ ⟨rfl, e, rfl⟩))
            all_goals
              go_ret
              refine ⟨?_, hx1.trans (Later.ext _)⟩
              rw [R.out]
              refine congrArg (fun b => Ending.returned (Value.bool b)) ?_
              rw [Bool.eq_iff_iff, yes_iff]
              simp [qX.out, qZ.out, qL0.out, qX2.out]
        · rw [yes_no.2 pL] at GL
          clear pL
          go_enter Tryz.func128, Tryz.ntmps128
          go_wp2_with (first | (go_at_call 91; refine (GX.out.at_ _).mono ?_; rintro _ _ ⟨rfl, e, rfl⟩) | (go_at_call 127; refine (GL.out.at_ _).mono ?_; rintro _ _ ⟨rfl, e, rfl⟩))
          all_goals
            go_ret
            refine ⟨?_, hx1.trans (Later.ext _)⟩
            rw [R.out]
            refine congrArg (fun b => Ending.returned (Value.bool b)) ?_
            rw [Bool.eq_iff_iff, yes_iff]
            simp [qX.out, qZ.out, qL0.out]
    · have qZ := hide pZ
      rw [hPZ] at pZ
      have hem := full_size pZ
      clear pZ
      go_enter Tryz.func128, Tryz.ntmps128
      go_wp2_with (first | (go_at_call 91; refine (GX.out.at_ _).mono ?_; rintro _ _ ⟨rfl, e, rfl⟩))
      all_goals
        go_ret
        refine ⟨?_, hx1.trans (Later.ext _)⟩
        rw [R.out]
        refine congrArg (fun b => Ending.returned (Value.bool b)) ?_
        rw [Bool.eq_iff_iff, yes_iff]
        simp [qX.out, qZ.out]
  · have qX := hide pX
    rw [yes_no.2 pX] at GX
    clear pX
    go_enter Tryz.func128, Tryz.ntmps128
    go_wp2_with (first | (go_at_call 91; refine (GX.out.at_ _).mono ?_; rintro _ _ ⟨rfl, e, rfl⟩))
    all_goals
      go_ret
      refine ⟨?_, hx1.trans (Later.ext _)⟩
      rw [R.out]
      refine congrArg (fun b => Ending.returned (Value.bool b)) ?_
      rw [Bool.eq_iff_iff, yes_iff]
      simp [qX.out]
end Go.Proofs.YtjoglnjpgkobeaaGreatDoor

/-
  THE CONTRACT OF PACKAGE ast's goodS: kind 2.
-/
namespace Go.Proofs.YtjoglnjpgkobeaaGreatDoor
open Go Go.RowKit
set_option linter.all false
set_option linter.unusedVariables false
set_option linter.unusedSimpArgs false
set_option linter.unusedVariables false
set_option linter.unusedSimpArgs false
attribute [local go_sem] run_store_one
set_option maxRecDepth 20000 in
set_option maxHeartbeats 2000000 in
theorem goodS_2 (B : Nat) (x : S) (hop : x.op = 2) (hall : GoodAllOk B x.l) (harms : GoodArmsOk B x.l) (hvx : ∀ z, z ∈ x.x → VX z) (hts : x.name.size < 4294967281) (hsz : sizeS x ≤ 65536) : GoodSOk B x := by
  intro w cs hT hR hB
  obtain ⟨v2, v3, rfl, hS2, hS3⟩ := RS_iff.1 hR
  have hs0 : 1 + msize sizeX x.x + msize sizeS x.l ≤ 65536 := by rw [← sizeS_eq]; exact hsz
  have hlnx := length_le_msize sizeX x.x sizeX_pos
  have hlnl := length_le_msize sizeS x.l sizeS_pos
  have o2 := hS2.oneCell
  have o3 := hS3.oneCell
  obtain ⟨W1, e1, hV1, hx1, hs1, c0, c1, c2, c3⟩ := boxL4 w (.int .i64 x.op) (.string x.name) v2 v3 140
  have hB1 : B ≤ W1.heap.size := Nat.le_trans hB hx1.size
  have GX := hide (show ECalls Tryz.prog 91 #[v2, .func (.func 57) #[] #[]] W1 (.bool (yes (∀ y, y ∈ x.x → MayX y))) from
    fun w' hw => goodXs_of B x.x (by omega) hvx w' v2 (hT.ext (hx1.trans hw)) (hS2.extRX (hx1.trans hw) hB) (Nat.le_trans hB1 hw.size))
  have GL := hide (show ECalls Tryz.prog 127 #[v3, .func (.func 128) #[] #[]] W1 (.bool (yes (∀ y, y ∈ x.l → MayS y))) from
    fun w' hw => hall w' v3 (hT.ext (hx1.trans hw)) (hS3.extRS (hx1.trans hw) hB) (Nat.le_trans hB1 hw.size))
  have GA := hide (show ECalls Tryz.prog 137 #[v3] W1 (.bool (yes (MayArms x.l))) from
    fun w' hw => harms w' v3 (hT.ext (hx1.trans hw)) (hS3.extRS (hx1.trans hw) hB) (Nat.le_trans hB1 hw.size))
  have GN := hide (show ECalls Tryz.prog 105 #[.string x.name] W1 (.bool (nameOk x.name)) from fun w' hw => name_any x.name w' ((hT.ext (hx1.trans hw)).lib) hts)
  have hnil := hide (fun h : x.l.length = 0 => yes_nil (P := MayS) h)
  obtain ⟨sa, scap, rfl, hsc, hsr⟩ := hS2
  obtain ⟨sb, tcap, rfl, htc, hrow⟩ := hS3
  obtain ⟨res, hres⟩ : ∃ res, res = yes (MayS x) := ⟨_, rfl⟩
  rw [← hres]
  rw [yes_congr (MayS_2 (x := x) hop)] at hres
  obtain ⟨PX, hPX⟩ : ∃ P : Prop, P = (∀ y, y ∈ x.x → MayX y) := ⟨_, rfl⟩
  try rw [← hPX] at hres
  rw [← hPX] at GX
  obtain ⟨PZ, hPZ⟩ : ∃ P : Prop, P = (x.name.size = 0) := ⟨_, rfl⟩
  try rw [← hPZ] at hres
  obtain ⟨PX1, hPX1⟩ : ∃ P : Prop, P = (x.x.length = 1) := ⟨_, rfl⟩
  try rw [← hPX1] at hres
  obtain ⟨PL2, hPL2⟩ : ∃ P : Prop, P = (x.l.length = 2) := ⟨_, rfl⟩
  try rw [← hPL2] at hres
  obtain ⟨PO0, hPO0⟩ : ∃ P : Prop, P = (opAt x.l 0 = 5) := ⟨_, rfl⟩
  try rw [← hPO0] at hres
  obtain ⟨PO1, hPO1⟩ : ∃ P : Prop, P = (opAt x.l 1 = 5) := ⟨_, rfl⟩
  try rw [← hPO1] at hres
  obtain ⟨PO2, hPO2⟩ : ∃ P : Prop, P = (opAt x.l 1 = 2) := ⟨_, rfl⟩
  try rw [← hPO2] at hres
  obtain ⟨PL, hPL⟩ : ∃ P : Prop, P = (∀ y, y ∈ x.l → MayS y) := ⟨_, rfl⟩
  try rw [← hPL] at hres
  rw [← hPL] at GL
  have R := hide hres
  have HROW := hide hrow
  clear hR hT hall harms hvx hs0 hsz hts o2 o3 hres hsc hsr htc
  rw [hop] at c0 hV1 ⊢
  generalize x.name = nm at *
  generalize x.x = fx at *
  generalize x.l = fl at *
  clear hop hnil GA GN hrow
  by_cases pX : PX
  · have qX := hide pX
    rw [yes_iff.2 pX] at GX
    clear pX
    by_cases pZ : PZ
    · have qZ := hide pZ
      rw [hPZ] at pZ
      have hem := empty_size pZ
      clear pZ
      by_cases pL : PL
      · have qL := hide pL
        rw [yes_iff.2 pL] at GL
        clear pL
        by_cases pX1 : PX1
        · have qX1 := hide pX1
          rw [hPX1] at pX1
          have bX1 : ((fx.length : Int) == 1) = true := beq_iff_eq.2 (by omega)
          clear pX1
          by_cases pL2 : PL2
          · have qL2 := hide pL2
            rw [hPL2] at pL2
            have bL2 : ((fl.length : Int) == 2) = true := beq_iff_eq.2 (by omega)
            have hl0 : 0 < fl.length := by omega
            have hl1 : 1 < fl.length := by omega
            clear pL2
            have hp0 : (0 : Int) < fl.length := by omega
            have hp1 : (1 : Int) < fl.length := by omega
            obtain ⟨b, o, v0, v1, v2, v3, rfl, hbB, hRa, hCa, o0, o1, o2, o3⟩ := HROW.out.open4 hl0
            obtain ⟨b', o', u0, u1, u2, u3, hsb, hbB', hRb, hCb, p0, p1, p2, p3⟩ := HROW.out.open4 hl1
            cases hsb
            obtain ⟨e2, e3, hEq, -, -⟩ := RS_iff.1 hRa
            cases hEq
            obtain ⟨e4, e5, hEq', -, -⟩ := RS_iff.1 hRb
            cases hEq'
            obtain ⟨i0, i1, i2, i3⟩ := hCa.get4
            obtain ⟨j0, j1, j2, j3⟩ := hCb.get4
            simp only [Nat.zero_mul, Nat.add_zero, Nat.one_mul] at i0 j0
            have ha0 := opAt_eq fl 0 hl0
            have ha1 := opAt_eq fl 1 hl1
            rw [← ha0] at i0
            rw [← ha1] at j0
            have i0 := cellL (cellAt i0) hx1
            have j0 := cellL (cellAt j0) hx1
            clear hRa hRb hCa hCb ha0 ha1 i1 i2 i3 j1 j2 j3
            by_cases pO0 : PO0
            · have qO0 := hide pO0
              rw [hPO0] at pO0
              have bO0 : (opAt fl 0 == 5) = true := beq_iff_eq.2 pO0
              clear pO0
              by_cases pO1 : PO1
              · have qO1 := hide pO1
                rw [hPO1] at pO1
                have bO1 : (opAt fl 1 == 5) = true := beq_iff_eq.2 pO1
                clear pO1
                go_enter Tryz.func128, Tryz.ntmps128
                go_wp2_with (first | (go_at_call 91; refine (GX.out.at_ _).mono ?_; rintro _ _ ⟨rfl, e, rfl⟩) | (go_at_call 127; refine (GL.out.at_ _).mono ?_; rintro _ _ ⟨rfl, e, rfl⟩))
                all_goals
                  go_ret
                  refine ⟨?_, hx1.trans (Later.ext _)⟩
                  rw [R.out]
                  refine congrArg (fun b => Ending.returned (Value.bool b)) ?_
                  rw [Bool.eq_iff_iff, yes_iff]
                  simp [qX.out, qZ.out, qX1.out, qL2.out, qL.out, qO0.out, qO1.out]
              · have qO1 := hide pO1
                rw [hPO1] at pO1
                have bO1 : (opAt fl 1 == 5) = false := beq_eq_false_iff_ne.2 pO1
                clear pO1
                by_cases pO2 : PO2
                · have qO2 := hide pO2
                  rw [hPO2] at pO2
                  have bO2 : (opAt fl 1 == 2) = true := beq_iff_eq.2 pO2
                  clear pO2
                  go_enter Tryz.func128, Tryz.ntmps128
                  go_wp2_with (first | (go_at_call 91; refine (GX.out.at_ _).mono ?_; rintro _ _ ⟨rfl, e, rfl⟩) | (go_at_call 127; refine (GL.out.at_ _).mono ?_; rintro _ _ ⟨rfl, e, rfl⟩))
                  all_goals
                    go_ret
                    refine ⟨?_, hx1.trans (Later.ext _)⟩
                    rw [R.out]
                    refine congrArg (fun b => Ending.returned (Value.bool b)) ?_
                    rw [Bool.eq_iff_iff, yes_iff]
                    simp [qX.out, qZ.out, qX1.out, qL2.out, qL.out, qO0.out, qO1.out, qO2.out]
                · have qO2 := hide pO2
                  rw [hPO2] at pO2
                  have bO2 : (opAt fl 1 == 2) = false := beq_eq_false_iff_ne.2 pO2
                  clear pO2
                  go_enter Tryz.func128, Tryz.ntmps128
                  go_wp2_with (first | (go_at_call 91; refine (GX.out.at_ _).mono ?_; rintro _ _ ⟨rfl, e, rfl⟩) | (go_at_call 127; refine (GL.out.at_ _).mono ?_; rintro _ _ ⟨rfl, e, rfl⟩))
                  all_goals
                    go_ret
                    refine ⟨?_, hx1.trans (Later.ext _)⟩
                    rw [R.out]
                    refine congrArg (fun b => Ending.returned (Value.bool b)) ?_
                    rw [Bool.eq_iff_iff, yes_iff]
                    simp [qX.out, qZ.out, qX1.out, qL2.out, qL.out, qO0.out, qO1.out, qO2.out]
            · have qO0 := hide pO0
              rw [hPO0] at pO0
              have bO0 : (opAt fl 0 == 5) = false := beq_eq_false_iff_ne.2 pO0
              clear pO0
              go_enter Tryz.func128, Tryz.ntmps128
              go_wp2_with (first | (go_at_call 91; refine (GX.out.at_ _).mono ?_; rintro _ _ ⟨rfl, e, rfl⟩) | (go_at_call 127; refine (GL.out.at_ _).mono ?_; rintro _ _ ⟨rfl, e, rfl⟩))
              all_goals
                go_ret
                refine ⟨?_, hx1.trans (Later.ext _)⟩
                rw [R.out]
                refine congrArg (fun b => Ending.returned (Value.bool b)) ?_
                rw [Bool.eq_iff_iff, yes_iff]
                simp [qX.out, qZ.out, qX1.out, qL2.out, qL.out, qO0.out]
          · have qL2 := hide pL2
            rw [hPL2] at pL2
            have bL2 : ((fl.length : Int) == 2) = false := beq_eq_false_iff_ne.2 (by omega)
            clear pL2
            go_enter Tryz.func128, Tryz.ntmps128
            go_wp2_with (first | (go_at_call 91; refine (GX.out.at_ _).mono ?_; rintro _ _ ⟨rfl, e, rfl⟩) | (go_at_call 127; refine (GL.out.at_ _).mono ?_; rintro _ _ ⟨rfl, e, rfl⟩))
            all_goals
              go_ret
              refine ⟨?_, hx1.trans (Later.ext _)⟩
              rw [R.out]
              refine congrArg (fun b => Ending.returned (Value.bool b)) ?_
              rw [Bool.eq_iff_iff, yes_iff]
              simp [qX.out, qZ.out, qX1.out, qL2.out]
        · have qX1 := hide pX1
          rw [hPX1] at pX1
          have bX1 : ((fx.length : Int) == 1) = false := beq_eq_false_iff_ne.2 (by omega)
          clear pX1
          go_enter Tryz.func128, Tryz.ntmps128
          go_wp2_with (first | (go_at_call 91; refine (GX.out.at_ _).mono ?_; rintro _ _ ⟨rfl, e, rfl⟩) | (go_at_call 127; refine (GL.out.at_ _).mono ?_; rintro _ _ ⟨rfl, e, rfl⟩))
          all_goals
            go_ret
            refine ⟨?_, hx1.trans (Later.ext _)⟩
            rw [R.out]
            refine congrArg (fun b => Ending.returned (Value.bool b)) ?_
            rw [Bool.eq_iff_iff, yes_iff]
            simp [qX.out, qZ.out, qX1.out]
      · have qL := hide pL
        rw [yes_no.2 pL] at GL
        clear pL
        go_enter Tryz.func128, Tryz.ntmps128
        go_wp2_with (first | (go_at_call 91; refine (GX.out.at_ _).mono ?_; rintro _ _ ⟨rfl, e, rfl⟩) | (go_at_call 127; refine (GL.out.at_ _).mono ?_; rintro _ _ ⟨rfl, e, rfl⟩))
        all_goals
          go_ret
          refine ⟨?_, hx1.trans (Later.ext _)⟩
          rw [R.out]
          refine congrArg (fun b => Ending.returned (Value.bool b)) ?_
          rw [Bool.eq_iff_iff, yes_iff]
          simp [qX.out, qZ.out, qL.out]
    · have qZ := hide pZ
      rw [hPZ] at pZ
      have hem := full_size pZ
      clear pZ
      go_enter Tryz.func128, Tryz.ntmps128
      go_wp2_with (first | (go_at_call 91; refine (GX.out.at_ _).mono ?_; rintro _ _ ⟨rfl, e, rfl⟩))
      all_goals
        go_ret
        refine ⟨?_, hx1.trans (Later.ext _)⟩
        rw [R.out]
        refine congrArg (fun b => Ending.returned (Value.bool b)) ?_
        rw [Bool.eq_iff_iff, yes_iff]
        simp [qX.out, qZ.out]
  · have qX := hide pX
    rw [yes_no.2 pX] at GX
    clear pX
    go_enter Tryz.func128, Tryz.ntmps128
    go_wp2_with (first | (go_at_call 91; refine (GX.out.at_ _).mono ?_; rintro _ _ ⟨rfl, e, rfl⟩))
    all_goals
      go_ret
      refine ⟨?_, hx1.trans (Later.ext _)⟩
      rw [R.out]
      refine congrArg (fun b => Ending.returned (Value.bool b)) ?_
      rw [Bool.eq_iff_iff, yes_iff]
      simp [qX.out]
end Go.Proofs.YtjoglnjpgkobeaaGreatDoor

/-
  THE CONTRACT OF PACKAGE ast's goodS: kind 3.
-/
namespace Go.Proofs.YtjoglnjpgkobeaaGreatDoor
open Go Go.RowKit
set_option linter.all false
set_option linter.unusedVariables false
set_option linter.unusedSimpArgs false
set_option linter.unusedVariables false
set_option linter.unusedSimpArgs false
attribute [local go_sem] run_store_one
set_option maxRecDepth 20000 in
set_option maxHeartbeats 2000000 in
theorem goodS_3 (B : Nat) (x : S) (hop : x.op = 3) (hall : GoodAllOk B x.l) (harms : GoodArmsOk B x.l) (hvx : ∀ z, z ∈ x.x → VX z) (hts : x.name.size < 4294967281) (hsz : sizeS x ≤ 65536) : GoodSOk B x := by
  intro w cs hT hR hB
  obtain ⟨v2, v3, rfl, hS2, hS3⟩ := RS_iff.1 hR
  have hs0 : 1 + msize sizeX x.x + msize sizeS x.l ≤ 65536 := by rw [← sizeS_eq]; exact hsz
  have hlnx := length_le_msize sizeX x.x sizeX_pos
  have hlnl := length_le_msize sizeS x.l sizeS_pos
  have o2 := hS2.oneCell
  have o3 := hS3.oneCell
  obtain ⟨W1, e1, hV1, hx1, hs1, c0, c1, c2, c3⟩ := boxL4 w (.int .i64 x.op) (.string x.name) v2 v3 140
  have hB1 : B ≤ W1.heap.size := Nat.le_trans hB hx1.size
  have GX := hide (show ECalls Tryz.prog 91 #[v2, .func (.func 57) #[] #[]] W1 (.bool (yes (∀ y, y ∈ x.x → MayX y))) from
    fun w' hw => goodXs_of B x.x (by omega) hvx w' v2 (hT.ext (hx1.trans hw)) (hS2.extRX (hx1.trans hw) hB) (Nat.le_trans hB1 hw.size))
  have GL := hide (show ECalls Tryz.prog 127 #[v3, .func (.func 128) #[] #[]] W1 (.bool (yes (∀ y, y ∈ x.l → MayS y))) from
    fun w' hw => hall w' v3 (hT.ext (hx1.trans hw)) (hS3.extRS (hx1.trans hw) hB) (Nat.le_trans hB1 hw.size))
  have GA := hide (show ECalls Tryz.prog 137 #[v3] W1 (.bool (yes (MayArms x.l))) from
    fun w' hw => harms w' v3 (hT.ext (hx1.trans hw)) (hS3.extRS (hx1.trans hw) hB) (Nat.le_trans hB1 hw.size))
  have GN := hide (show ECalls Tryz.prog 105 #[.string x.name] W1 (.bool (nameOk x.name)) from fun w' hw => name_any x.name w' ((hT.ext (hx1.trans hw)).lib) hts)
  have hnil := hide (fun h : x.l.length = 0 => yes_nil (P := MayS) h)
  obtain ⟨sa, scap, rfl, hsc, hsr⟩ := hS2
  obtain ⟨sb, tcap, rfl, htc, hrow⟩ := hS3
  obtain ⟨res, hres⟩ : ∃ res, res = yes (MayS x) := ⟨_, rfl⟩
  rw [← hres]
  rw [yes_congr (MayS_3 (x := x) hop)] at hres
  obtain ⟨PX, hPX⟩ : ∃ P : Prop, P = (∀ y, y ∈ x.x → MayX y) := ⟨_, rfl⟩
  try rw [← hPX] at hres
  rw [← hPX] at GX
  obtain ⟨PZ, hPZ⟩ : ∃ P : Prop, P = (x.name.size = 0) := ⟨_, rfl⟩
  try rw [← hPZ] at hres
  obtain ⟨PX1, hPX1⟩ : ∃ P : Prop, P = (x.x.length = 1) := ⟨_, rfl⟩
  try rw [← hPX1] at hres
  obtain ⟨PA, hPA⟩ : ∃ P : Prop, P = (MayArms x.l) := ⟨_, rfl⟩
  try rw [← hPA] at hres
  rw [← hPA] at GA
  have R := hide hres
  clear hR hT hall harms hvx hs0 hsz hts o2 o3 hres hsc hsr htc
  rw [hop] at c0 hV1 ⊢
  generalize x.name = nm at *
  generalize x.x = fx at *
  generalize x.l = fl at *
  clear hop hnil GL GN hrow
  by_cases pX : PX
  · have qX := hide pX
    rw [yes_iff.2 pX] at GX
    clear pX
    by_cases pZ : PZ
    · have qZ := hide pZ
      rw [hPZ] at pZ
      have hem := empty_size pZ
      clear pZ
      by_cases pX1 : PX1
      · have qX1 := hide pX1
        rw [hPX1] at pX1
        have bX1 : ((fx.length : Int) == 1) = true := beq_iff_eq.2 (by omega)
        clear pX1
        by_cases pA : PA
        · have qA := hide pA
          rw [yes_iff.2 pA] at GA
          clear pA
          go_enter Tryz.func128, Tryz.ntmps128
          go_wp2_with (first | (go_at_call 91; refine (GX.out.at_ _).mono ?_; rintro _ _ ⟨rfl, e, rfl⟩) | (go_at_call 137; refine (GA.out.at_ _).mono ?_; rintro _ _ ⟨rfl, e, rfl⟩))
          all_goals
            go_ret
            refine ⟨?_, hx1.trans (Later.ext _)⟩
            rw [R.out]
            refine congrArg (fun b => Ending.returned (Value.bool b)) ?_
            rw [Bool.eq_iff_iff, yes_iff]
            simp [qX.out, qZ.out, qX1.out, qA.out]
        · have qA := hide pA
          rw [yes_no.2 pA] at GA
          clear pA
          go_enter Tryz.func128, Tryz.ntmps128
          go_wp2_with (first | (go_at_call 91; refine (GX.out.at_ _).mono ?_; rintro _ _ ⟨rfl, e, rfl⟩) | (go_at_call 137; refine (GA.out.at_ _).mono ?_; rintro _ _ ⟨rfl, e, rfl⟩))
          all_goals
            go_ret
            refine ⟨?_, hx1.trans (Later.ext _)⟩
            rw [R.out]
            refine congrArg (fun b => Ending.returned (Value.bool b)) ?_
            rw [Bool.eq_iff_iff, yes_iff]
            simp [qX.out, qZ.out, qX1.out, qA.out]
      · have qX1 := hide pX1
        rw [hPX1] at pX1
        have bX1 : ((fx.length : Int) == 1) = false := beq_eq_false_iff_ne.2 (by omega)
        clear pX1
        go_enter Tryz.func128, Tryz.ntmps128
        go_wp2_with (first | (go_at_call 91; refine (GX.out.at_ _).mono ?_; rintro _ _ ⟨rfl, e, rfl⟩))
        all_goals
          go_ret
          refine ⟨?_, hx1.trans (Later.ext _)⟩
          rw [R.out]
          refine congrArg (fun b => Ending.returned (Value.bool b)) ?_
          rw [Bool.eq_iff_iff, yes_iff]
          simp [qX.out, qZ.out, qX1.out]
    · have qZ := hide pZ
      rw [hPZ] at pZ
      have hem := full_size pZ
      clear pZ
      go_enter Tryz.func128, Tryz.ntmps128
      go_wp2_with (first | (go_at_call 91; refine (GX.out.at_ _).mono ?_; rintro _ _ ⟨rfl, e, rfl⟩))
      all_goals
        go_ret
        refine ⟨?_, hx1.trans (Later.ext _)⟩
        rw [R.out]
        refine congrArg (fun b => Ending.returned (Value.bool b)) ?_
        rw [Bool.eq_iff_iff, yes_iff]
        simp [qX.out, qZ.out]
  · have qX := hide pX
    rw [yes_no.2 pX] at GX
    clear pX
    go_enter Tryz.func128, Tryz.ntmps128
    go_wp2_with (first | (go_at_call 91; refine (GX.out.at_ _).mono ?_; rintro _ _ ⟨rfl, e, rfl⟩))
    all_goals
      go_ret
      refine ⟨?_, hx1.trans (Later.ext _)⟩
      rw [R.out]
      refine congrArg (fun b => Ending.returned (Value.bool b)) ?_
      rw [Bool.eq_iff_iff, yes_iff]
      simp [qX.out]
end Go.Proofs.YtjoglnjpgkobeaaGreatDoor

/-
  THE CONTRACT OF PACKAGE ast's goodS: kind 5.
-/
namespace Go.Proofs.YtjoglnjpgkobeaaGreatDoor
open Go Go.RowKit
set_option linter.all false
set_option linter.unusedVariables false
set_option linter.unusedSimpArgs false
set_option linter.unusedVariables false
set_option linter.unusedSimpArgs false
attribute [local go_sem] run_store_one
set_option maxRecDepth 20000 in
set_option maxHeartbeats 2000000 in
theorem goodS_5 (B : Nat) (x : S) (hop : x.op = 5) (hall : GoodAllOk B x.l) (harms : GoodArmsOk B x.l) (hvx : ∀ z, z ∈ x.x → VX z) (hts : x.name.size < 4294967281) (hsz : sizeS x ≤ 65536) : GoodSOk B x := by
  intro w cs hT hR hB
  obtain ⟨v2, v3, rfl, hS2, hS3⟩ := RS_iff.1 hR
  have hs0 : 1 + msize sizeX x.x + msize sizeS x.l ≤ 65536 := by rw [← sizeS_eq]; exact hsz
  have hlnx := length_le_msize sizeX x.x sizeX_pos
  have hlnl := length_le_msize sizeS x.l sizeS_pos
  have o2 := hS2.oneCell
  have o3 := hS3.oneCell
  obtain ⟨W1, e1, hV1, hx1, hs1, c0, c1, c2, c3⟩ := boxL4 w (.int .i64 x.op) (.string x.name) v2 v3 140
  have hB1 : B ≤ W1.heap.size := Nat.le_trans hB hx1.size
  have GX := hide (show ECalls Tryz.prog 91 #[v2, .func (.func 57) #[] #[]] W1 (.bool (yes (∀ y, y ∈ x.x → MayX y))) from
    fun w' hw => goodXs_of B x.x (by omega) hvx w' v2 (hT.ext (hx1.trans hw)) (hS2.extRX (hx1.trans hw) hB) (Nat.le_trans hB1 hw.size))
  have GL := hide (show ECalls Tryz.prog 127 #[v3, .func (.func 128) #[] #[]] W1 (.bool (yes (∀ y, y ∈ x.l → MayS y))) from
    fun w' hw => hall w' v3 (hT.ext (hx1.trans hw)) (hS3.extRS (hx1.trans hw) hB) (Nat.le_trans hB1 hw.size))
  have GA := hide (show ECalls Tryz.prog 137 #[v3] W1 (.bool (yes (MayArms x.l))) from
    fun w' hw => harms w' v3 (hT.ext (hx1.trans hw)) (hS3.extRS (hx1.trans hw) hB) (Nat.le_trans hB1 hw.size))
  have GN := hide (show ECalls Tryz.prog 105 #[.string x.name] W1 (.bool (nameOk x.name)) from fun w' hw => name_any x.name w' ((hT.ext (hx1.trans hw)).lib) hts)
  have hnil := hide (fun h : x.l.length = 0 => yes_nil (P := MayS) h)
  obtain ⟨sa, scap, rfl, hsc, hsr⟩ := hS2
  obtain ⟨sb, tcap, rfl, htc, hrow⟩ := hS3
  obtain ⟨res, hres⟩ : ∃ res, res = yes (MayS x) := ⟨_, rfl⟩
  rw [← hres]
  rw [yes_congr (MayS_5 (x := x) hop)] at hres
  obtain ⟨PX, hPX⟩ : ∃ P : Prop, P = (∀ y, y ∈ x.x → MayX y) := ⟨_, rfl⟩
  try rw [← hPX] at hres
  rw [← hPX] at GX
  obtain ⟨PZ, hPZ⟩ : ∃ P : Prop, P = (x.name.size = 0) := ⟨_, rfl⟩
  try rw [← hPZ] at hres
  obtain ⟨PX0, hPX0⟩ : ∃ P : Prop, P = (x.x.length = 0) := ⟨_, rfl⟩
  try rw [← hPX0] at hres
  obtain ⟨PL, hPL⟩ : ∃ P : Prop, P = (∀ y, y ∈ x.l → MayS y) := ⟨_, rfl⟩
  try rw [← hPL] at hres
  rw [← hPL] at GL
  have R := hide hres
  clear hR hT hall harms hvx hs0 hsz hts o2 o3 hres hsc hsr htc
  rw [hop] at c0 hV1 ⊢
  generalize x.name = nm at *
  generalize x.x = fx at *
  generalize x.l = fl at *
  clear hop hnil GA GN hrow
  by_cases pX : PX
  · have qX := hide pX
    rw [yes_iff.2 pX] at GX
    clear pX
    by_cases pZ : PZ
    · have qZ := hide pZ
      rw [hPZ] at pZ
      have hem := empty_size pZ
      clear pZ
      by_cases pL : PL
      · have qL := hide pL
        rw [yes_iff.2 pL] at GL
        clear pL
        by_cases pX0 : PX0
        · have qX0 := hide pX0
          rw [hPX0] at pX0
          have bX0 : ((fx.length : Int) == 0) = true := beq_iff_eq.2 (by omega)
          clear pX0
          go_enter Tryz.func128, Tryz.ntmps128
          go_wp2_with (first | (go_at_call 91; refine (GX.out.at_ _).mono ?_; rintro _ _ ⟨rfl, e, rfl⟩) | (go_at_call 127; refine (GL.out.at_ _).mono ?_; rintro _ _ ⟨rfl, e, rfl⟩))
          all_goals
            go_ret
            refine ⟨?_, hx1.trans (Later.ext _)⟩
            rw [R.out]
            refine congrArg (fun b => Ending.returned (Value.bool b)) ?_
            rw [Bool.eq_iff_iff, yes_iff]
            simp [qX.out, qZ.out, qL.out, qX0.out]
        · have qX0 := hide pX0
          rw [hPX0] at pX0
          have bX0 : ((fx.length : Int) == 0) = false := beq_eq_false_iff_ne.2 (by omega)
          clear pX0
          go_enter Tryz.func128, Tryz.ntmps128
          go_wp2_with (first | (go_at_call 91; refine (GX.out.at_ _).mono ?_; rintro _ _ ⟨rfl, e, rfl⟩) | (go_at_call 127; refine (GL.out.at_ _).mono ?_; rintro _ _ ⟨rfl, e, rfl⟩))
          all_goals
            go_ret
            refine ⟨?_, hx1.trans (Later.ext _)⟩
            rw [R.out]
            refine congrArg (fun b => Ending.returned (Value.bool b)) ?_
            rw [Bool.eq_iff_iff, yes_iff]
            simp [qX.out, qZ.out, qL.out, qX0.out]
      · have qL := hide pL
        rw [yes_no.2 pL] at GL
        clear pL
        go_enter Tryz.func128, Tryz.ntmps128
        go_wp2_with (first | (go_at_call 91; refine (GX.out.at_ _).mono ?_; rintro _ _ ⟨rfl, e, rfl⟩) | (go_at_call 127; refine (GL.out.at_ _).mono ?_; rintro _ _ ⟨rfl, e, rfl⟩))
        all_goals
          go_ret
          refine ⟨?_, hx1.trans (Later.ext _)⟩
          rw [R.out]
          refine congrArg (fun b => Ending.returned (Value.bool b)) ?_
          rw [Bool.eq_iff_iff, yes_iff]
          simp [qX.out, qZ.out, qL.out]
    · have qZ := hide pZ
      rw [hPZ] at pZ
      have hem := full_size pZ
      clear pZ
      go_enter Tryz.func128, Tryz.ntmps128
      go_wp2_with (first | (go_at_call 91; refine (GX.out.at_ _).mono ?_; rintro _ _ ⟨rfl, e, rfl⟩))
      all_goals
        go_ret
        refine ⟨?_, hx1.trans (Later.ext _)⟩
        rw [R.out]
        refine congrArg (fun b => Ending.returned (Value.bool b)) ?_
        rw [Bool.eq_iff_iff, yes_iff]
        simp [qX.out, qZ.out]
  · have qX := hide pX
    rw [yes_no.2 pX] at GX
    clear pX
    go_enter Tryz.func128, Tryz.ntmps128
    go_wp2_with (first | (go_at_call 91; refine (GX.out.at_ _).mono ?_; rintro _ _ ⟨rfl, e, rfl⟩))
    all_goals
      go_ret
      refine ⟨?_, hx1.trans (Later.ext _)⟩
      rw [R.out]
      refine congrArg (fun b => Ending.returned (Value.bool b)) ?_
      rw [Bool.eq_iff_iff, yes_iff]
      simp [qX.out]
end Go.Proofs.YtjoglnjpgkobeaaGreatDoor

/-
  THE CONTRACT OF PACKAGE ast's goodS: kind 6.
-/
namespace Go.Proofs.YtjoglnjpgkobeaaGreatDoor
open Go Go.RowKit
set_option linter.all false
set_option linter.unusedVariables false
set_option linter.unusedSimpArgs false
set_option linter.unusedVariables false
set_option linter.unusedSimpArgs false
attribute [local go_sem] run_store_one
set_option maxRecDepth 20000 in
set_option maxHeartbeats 2000000 in
theorem goodS_6 (B : Nat) (x : S) (hop : x.op = 6) (hall : GoodAllOk B x.l) (harms : GoodArmsOk B x.l) (hvx : ∀ z, z ∈ x.x → VX z) (hts : x.name.size < 4294967281) (hsz : sizeS x ≤ 65536) : GoodSOk B x := by
  intro w cs hT hR hB
  obtain ⟨v2, v3, rfl, hS2, hS3⟩ := RS_iff.1 hR
  have hs0 : 1 + msize sizeX x.x + msize sizeS x.l ≤ 65536 := by rw [← sizeS_eq]; exact hsz
  have hlnx := length_le_msize sizeX x.x sizeX_pos
  have hlnl := length_le_msize sizeS x.l sizeS_pos
  have o2 := hS2.oneCell
  have o3 := hS3.oneCell
  obtain ⟨W1, e1, hV1, hx1, hs1, c0, c1, c2, c3⟩ := boxL4 w (.int .i64 x.op) (.string x.name) v2 v3 140
  have hB1 : B ≤ W1.heap.size := Nat.le_trans hB hx1.size
  have GX := hide (show ECalls Tryz.prog 91 #[v2, .func (.func 57) #[] #[]] W1 (.bool (yes (∀ y, y ∈ x.x → MayX y))) from
    fun w' hw => goodXs_of B x.x (by omega) hvx w' v2 (hT.ext (hx1.trans hw)) (hS2.extRX (hx1.trans hw) hB) (Nat.le_trans hB1 hw.size))
  have GL := hide (show ECalls Tryz.prog 127 #[v3, .func (.func 128) #[] #[]] W1 (.bool (yes (∀ y, y ∈ x.l → MayS y))) from
    fun w' hw => hall w' v3 (hT.ext (hx1.trans hw)) (hS3.extRS (hx1.trans hw) hB) (Nat.le_trans hB1 hw.size))
  have GA := hide (show ECalls Tryz.prog 137 #[v3] W1 (.bool (yes (MayArms x.l))) from
    fun w' hw => harms w' v3 (hT.ext (hx1.trans hw)) (hS3.extRS (hx1.trans hw) hB) (Nat.le_trans hB1 hw.size))
  have GN := hide (show ECalls Tryz.prog 105 #[.string x.name] W1 (.bool (nameOk x.name)) from fun w' hw => name_any x.name w' ((hT.ext (hx1.trans hw)).lib) hts)
  have hnil := hide (fun h : x.l.length = 0 => yes_nil (P := MayS) h)
  obtain ⟨sa, scap, rfl, hsc, hsr⟩ := hS2
  obtain ⟨sb, tcap, rfl, htc, hrow⟩ := hS3
  obtain ⟨res, hres⟩ : ∃ res, res = yes (MayS x) := ⟨_, rfl⟩
  rw [← hres]
  rw [yes_congr (MayS_6 (x := x) hop)] at hres
  obtain ⟨PX, hPX⟩ : ∃ P : Prop, P = (∀ y, y ∈ x.x → MayX y) := ⟨_, rfl⟩
  try rw [← hPX] at hres
  rw [← hPX] at GX
  obtain ⟨PN, hPN⟩ : ∃ P : Prop, P = (nameP x.name) := ⟨_, rfl⟩
  try rw [← hPN] at hres
  rw [← yes_nameP] at GN
  rw [← hPN] at GN
  obtain ⟨PX2, hPX2⟩ : ∃ P : Prop, P = (x.x.length = 2) := ⟨_, rfl⟩
  try rw [← hPX2] at hres
  obtain ⟨PL, hPL⟩ : ∃ P : Prop, P = (∀ y, y ∈ x.l → MayS y) := ⟨_, rfl⟩
  try rw [← hPL] at hres
  rw [← hPL] at GL
  have R := hide hres
  clear hR hT hall harms hvx hs0 hsz hts o2 o3 hres hsc hsr htc
  rw [hop] at c0 hV1 ⊢
  generalize x.name = nm at *
  generalize x.x = fx at *
  generalize x.l = fl at *
  clear hop hnil GA hrow
  by_cases pX : PX
  · have qX := hide pX
    rw [yes_iff.2 pX] at GX
    clear pX
    by_cases pL : PL
    · have qL := hide pL
      rw [yes_iff.2 pL] at GL
      clear pL
      by_cases pN : PN
      · have qN := hide pN
        rw [yes_iff.2 pN] at GN
        clear pN
        by_cases pX2 : PX2
        · have qX2 := hide pX2
          rw [hPX2] at pX2
          have bX2 : ((fx.length : Int) == 2) = true := beq_iff_eq.2 (by omega)
          have hlt : 0 < fx.length := by omega
          clear pX2
          go_enter Tryz.func128, Tryz.ntmps128
          go_wp2_with (first | (go_at_call 91; refine (GX.out.at_ _).mono ?_; rintro _ _ ⟨rfl, e, rfl⟩) | (go_at_call 127; refine (GL.out.at_ _).mono ?_; rintro _ _ ⟨rfl, e, rfl⟩) | (go_at_call 105; refine (GN.out.at_ _).mono ?_; rintro _ _ ⟨rfl, e, rfl⟩))
          all_goals
            go_ret
            refine ⟨?_, hx1.trans (Later.ext _)⟩
            rw [R.out]
            refine congrArg (fun b => Ending.returned (Value.bool b)) ?_
            rw [Bool.eq_iff_iff, yes_iff]
            simp [qX.out, qN.out, qL.out, qX2.out]
        · have qX2 := hide pX2
          rw [hPX2] at pX2
          have bX2 : ((fx.length : Int) == 2) = false := beq_eq_false_iff_ne.2 (by omega)
          clear pX2
          go_enter Tryz.func128, Tryz.ntmps128
          go_wp2_with (first | (go_at_call 91; refine (GX.out.at_ _).mono ?_; rintro _ _ ⟨rfl, e, rfl⟩) | (go_at_call 127; refine (GL.out.at_ _).mono ?_; rintro _ _ ⟨rfl, e, rfl⟩) | (go_at_call 105; refine (GN.out.at_ _).mono ?_; rintro _ _ ⟨rfl, e, rfl⟩))
          all_goals
            go_ret
            refine ⟨?_, hx1.trans (Later.ext _)⟩
            rw [R.out]
            refine congrArg (fun b => Ending.returned (Value.bool b)) ?_
            rw [Bool.eq_iff_iff, yes_iff]
            simp [qX.out, qN.out, qL.out, qX2.out]
      · have qN := hide pN
        rw [yes_no.2 pN] at GN
        clear pN
        go_enter Tryz.func128, Tryz.ntmps128
        go_wp2_with (first | (go_at_call 91; refine (GX.out.at_ _).mono ?_; rintro _ _ ⟨rfl, e, rfl⟩) | (go_at_call 127; refine (GL.out.at_ _).mono ?_; rintro _ _ ⟨rfl, e, rfl⟩) | (go_at_call 105; refine (GN.out.at_ _).mono ?_; rintro _ _ ⟨rfl, e, rfl⟩))
        all_goals
          go_ret
          refine ⟨?_, hx1.trans (Later.ext _)⟩
          rw [R.out]
          refine congrArg (fun b => Ending.returned (Value.bool b)) ?_
          rw [Bool.eq_iff_iff, yes_iff]
          simp [qX.out, qN.out, qL.out]
    · have qL := hide pL
      rw [yes_no.2 pL] at GL
      clear pL
      go_enter Tryz.func128, Tryz.ntmps128
      go_wp2_with (first | (go_at_call 91; refine (GX.out.at_ _).mono ?_; rintro _ _ ⟨rfl, e, rfl⟩) | (go_at_call 127; refine (GL.out.at_ _).mono ?_; rintro _ _ ⟨rfl, e, rfl⟩))
      all_goals
        go_ret
        refine ⟨?_, hx1.trans (Later.ext _)⟩
        rw [R.out]
        refine congrArg (fun b => Ending.returned (Value.bool b)) ?_
        rw [Bool.eq_iff_iff, yes_iff]
        simp [qX.out, qL.out]
  · have qX := hide pX
    rw [yes_no.2 pX] at GX
    clear pX
    go_enter Tryz.func128, Tryz.ntmps128
    go_wp2_with (first | (go_at_call 91; refine (GX.out.at_ _).mono ?_; rintro _ _ ⟨rfl, e, rfl⟩))
    all_goals
      go_ret
      refine ⟨?_, hx1.trans (Later.ext _)⟩
      rw [R.out]
      refine congrArg (fun b => Ending.returned (Value.bool b)) ?_
      rw [Bool.eq_iff_iff, yes_iff]
      simp [qX.out]
end Go.Proofs.YtjoglnjpgkobeaaGreatDoor

/-
  THE CONTRACTS OF PACKAGE ast's arms, AND OF goodS of any statement.
-/
namespace Go.Proofs.YtjoglnjpgkobeaaGreatDoor
open Go Go.RowKit
set_option linter.all false
set_option linter.unusedVariables false
set_option linter.unusedSimpArgs false
set_option linter.unusedVariables false
set_option linter.unusedSimpArgs false
attribute [local go_sem] run_store_one
set_option maxRecDepth 20000 in
set_option maxHeartbeats 4000000 in
theorem goodarms_of (B : Nat) (l : List S) (hf : ∀ x, x ∈ l → GoodAllOk B x.l) (hvx : ∀ x, x ∈ l → ∀ z, z ∈ x.x → VX z) (hsz : msize sizeS l ≤ 65536) : GoodArmsOk B l := by
  intro w v hT hS hB
  obtain ⟨a, cap, rfl, hcap, hrow⟩ := hS
  have HF := hide hf
  have HVXA := hide hvx
  have HT := hide hT
  have hln := length_le_msize sizeS l sizeS_pos
  clear hf hvx hT
  go_enter Tryz.func137, Tryz.ntmps137
  go_wp2_with fail
  go_loopw [7] (fun i wr => ∃ k : Nat, k ≤ l.length ∧ i = .int .i64 k ∧ (∀ (i : Nat) (hi : i < l.length), i < k → MayArm (i + 1 = l.length) l[i]) ∧ Ext w wr) (fun i _ => l.length - (intOf i).toNat)
  case atStart => exact ⟨0, Nat.zero_le _, rfl, fun i _ h => by omega, Ext.refl _⟩
  case round =>
    obtain ⟨k, hk, rfl, hpre, hx⟩ := hrel
    by_cases hlt : k < l.length
    · have hfk := hide (HF.out l[k] (List.getElem_mem hlt))
      have HVX := hide (HVXA.out l[k] (List.getElem_mem hlt))
      have hmm := msize_mem sizeS l l[k] (List.getElem_mem hlt)
      have hsy := sizeS_eq l[k]
      have hyes := fun (h : MayArm (k + 1 = l.length) l[k]) (i : Nat) (hi : i < l.length) (hik : i < k + 1) => show MayArm (i + 1 = l.length) l[i] by
        by_cases e : i = k
        · subst e; exact h
        · exact hpre i hi (by omega)
      have hno := fun (h : ¬ MayArm (k + 1 = l.length) l[k]) => yes_no.2 (fun (hm : MayArms l) => h (hm.2 k hlt))
      obtain ⟨b, o, v0, v1, v2, v3, rfl, hbB, hR, hC, o0, o1, o2, o3⟩ := hrow.open4 hlt
      obtain ⟨a2, a3, hEq, hS2, hS3⟩ := RS_iff.1 hR
      cases hEq
      have hmemx := hide (fun z (hz : z ∈ l[k].x) => msize_mem sizeX l[k].x z hz)
      have hln2 := length_le_msize sizeX l[k].x sizeX_pos
      have YES := hide (fun h => hyes (MayArm_iff.2 h))
      have NO := hide (fun (h : ¬ _) => hno (fun hm => h (MayArm_iff.1 hm)))
      obtain ⟨i0, i1, i2, i3⟩ := (hC.ext hx).get4
      obtain ⟨W1, e1, hV1, hx1, hs1, c0, c1, c2, c3⟩ := boxL4 wr (.int .i64 l[k].op) (.string l[k].name) v2 v3 140
      have hxw := hx.trans hx1
      have hB1 : B ≤ W1.heap.size := Nat.le_trans hB hxw.size
      have GX := hide (show ECalls Tryz.prog 91 #[v2, .func (.func 57) #[] #[]] W1 (.bool (yes (∀ y, y ∈ l[k].x → MayX y))) from
        fun w' hw => goodXs_of B l[k].x (by omega) HVX.out w' v2 (HT.out.ext (hxw.trans hw)) (hS2.extRX (hxw.trans hw) hB) (Nat.le_trans hB1 hw.size))
      have GL := hide (show ECalls Tryz.prog 127 #[v3, .func (.func 128) #[] #[]] W1 (.bool (yes (∀ y, y ∈ l[k].l → MayS y))) from
        fun w' hw => hfk.out w' v3 (HT.out.ext (hxw.trans hw)) (hS3.extRS (hxw.trans hw) hB) (Nat.le_trans hB1 hw.size))
      have t3 := hS3.oneCell
      obtain ⟨sa, scap, rfl, hsc, hsr⟩ := hS2
      clear hyes hno hpre hR hS3 hrow hsc hsr hC hfk HVX hmemx HF HVXA
      generalize l[k].op = f0 at *
      generalize l[k].name = f1 at *
      generalize l[k].x = f2 at *
      generalize l[k].l = f3 at *
      generalize sizeS l[k] = sy at *
      by_cases h4 : f0 = 4
      · have h4b : (f0 == 4) = true := beq_iff_eq.2 h4
        have q4 := hide h4
        clear h4
        by_cases hZ : f1.size = 0
        · have hem := empty_size hZ
          have qZ := hide hZ
          clear hZ
          by_cases hz : f2.length = 0
          · have hab : ((f2.length : Int) == 0) = true := beq_iff_eq.2 (by omega)
            have h0 := hide hz
            clear hz
            by_cases hK : k + 1 = l.length
            · have hbb : ((k : Int) + 1 == (l.length : Int)) = true := beq_iff_eq.2 (by omega)
              have q0 := hide (show (f2.length = 0 ↔ k + 1 = l.length) from ⟨fun _ => hK, fun _ => h0.out⟩)
              clear hK
              by_cases hX : ∀ z, z ∈ f2 → MayX z
              · rw [yes_iff.2 hX] at GX
                have qX := hide hX
                clear hX
                by_cases hL : ∀ z, z ∈ f3 → MayS z
                · rw [yes_iff.2 hL] at GL
                  have hn := hide (YES.out ⟨q4.out, qZ.out, q0.out, qX.out, hL⟩)
                  clear hL
                  go_wp2_with (first | (go_at_call 91; refine (GX.out.at_ _).mono ?_; rintro _ _ ⟨rfl, e, rfl⟩) | (go_at_call 127; refine (GL.out.at_ _).mono ?_; rintro _ _ ⟨rfl, e, rfl⟩))
                  go_roundw
                  case rel => exact ⟨k + 1, by omega, by go_num, hn.out, hxw.trans (Later.ext _)⟩
                  case measure => simp [intOf]; omega
                · rw [yes_no.2 hL] at GL
                  have hr := hide (NO.out (fun h => hL h.2.2.2.2))
                  clear hL
                  go_wp2_with (first | (go_at_call 91; refine (GX.out.at_ _).mono ?_; rintro _ _ ⟨rfl, e, rfl⟩) | (go_at_call 127; refine (GL.out.at_ _).mono ?_; rintro _ _ ⟨rfl, e, rfl⟩))
                  go_ret
                  exact ⟨by rw [hr.out]; rfl, hxw.trans (Later.ext _)⟩
              · rw [yes_no.2 hX] at GX
                have hr := hide (NO.out (fun h => hX h.2.2.2.1))
                clear hX
                go_wp2_with (first | (go_at_call 91; refine (GX.out.at_ _).mono ?_; rintro _ _ ⟨rfl, e, rfl⟩) | (go_at_call 127; refine (GL.out.at_ _).mono ?_; rintro _ _ ⟨rfl, e, rfl⟩))
                go_ret
                exact ⟨by rw [hr.out]; rfl, hxw.trans (Later.ext _)⟩
            · have hbb : ((k : Int) + 1 == (l.length : Int)) = false := beq_eq_false_iff_ne.2 (by omega)
              have hr := hide (NO.out (fun h => hK (h.2.2.1.1 h0.out)))
              clear hK
              go_wp2_with (first | (go_at_call 91; refine (GX.out.at_ _).mono ?_; rintro _ _ ⟨rfl, e, rfl⟩) | (go_at_call 127; refine (GL.out.at_ _).mono ?_; rintro _ _ ⟨rfl, e, rfl⟩))
              go_ret
              exact ⟨by rw [hr.out]; rfl, hxw.trans (Later.ext _)⟩
          · have hab : ((f2.length : Int) == 0) = false := beq_eq_false_iff_ne.2 (by omega)
            have h0 := hide hz
            clear hz
            by_cases hK : k + 1 = l.length
            · have hbb : ((k : Int) + 1 == (l.length : Int)) = true := beq_iff_eq.2 (by omega)
              have hr := hide (NO.out (fun h => h0.out (h.2.2.1.2 hK)))
              clear hK
              go_wp2_with (first | (go_at_call 91; refine (GX.out.at_ _).mono ?_; rintro _ _ ⟨rfl, e, rfl⟩) | (go_at_call 127; refine (GL.out.at_ _).mono ?_; rintro _ _ ⟨rfl, e, rfl⟩))
              go_ret
              exact ⟨by rw [hr.out]; rfl, hxw.trans (Later.ext _)⟩
            · have hbb : ((k : Int) + 1 == (l.length : Int)) = false := beq_eq_false_iff_ne.2 (by omega)
              have q0 := hide (show (f2.length = 0 ↔ k + 1 = l.length) from ⟨fun h => (h0.out h).elim, fun h => (hK h).elim⟩)
              clear hK
              by_cases hX : ∀ z, z ∈ f2 → MayX z
              · rw [yes_iff.2 hX] at GX
                have qX := hide hX
                clear hX
                by_cases hL : ∀ z, z ∈ f3 → MayS z
                · rw [yes_iff.2 hL] at GL
                  have hn := hide (YES.out ⟨q4.out, qZ.out, q0.out, qX.out, hL⟩)
                  clear hL
                  go_wp2_with (first | (go_at_call 91; refine (GX.out.at_ _).mono ?_; rintro _ _ ⟨rfl, e, rfl⟩) | (go_at_call 127; refine (GL.out.at_ _).mono ?_; rintro _ _ ⟨rfl, e, rfl⟩))
                  go_roundw
                  case rel => exact ⟨k + 1, by omega, by go_num, hn.out, hxw.trans (Later.ext _)⟩
                  case measure => simp [intOf]; omega
                · rw [yes_no.2 hL] at GL
                  have hr := hide (NO.out (fun h => hL h.2.2.2.2))
                  clear hL
                  go_wp2_with (first | (go_at_call 91; refine (GX.out.at_ _).mono ?_; rintro _ _ ⟨rfl, e, rfl⟩) | (go_at_call 127; refine (GL.out.at_ _).mono ?_; rintro _ _ ⟨rfl, e, rfl⟩))
                  go_ret
                  exact ⟨by rw [hr.out]; rfl, hxw.trans (Later.ext _)⟩
              · rw [yes_no.2 hX] at GX
                have hr := hide (NO.out (fun h => hX h.2.2.2.1))
                clear hX
                go_wp2_with (first | (go_at_call 91; refine (GX.out.at_ _).mono ?_; rintro _ _ ⟨rfl, e, rfl⟩) | (go_at_call 127; refine (GL.out.at_ _).mono ?_; rintro _ _ ⟨rfl, e, rfl⟩))
                go_ret
                exact ⟨by rw [hr.out]; rfl, hxw.trans (Later.ext _)⟩
        · have hem := full_size hZ
          have hr := hide (NO.out (fun h => hZ h.2.1))
          clear hZ
          go_wp2_with (first | (go_at_call 91; refine (GX.out.at_ _).mono ?_; rintro _ _ ⟨rfl, e, rfl⟩) | (go_at_call 127; refine (GL.out.at_ _).mono ?_; rintro _ _ ⟨rfl, e, rfl⟩))
          go_ret
          exact ⟨by rw [hr.out]; rfl, hxw.trans (Later.ext _)⟩
      · have h4b : (f0 == 4) = false := beq_eq_false_iff_ne.2 h4
        have hr := hide (NO.out (fun h => h4 h.1))
        go_wp2_with (first | (go_at_call 91; refine (GX.out.at_ _).mono ?_; rintro _ _ ⟨rfl, e, rfl⟩) | (go_at_call 127; refine (GL.out.at_ _).mono ?_; rintro _ _ ⟨rfl, e, rfl⟩))
        go_ret
        exact ⟨by rw [hr.out]; rfl, hxw.trans (Later.ext _)⟩
    · have hkl : k = l.length := by omega
      subst hkl
      by_cases hl : l.length = 0
      · have hr := hide (yes_no.2 (fun (hm : MayArms l) => by have := hm.1; omega))
        have hlz : (l.length : Int) = 0 := by omega
        clear hpre
        go_wp2_with fail
        go_ret
        exact ⟨by rw [hr.out]; rfl, hx⟩
      · have hr := hide (yes_iff.2 (show MayArms l from ⟨by omega, fun i hi => hpre i hi hi⟩))
        have hd : decide (0 < l.length) = true := decide_eq_true (by omega)
        clear hpre
        go_wp2_with fail
        go_ret
        exact ⟨by rw [hr.out]; rfl, hx⟩
theorem goodS_both (B : Nat) (x : S) : VS x → sizeS x ≤ 65536 → GoodSOk B x ∧ GoodAllOk B x.l := by
  induction x using S.ind with
  | h x ih =>
    intro hv hsz
    obtain ⟨hts, hvx, hvl⟩ := VS_iff.1 hv
    have hs0 : 1 + msize sizeX x.x + msize sizeS x.l ≤ 65536 := by rw [← sizeS_eq]; exact hsz
    have hln := length_le_msize sizeS x.l sizeS_pos
    have hone : ∀ y, y ∈ x.l → GoodSOk B y ∧ GoodAllOk B y.l := fun y hy => ih y hy (hvl y hy) (by have := msize_mem sizeS x.l y hy; omega)
    have hall : GoodAllOk B x.l := goodAll_of B x.l (fun y hy => (hone y hy).1) (by omega)
    have harms : GoodArmsOk B x.l := goodarms_of B x.l (fun y hy => (hone y hy).2) (fun y hy => (VS_iff.1 (hvl y hy)).2.1) (by omega)
    refine ⟨?_, hall⟩
    by_cases h1 : x.op = 1
    · exact goodS_1 B x h1 hall harms hvx hts hsz
    by_cases h2 : x.op = 2
    · exact goodS_2 B x h2 hall harms hvx hts hsz
    by_cases h3 : x.op = 3
    · exact goodS_3 B x h3 hall harms hvx hts hsz
    by_cases h5 : x.op = 5
    · exact goodS_5 B x h5 hall harms hvx hts hsz
    by_cases h6 : x.op = 6
    · exact goodS_6 B x h6 hall harms hvx hts hsz
    exact goodS_0 B x h1 h2 h3 h5 h6 hall harms hvx hts hsz
theorem goodS_any (B : Nat) (x : S) (hv : VS x) (hsz : sizeS x ≤ 65536) : GoodSOk B x := (goodS_both B x hv hsz).1
theorem goodSs_of (B : Nat) (l : List S) (hsz : msize sizeS l ≤ 65536) (hv : ∀ y, y ∈ l → VS y) : GoodAllOk B l :=
  goodAll_of B l (fun y hy => goodS_any B y (hv y hy) (by have := msize_mem sizeS l y hy; omega)) (by have := length_le_msize sizeS l sizeS_pos; omega)
end Go.Proofs.YtjoglnjpgkobeaaGreatDoor

/-
  THE CONTRACTS OF PACKAGE ast's goodB, fits, goodI.
-/
namespace Go.Proofs.YtjoglnjpgkobeaaGreatDoor
open Go Go.RowKit
set_option linter.all false
set_option linter.unusedVariables false
set_option linter.unusedSimpArgs false
set_option linter.unusedVariables false
set_option linter.unusedSimpArgs false
attribute [local go_sem] run_store_one
theorem enters_goodB : Enters Tryz.prog 107 := ⟨fun _ _ => by kernel_rfl⟩
theorem enters_goodP : Enters Tryz.prog 104 := ⟨fun _ _ => by kernel_rfl⟩
theorem enters_goodI : Enters Tryz.prog 110 := ⟨fun _ _ => by kernel_rfl⟩
theorem enters_goodM : Enters Tryz.prog 69 := ⟨fun _ _ => by kernel_rfl⟩
set_option maxRecDepth 20000 in
set_option maxHeartbeats 1000000 in
theorem goodB_any (B : Nat) (x : Bnd) (w : World) (cs : List Value) (hT : Tabs w) (hR : RB w B x cs) (hB : B ≤ w.heap.size) (hsz : sizeB x ≤ 65536) (hv : VB x) :
    Calls Tryz.prog 107 #[.agg cs.toArray] w fun e w' => e = .returned (.bool (yes (MayB x))) ∧ Ext w w' := by
  have hs0 : 1 + sizeX x.x ≤ 65536 := hsz
  obtain ⟨cs, rfl, hX⟩ := hR
  have HX := hide hX
  obtain ⟨v, rfl, hS⟩ := RX_iff.1 hX
  have ho := hS.oneCell
  obtain ⟨W1, e1, hV1, hx1, hs1, c0, c1, c2, c3, c4, c5, c6⟩ := boxL7 w (.string x.name) (.int .i64 x.x.op) (.string x.x.name) (.int .i64 x.x.n) (.int .i64 x.x.w) (.int .u64 x.x.v) v 85
  have hB1 : B ≤ W1.heap.size := Nat.le_trans hB hx1.size
  have G1 := hide (show ECalls Tryz.prog 105 #[.string x.name] W1 (.bool (yes (nameP x.name))) from
    fun w' hw => by rw [yes_nameP]; exact name_any x.name w' ((hT.ext (hx1.trans hw)).lib) hv.1)
  have G2 := hide (show ECalls Tryz.prog 57 #[.agg #[.int .i64 x.x.op, .string x.x.name, .int .i64 x.x.n, .int .i64 x.x.w, .int .u64 x.x.v, v]] W1 (.bool (yes (MayX x.x))) from
    fun w' hw => goodX_any B x.x w' _ (hT.ext (hx1.trans hw)) (HX.out.ext (hx1.trans hw) hB) (Nat.le_trans hB1 hw.size) (by omega) hv.2)
  obtain ⟨res, hres⟩ : ∃ res, res = yes (MayB x) := ⟨_, rfl⟩
  rw [← hres]
  unfold MayB at hres
  rw [yes_and] at hres
  have R := hide hres
  clear hT hsz hv hs0 hres hS hX HX
  generalize yes (nameP x.name) = b1 at *
  generalize yes (MayX x.x) = b2 at *
  cases b1
  all_goals
    go_enter Tryz.func107, Tryz.ntmps107
    go_wp2_with (first
      | (go_at_call 105; refine (G1.out.at_ _).mono ?_; rintro _ _ ⟨rfl, e, rfl⟩)
      | (go_at_call 57; refine (G2.out.at_ _).mono ?_; rintro _ _ ⟨rfl, e, rfl⟩))
    all_goals
      go_ret
      exact ⟨by rw [R.out]; rfl, hx1.trans (Later.ext _)⟩
set_option maxRecDepth 20000 in
set_option maxHeartbeats 1000000 in
theorem goodP_any (B : Nat) (x : Prt) (w : World) (cs : List Value) (hT : Tabs w) (hR : RP w B x cs) (hB : B ≤ w.heap.size) (hsz : sizeP x ≤ 65536) (hv : VP x) :
    Calls Tryz.prog 104 #[.agg cs.toArray] w fun e w' => e = .returned (.bool (yes (MayP x))) ∧ Ext w w' := by
  have hs0 : 1 + sizeX x.w ≤ 65536 := hsz
  obtain ⟨cs, rfl, hX⟩ := hR
  have HX := hide hX
  obtain ⟨v, rfl, hS⟩ := RX_iff.1 hX
  have ho := hS.oneCell
  obtain ⟨W1, e1, hV1, hx1, hs1, c0, c1, c2, c3, c4, c5, c6, c7⟩ := boxL8 w (.string x.name) (.bool x.out) (.int .i64 x.w.op) (.string x.w.name) (.int .i64 x.w.n) (.int .i64 x.w.w) (.int .u64 x.w.v) v 83
  have hB1 : B ≤ W1.heap.size := Nat.le_trans hB hx1.size
  have G1 := hide (show ECalls Tryz.prog 105 #[.string x.name] W1 (.bool (yes (nameP x.name))) from
    fun w' hw => by rw [yes_nameP]; exact name_any x.name w' ((hT.ext (hx1.trans hw)).lib) hv.1)
  have G2 := hide (show ECalls Tryz.prog 57 #[.agg #[.int .i64 x.w.op, .string x.w.name, .int .i64 x.w.n, .int .i64 x.w.w, .int .u64 x.w.v, v]] W1 (.bool (yes (MayX x.w))) from
    fun w' hw => goodX_any B x.w w' _ (hT.ext (hx1.trans hw)) (HX.out.ext (hx1.trans hw) hB) (Nat.le_trans hB1 hw.size) (by omega) hv.2)
  obtain ⟨res, hres⟩ : ∃ res, res = yes (MayP x) := ⟨_, rfl⟩
  rw [← hres]
  unfold MayP at hres
  rw [yes_and] at hres
  have R := hide hres
  clear hT hsz hv hs0 hres hS hX HX
  generalize yes (nameP x.name) = b1 at *
  generalize yes (MayX x.w) = b2 at *
  cases b1
  all_goals
    go_enter Tryz.func104, Tryz.ntmps104
    go_wp2_with (first
      | (go_at_call 105; refine (G1.out.at_ _).mono ?_; rintro _ _ ⟨rfl, e, rfl⟩)
      | (go_at_call 57; refine (G2.out.at_ _).mono ?_; rintro _ _ ⟨rfl, e, rfl⟩))
    all_goals
      go_ret
      exact ⟨by rw [R.out]; rfl, hx1.trans (Later.ext _)⟩
set_option maxRecDepth 20000 in
set_option maxHeartbeats 1000000 in
theorem fits_any (s : ByteArray) (b : Bool) (w : World) (hT : Tabs w) (hs : s.size < 4294967281) :
    Calls Tryz.prog 125 #[.string s, .bool b] w fun e w' => e = .returned (.bool (yes (fitsP (b = true) s))) ∧ Ext w w' := by
  obtain ⟨e0, he0⟩ := Later.mk_ex (Ext.refl w)
  have G1 := hide (show ECalls Tryz.prog 105 #[.string s] w (.bool (yes (nameP s))) from
    fun w' hw => by rw [yes_nameP]; exact name_any s w' ((hT.ext hw).lib) hs)
  obtain ⟨res, hres⟩ : ∃ res, res = yes (fitsP (b = true) s) := ⟨_, rfl⟩
  rw [← hres]
  have R := hide hres
  clear hT hres hs
  suffices h : Calls Tryz.prog 125 #[.string s, .bool b] e0.w fun e w' => e = .returned (.bool res) ∧ Ext w w' by rw [← he0] at h; exact h
  clear he0
  by_cases hN : nameP s
  all_goals
    first | rw [yes_iff.2 hN] at G1 | rw [yes_no.2 hN] at G1
    have qN := hide hN
    clear hN
    by_cases h0 : s.size = 0
    all_goals
      first | have hem := empty_size h0 | have hem := full_size h0
      have q0 := hide h0
      clear h0
      cases b
      all_goals
        go_enter Tryz.func125, Tryz.ntmps125
        go_wp2_with (go_at_call 105; refine (G1.out.at_ _).mono ?_; rintro _ _ ⟨rfl, e, rfl⟩)
        all_goals
          go_ret
          refine ⟨?_, Later.ext _⟩
          rw [R.out]
          refine congrArg (fun b => Ending.returned (Value.bool b)) ?_
          rw [Bool.eq_iff_iff, yes_iff]
          unfold fitsP
          have h1 := qN.out
          have h2 := q0.out
          simp [h1, h2]
end Go.Proofs.YtjoglnjpgkobeaaGreatDoor
