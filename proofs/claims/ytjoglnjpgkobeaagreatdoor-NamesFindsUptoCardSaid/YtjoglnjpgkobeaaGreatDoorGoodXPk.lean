/-
  THE CONTRACTS OF PACKAGE ast's good AND goodX, of any expression.
-/
import Derived.Test.YtjoglnjpgkobeaaGreatDoorGoodPk
import Derived.Test.YtjoglnjpgkobeaaGreatDoorMayS5Pk
namespace Go.Proofs.YtjoglnjpgkobeaaGreatDoor
open Go Go.RowKit
set_option linter.all false
set_option linter.unusedVariables false
set_option linter.unusedSimpArgs false
set_option linter.unusedVariables false
set_option linter.unusedSimpArgs false
attribute [local go_sem] run_store_one

theorem own_row {x : X} (k : Nat) (r : KRow) (hr : kindRows[k]? = some r) (hk1 : 2 ≤ k) (hk2 : k ≤ 10) (hop : x.op = k) (hl : x.l.length ≤ 65536) : ownX x ↔ rowOk r x.n x.l.length x.w x.v x.name := by
  unfold ownX rowOk partsOk numOk valOk nmOk isNamed
  rw [hop]
  generalize x.n = n
  generalize x.w = w
  generalize x.v = v
  generalize x.l.length = len at *
  generalize nameP x.name = P
  generalize x.name.size = z
  have hc : k = 2 ∨ k = 3 ∨ k = 4 ∨ k = 5 ∨ k = 6 ∨ k = 7 ∨ k = 8 ∨ k = 9 ∨ k = 10 := by omega
  by_cases hN : P
  all_goals
    rcases hc with rfl | rfl | rfl | rfl | rfl | rfl | rfl | rfl | rfl
    all_goals
      simp only [kindRows, List.getElem?_cons_succ, List.getElem?_cons_zero, Option.some.injEq] at hr
      subst hr
      simp [hN]
      try omega
theorem own_numb {x : X} (hop : x.op = 1) : ownX x ↔ numbOk x.n x.l.length x.w x.v x.name := by
  unfold ownX numbOk partsOk numOk valOk nmOk isNamed
  rw [hop]
  generalize x.n = n
  generalize x.w = w
  generalize x.v = v
  generalize x.l.length = len at *
  generalize nameP x.name = P
  generalize x.name.size = z
  simp
  generalize (2 : Int) ^ w.toNat = p
  omega
theorem own_out {x : X} (hop : x.op < 1 ∨ 10 < x.op) : ¬ ownX x := by
  rintro ⟨h, _⟩
  unfold partsOk at h
  omega

set_option maxRecDepth 20000 in
set_option maxHeartbeats 1000000 in
theorem good_out (op : Int) (hop : op < 1 ∨ 10 < op) (v1 v2 v3 v4 v5 : Value) (o1 : v1.oneCell' = true) (o2 : v2.oneCell' = true) (o3 : v3.oneCell' = true) (o4 : v4.oneCell' = true) (o5 : v5.oneCell' = true) (w : World) :
    Calls Tryz.prog 90 #[.agg #[.int .i64 op, v1, v2, v3, v4, v5]] w fun e w' => e = .returned (.bool false) ∧ Ext w w' := by
  obtain ⟨W1, e1, hV1, hx1, hs1, c0, c1, c2, c3, c4, c5⟩ := boxL6 w (.int .i64 op) v1 v2 v3 v4 v5 49
  by_cases h1 : op < 1
  · clear hop
    go_enter Tryz.func90, Tryz.ntmps90
    go_wp2_with fail
    go_ret
    exact ⟨rfl, hx1.trans (Later.ext _)⟩
  · have h2 : 11 ≤ op := by omega
    have h1 : 1 ≤ op := by omega
    clear hop
    go_enter Tryz.func90, Tryz.ntmps90
    go_wp2_with fail
    go_ret
    exact ⟨rfl, hx1.trans (Later.ext _)⟩

theorem good_any (B : Nat) (x : X) (w : World) (cs : List Value) (hT : Tabs w) (hR : RX w B x cs) (hl : x.l.length ≤ 65536) (hs : x.name.size < 4294967281) :
    Calls Tryz.prog 90 #[.agg cs.toArray] w fun e w' => e = .returned (.bool (yes (ownX x))) ∧ Ext w w' := by
  obtain ⟨a5, rfl, sa, cap, rfl, hcap, hrow⟩ := RX_iff.1 hR
  by_cases h1 : x.op < 1 ∨ 10 < x.op
  · rw [yes_no.2 (own_out h1)]
    exact good_out _ h1 _ _ _ _ _ rfl rfl rfl rfl rfl w
  · by_cases h2 : x.op = 1
    · rw [yes_congr (own_numb h2), h2]
      exact good_1 _ _ _ _ _ _ _ (by omega) w hT
    · obtain ⟨k, hk⟩ : ∃ k : Nat, x.op = k := ⟨x.op.toNat, by omega⟩
      obtain ⟨r, hr⟩ : ∃ r, kindRows[k]? = some r := ⟨kindRows[k]'(show k < 11 by omega), List.getElem?_eq_getElem _⟩
      rw [yes_congr (own_row k r hr (by omega) (by omega) hk hl), hk]
      exact good_n k r hr (by omega) (by omega) _ _ _ _ _ _ _ (by omega) hs w hT

theorem enters_goodX : Enters Tryz.prog 57 := ⟨fun _ _ => by kernel_rfl⟩

set_option maxRecDepth 20000 in
set_option maxHeartbeats 1000000 in
theorem goodX_any (B : Nat) (x : X) : ∀ (w : World) (cs : List Value), Tabs w → RX w B x cs → B ≤ w.heap.size → sizeX x ≤ 65536 → VX x →
    Calls Tryz.prog 57 #[.agg cs.toArray] w fun e w' => e = .returned (.bool (yes (MayX x))) ∧ Ext w w' := by
  induction x using X.ind with
  | h x ih =>
  intro w cs hT hR hB hsz hvx
  have HR := hide hR
  obtain ⟨a5, rfl, hS⟩ := RX_iff.1 hR
  have hs0 : 1 + msize sizeX x.l ≤ 65536 := by rw [← sizeX_eq]; exact hsz
  have hlen := length_le_msize sizeX x.l sizeX_pos
  obtain ⟨hv1, hv2, hns, hvl⟩ := VX_iff.1 hvx
  have o5 := hS.oneCell
  obtain ⟨W1, e1, hV1, hx1, hs1, c0, c1, c2, c3, c4, c5⟩ := boxL6 w (.int .i64 x.op) (.string x.name) (.int .i64 x.n) (.int .i64 x.w) (.int .u64 x.v) a5 49
  have hB1 : B ≤ W1.heap.size := Nat.le_trans hB hx1.size
  have G1 := hide (show ECalls Tryz.prog 90 #[.agg #[.int .i64 x.op, .string x.name, .int .i64 x.n, .int .i64 x.w, .int .u64 x.v, a5]] W1 (.bool (yes (ownX x))) from
    fun w' hw => good_any B x w' _ (hT.ext (hx1.trans hw)) (HR.out.ext (hx1.trans hw) hB) (by omega) hns)
  have G2 := hide (show ECalls Tryz.prog 91 #[a5, .func (.func 57) #[] #[]] W1 (.bool (yes (∀ y, y ∈ x.l → MayX y))) from
    fun w' hw => allX_any _ enters_goodX MayX B x.l w' (fun y hy w'' cs hx hr hb => ih y hy w'' cs (hT.ext ((hx1.trans hw).trans hx)) hr hb (by have := msize_mem sizeX x.l y hy; omega) (hvl y hy)) a5
      (hS.extRX (hx1.trans hw) hB) (Nat.le_trans hB1 hw.size) (by omega))
  obtain ⟨res, hres⟩ : ∃ res, res = yes (MayX x) := ⟨_, rfl⟩
  rw [← hres]
  rw [yes_congr MayX_iff, yes_and] at hres
  have R := hide hres
  clear hR hsz hvx hv1 hv2 hvl ih hs0 hlen hres hS HR
  generalize yes (ownX x) = b1 at *
  generalize yes (∀ y, y ∈ x.l → MayX y) = b2 at *
  cases b1
  all_goals
    go_enter Tryz.func57, Tryz.ntmps57
    go_wp2_with (first
      | (go_at_call 90; refine (G1.out.at_ _).mono ?_; rintro _ _ ⟨rfl, e, rfl⟩)
      | (go_at_call 91; refine (G2.out.at_ _).mono ?_; rintro _ _ ⟨rfl, e, rfl⟩))
    all_goals
      go_ret
      exact ⟨by rw [R.out]; rfl, hx1.trans (Later.ext _)⟩

end Go.Proofs.YtjoglnjpgkobeaaGreatDoor

/-
  THE CONTRACTS OF PACKAGE ast's target; what goodS stands on.
-/
namespace Go.Proofs.YtjoglnjpgkobeaaGreatDoor
open Go Go.RowKit
set_option linter.all false
set_option linter.unusedVariables false
set_option linter.unusedSimpArgs false
set_option linter.unusedVariables false
set_option linter.unusedSimpArgs false
attribute [local go_sem] run_store_one

theorem target_any (op : Int) (v1 v2 v3 v4 v5 : Value) (o1 : v1.oneCell' = true) (o2 : v2.oneCell' = true) (o3 : v3.oneCell' = true) (o4 : v4.oneCell' = true) (o5 : v5.oneCell' = true) (w : World) :
    Calls Tryz.prog 126 #[.agg #[.int .i64 op, v1, v2, v3, v4, v5]] w fun e w' => e = .returned (.bool (yes (isNamed op))) ∧ Ext w w' := by
  obtain ⟨res, hres⟩ : ∃ res, res = yes (isNamed op) := ⟨_, rfl⟩
  rw [← hres]
  have R := hide hres
  clear hres
  obtain ⟨W1, e1, hV1, hx1, hs1, c0, c1, c2, c3, c4, c5⟩ := boxL6 w (.int .i64 op) v1 v2 v3 v4 v5 49
  go_enter Tryz.func126, Tryz.ntmps126
  go_wp2_with fail
  all_goals
    go_ret
    refine ⟨?_, hx1.trans (Later.ext _)⟩
    rw [R.out]
    refine congrArg (fun b => Ending.returned (Value.bool b)) ?_
    rw [Bool.eq_iff_iff, yes_iff]
    unfold isNamed
    simp
    try omega

theorem enters_goodS : Enters Tryz.prog 128 := ⟨fun _ _ => by kernel_rfl⟩
/-- goodS of x. -/
def GoodSOk (B : Nat) (x : S) : Prop := ∀ (w : World) (cs : List Value), Tabs w → RS w B x cs → B ≤ w.heap.size →
    Calls Tryz.prog 128 #[.agg cs.toArray] w fun e w' => e = .returned (.bool (yes (MayS x))) ∧ Ext w w'
/-- 'all', of statements. -/
def GoodAllOk (B : Nat) (l : List S) : Prop := ∀ (w : World) (v : Value), Tabs w → Sl (RS w B) w B 4 l v → B ≤ w.heap.size →
    Calls Tryz.prog 127 #[v, .func (.func 128) #[] #[]] w fun e w' => e = .returned (.bool (yes (∀ y, y ∈ l → MayS y))) ∧ Ext w w'
/-- 'arms'. -/
def GoodArmsOk (B : Nat) (l : List S) : Prop := ∀ (w : World) (v : Value), Tabs w → Sl (RS w B) w B 4 l v → B ≤ w.heap.size →
    Calls Tryz.prog 137 #[v] w fun e w' => e = .returned (.bool (yes (MayArms l))) ∧ Ext w w'
theorem goodAll_of (B : Nat) (l : List S) (h : ∀ y, y ∈ l → GoodSOk B y) (hl : l.length ≤ 1000000000) : GoodAllOk B l :=
  fun w v hT hS hB => allS_any _ enters_goodS MayS B l w (fun y hy w' cs hx hr hb => h y hy w' cs (hT.ext hx) hr hb) v hS hB hl
theorem goodXs_of (B : Nat) (l : List X) (hsz : msize sizeX l ≤ 65536) (hv : ∀ y, y ∈ l → VX y) (w : World) (v : Value) (hT : Tabs w) (hS : Sl (RX w B) w B 6 l v) (hB : B ≤ w.heap.size) :
    Calls Tryz.prog 91 #[v, .func (.func 57) #[] #[]] w fun e w' => e = .returned (.bool (yes (∀ y, y ∈ l → MayX y))) ∧ Ext w w' :=
  allX_any _ enters_goodX MayX B l w (fun y hy w' cs hx hr hb => goodX_any B y w' cs (hT.ext hx) hr hb (by have := msize_mem sizeX l y hy; omega) (hv y hy)) v hS hB (by have := length_le_msize sizeX l sizeX_pos; omega)
theorem yes_nil {α : Type} {P : α → Prop} {l : List α} (h : l.length = 0) : yes (∀ y, y ∈ l → P y) = true := by
  rw [yes_iff, List.eq_nil_of_length_eq_zero h]
  intro y hy
  cases hy
theorem isTargets_at {l : List X} (h : 0 < l.length) : isTargets l ↔ isNamed l[0].op := by
  cases l with
  | nil => simp at h
  | cons x r => exact Iff.rfl

end Go.Proofs.YtjoglnjpgkobeaaGreatDoor
