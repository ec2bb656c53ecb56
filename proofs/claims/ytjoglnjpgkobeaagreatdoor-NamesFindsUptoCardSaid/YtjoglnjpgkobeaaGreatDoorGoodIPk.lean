/-
  THE CONTRACTS OF PACKAGE ast's goodB, fits, goodI.
-/
import Derived.Test.YtjoglnjpgkobeaaGreatDoorGoodAPk
namespace Go.Proofs.YtjoglnjpgkobeaaGreatDoor
open Go Go.RowKit
set_option linter.all false
set_option linter.unusedVariables false
set_option linter.unusedSimpArgs false
set_option linter.unusedVariables false
set_option linter.unusedSimpArgs false
attribute [local go_sem] run_store_one

theorem enters_goodB : Enters Tryz.prog 107 := ⟨fun _ _ => by kernel_rfl⟩
theorem enters_goodP : Enters Tryz.prog 104 := ⟨fun _ _ => by kernel_rfl⟩
theorem enters_goodI : Enters Tryz.prog 110 := ⟨fun _ _ => by kernel_rfl⟩
theorem enters_goodM : Enters Tryz.prog 69 := ⟨fun _ _ => by kernel_rfl⟩

set_option maxRecDepth 20000 in
set_option maxHeartbeats 1000000 in
theorem goodB_any (B : Nat) (x : Bnd) (w : World) (cs : List Value) (hT : Tabs w) (hR : RB w B x cs) (hB : B ≤ w.heap.size) (hsz : sizeB x ≤ 65536) (hv : VB x) :
    Calls Tryz.prog 107 #[.agg cs.toArray] w fun e w' => e = .returned (.bool (yes (MayB x))) ∧ Ext w w' := by
  have hs0 : 1 + sizeX x.x ≤ 65536 := hsz
  obtain ⟨cs, rfl, hX⟩ := hR
  have HX := hide hX
  obtain ⟨v, rfl, hS⟩ := RX_iff.1 hX
  have ho := hS.oneCell
  obtain ⟨W1, e1, hV1, hx1, hs1, c0, c1, c2, c3, c4, c5, c6⟩ := boxL7 w (.string x.name) (.int .i64 x.x.op) (.string x.x.name) (.int .i64 x.x.n) (.int .i64 x.x.w) (.int .u64 x.x.v) v 85
  have hB1 : B ≤ W1.heap.size := Nat.le_trans hB hx1.size
  have G1 := hide (show ECalls Tryz.prog 105 #[.string x.name] W1 (.bool (yes (nameP x.name))) from
    fun w' hw => by rw [yes_nameP]; exact name_any x.name w' ((hT.ext (hx1.trans hw)).lib) hv.1)
  have G2 := hide (show ECalls Tryz.prog 57 #[.agg #[.int .i64 x.x.op, .string x.x.name, .int .i64 x.x.n, .int .i64 x.x.w, .int .u64 x.x.v, v]] W1 (.bool (yes (MayX x.x))) from
    fun w' hw => goodX_any B x.x w' _ (hT.ext (hx1.trans hw)) (HX.out.ext (hx1.trans hw) hB) (Nat.le_trans hB1 hw.size) (by omega) hv.2)
  obtain ⟨res, hres⟩ : ∃ res, res = yes (MayB x) := ⟨_, rfl⟩
  rw [← hres]
  unfold MayB at hres
  rw [yes_and] at hres
  have R := hide hres
  clear hT hsz hv hs0 hres hS hX HX
  generalize yes (nameP x.name) = b1 at *
  generalize yes (MayX x.x) = b2 at *
  cases b1
  all_goals
    go_enter Tryz.func107, Tryz.ntmps107
    go_wp2_with (first
      | (go_at_call 105; refine (G1.out.at_ _).mono ?_; rintro _ _ ⟨rfl, e, rfl⟩)
      | (go_at_call 57; refine (G2.out.at_ _).mono ?_; rintro _ _ ⟨rfl, e, rfl⟩))
    all_goals
      go_ret
      exact ⟨by rw [R.out]; rfl, hx1.trans (Later.ext _)⟩

set_option maxRecDepth 20000 in
set_option maxHeartbeats 1000000 in
theorem goodP_any (B : Nat) (x : Prt) (w : World) (cs : List Value) (hT : Tabs w) (hR : RP w B x cs) (hB : B ≤ w.heap.size) (hsz : sizeP x ≤ 65536) (hv : VP x) :
    Calls Tryz.prog 104 #[.agg cs.toArray] w fun e w' => e = .returned (.bool (yes (MayP x))) ∧ Ext w w' := by
  have hs0 : 1 + sizeX x.w ≤ 65536 := hsz
  obtain ⟨cs, rfl, hX⟩ := hR
  have HX := hide hX
  obtain ⟨v, rfl, hS⟩ := RX_iff.1 hX
  have ho := hS.oneCell
  obtain ⟨W1, e1, hV1, hx1, hs1, c0, c1, c2, c3, c4, c5, c6, c7⟩ := boxL8 w (.string x.name) (.bool x.out) (.int .i64 x.w.op) (.string x.w.name) (.int .i64 x.w.n) (.int .i64 x.w.w) (.int .u64 x.w.v) v 83
  have hB1 : B ≤ W1.heap.size := Nat.le_trans hB hx1.size
  have G1 := hide (show ECalls Tryz.prog 105 #[.string x.name] W1 (.bool (yes (nameP x.name))) from
    fun w' hw => by rw [yes_nameP]; exact name_any x.name w' ((hT.ext (hx1.trans hw)).lib) hv.1)
  have G2 := hide (show ECalls Tryz.prog 57 #[.agg #[.int .i64 x.w.op, .string x.w.name, .int .i64 x.w.n, .int .i64 x.w.w, .int .u64 x.w.v, v]] W1 (.bool (yes (MayX x.w))) from
    fun w' hw => goodX_any B x.w w' _ (hT.ext (hx1.trans hw)) (HX.out.ext (hx1.trans hw) hB) (Nat.le_trans hB1 hw.size) (by omega) hv.2)
  obtain ⟨res, hres⟩ : ∃ res, res = yes (MayP x) := ⟨_, rfl⟩
  rw [← hres]
  unfold MayP at hres
  rw [yes_and] at hres
  have R := hide hres
  clear hT hsz hv hs0 hres hS hX HX
  generalize yes (nameP x.name) = b1 at *
  generalize yes (MayX x.w) = b2 at *
  cases b1
  all_goals
    go_enter Tryz.func104, Tryz.ntmps104
    go_wp2_with (first
      | (go_at_call 105; refine (G1.out.at_ _).mono ?_; rintro _ _ ⟨rfl, e, rfl⟩)
      | (go_at_call 57; refine (G2.out.at_ _).mono ?_; rintro _ _ ⟨rfl, e, rfl⟩))
    all_goals
      go_ret
      exact ⟨by rw [R.out]; rfl, hx1.trans (Later.ext _)⟩

set_option maxRecDepth 20000 in
set_option maxHeartbeats 1000000 in
theorem fits_any (s : ByteArray) (b : Bool) (w : World) (hT : Tabs w) (hs : s.size < 4294967281) :
    Calls Tryz.prog 125 #[.string s, .bool b] w fun e w' => e = .returned (.bool (yes (fitsP (b = true) s))) ∧ Ext w w' := by
  obtain ⟨e0, he0⟩ := Later.mk_ex (Ext.refl w)
  have G1 := hide (show ECalls Tryz.prog 105 #[.string s] w (.bool (yes (nameP s))) from
    fun w' hw => by rw [yes_nameP]; exact name_any s w' ((hT.ext hw).lib) hs)
  obtain ⟨res, hres⟩ : ∃ res, res = yes (fitsP (b = true) s) := ⟨_, rfl⟩
  rw [← hres]
  have R := hide hres
  clear hT hres hs
  suffices h : Calls Tryz.prog 125 #[.string s, .bool b] e0.w fun e w' => e = .returned (.bool res) ∧ Ext w w' by rw [← he0] at h; exact h
  clear he0
  by_cases hN : nameP s
  all_goals
    first | rw [yes_iff.2 hN] at G1 | rw [yes_no.2 hN] at G1
    have qN := hide hN
    clear hN
    by_cases h0 : s.size = 0
    all_goals
      first | have hem := empty_size h0 | have hem := full_size h0
      have q0 := hide h0
      clear h0
      cases b
      all_goals
        go_enter Tryz.func125, Tryz.ntmps125
        go_wp2_with (go_at_call 105; refine (G1.out.at_ _).mono ?_; rintro _ _ ⟨rfl, e, rfl⟩)
        all_goals
          go_ret
          refine ⟨?_, Later.ext _⟩
          rw [R.out]
          refine congrArg (fun b => Ending.returned (Value.bool b)) ?_
          rw [Bool.eq_iff_iff, yes_iff]
          unfold fitsP
          have h1 := qN.out
          have h2 := q0.out
          simp [h1, h2]

end Go.Proofs.YtjoglnjpgkobeaaGreatDoor
