/-
  THE LAWS OF NAMES: their helpers.
-/
import Derived.Test.YtjoglnjpgkobeaaDoorNBelowPk
import Derived.Test.YtjoglnjpgkobeaaDoorCntFPk
import Derived.Test.YtjoglnjpgkobeaaDoorFewPk
import Derived.Test.YtjoglnjpgkobeaaDoorLivePPk
namespace Go.Proofs.YtjoglnjpgkobeaaDoor
open Go Go.RowKit
set_option linter.all false
set_option linter.unusedVariables false
set_option linter.unusedSimpArgs false
set_option linter.unusedVariables false
set_option linter.unusedSimpArgs false
attribute [local go_sem] run_store_one

set_option maxRecDepth 20000 in
set_option maxHeartbeats 1000000 in
theorem few7_any (B : Nat) (l : List Mdl) (w : World) (v : Value) (hS : Sl (RM w B) w B 4 l v) (hB : B ≤ w.heap.size) (hsz : msize sizeM l ≤ 1000000000) :
    Calls Tryd.prog 10 #[.agg #[v]] w fun e w' => e = .returned (.bool (yes (fewP (msize sizeM l) (mdeep deepM l)))) ∧ Ext w w' := by
  have HS := hide hS
  have hov := hS.oneCell
  have hdl := deepML_le l
  obtain ⟨W1, e1, hV1, hx1, hs1, c0⟩ := boxL1 w v 24
  have hB1 : B ≤ W1.heap.size := Nat.le_trans hB hx1.size
  have G1 := hide (show ECalls Tryd.prog 26 #[.agg #[v]] W1 (.int .i64 (msize sizeM l)) from
    fun w' hw => refSize_any B l w' v (HS.out.extRM (hx1.trans hw) hB) (Nat.le_trans hB1 hw.size) hsz)
  have G2 := hide (show ECalls Tryd.prog 27 #[.agg #[v]] W1 (.int .i64 (mdeep deepM l)) from
    fun w' hw => refDeep_any B l w' v (HS.out.extRM (hx1.trans hw) hB) (Nat.le_trans hB1 hw.size) hsz)
  obtain ⟨res, hres⟩ : ∃ res, res = yes (fewP (msize sizeM l) (mdeep deepM l)) := ⟨_, rfl⟩
  rw [← hres]
  have R := hide hres
  clear hS hres HS
  generalize msize sizeM l = s1 at *
  generalize mdeep deepM l = s2 at *
  go_enter Tryd.func10, Tryd.ntmps10
  go_wp2_with (first
    | (go_at_call 26; refine (G1.out.at_ _).mono ?_; rintro _ _ ⟨rfl, e, rfl⟩)
    | (go_at_call 27; refine (G2.out.at_ _).mono ?_; rintro _ _ ⟨rfl, e, rfl⟩))
  all_goals
    go_ret
    refine ⟨?_, hx1.trans (Later.ext _)⟩
    rw [R.out]
    refine congrArg (fun b => Ending.returned (Value.bool b)) ?_
    rw [Bool.eq_iff_iff, yes_iff]
    unfold fewP
    clear R G1 G2 hV1 c0
    simp at *
    try omega

theorem module7_any (nm : ByteArray) (a : Option Addr) (n c : Nat) (w : World) :
    Calls Tryd.prog 17 #[.string nm, .slice a n c] w fun e w' => e = .returned (.agg #[.string nm, .slice none 0 0, .slice none 0 0, .slice a n c]) ∧ Ext w w' := by
  obtain ⟨Wb, Wc, hVb, ⟨p0, p1, p2, p3⟩, ⟨q0, q1, q2, q3⟩, hVc, hbc, hxc, -⟩ := varM w (.string nm) (.slice none 0 0) (.slice none 0 0) (.slice a n c)
  obtain ⟨r0, r1, r2, r3⟩ := hbc.get4
  go_enter Tryd.func17, Tryd.ntmps17
  go_wp2
  refine bodyPost_ret (v := .agg #[.string nm, .slice none 0 0, .slice none 0 0, .slice a n c]) ?_ rfl ⟨rfl, hxc⟩
  simp [results, Tryd.results17, go_sem, r0, r1, r2, r3]

theorem inst7_any (nm of : ByteArray) (w : World) :
    Calls Tryd.prog 25 #[.string nm, .string of] w fun e w' => e = .returned (.agg #[.int .i64 7, .string nm, .string of, .slice none 0 0, .slice none 0 0, .slice none 0 0, .slice none 0 0, .slice none 0 0, .slice none 0 0]) ∧ Ext w w' := by
  obtain ⟨Wb, Wc, hVb, ⟨p0, p1, p2, p3, p4, p5, p6, p7, p8⟩, ⟨q0, q1, q2, q3, q4, q5, q6, q7, q8⟩, hVc, hbc, hxc, -⟩ := varI w (.int .i64 7) (.string nm) (.string of) (.slice none 0 0) (.slice none 0 0) (.slice none 0 0) (.slice none 0 0) (.slice none 0 0) (.slice none 0 0)
  obtain ⟨r0, r1, r2, r3, r4, r5, r6, r7, r8⟩ := hbc.get9
  go_enter Tryd.func25, Tryd.ntmps25
  go_wp2
  refine bodyPost_ret (v := .agg #[.int .i64 7, .string nm, .string of, .slice none 0 0, .slice none 0 0, .slice none 0 0, .slice none 0 0, .slice none 0 0, .slice none 0 0]) ?_ rfl ⟨rfl, hxc⟩
  simp [results, Tryd.results25, go_sem, r0, r1, r2, r3, r4, r5, r6, r7, r8]

theorem one7_any (w : World) :
    Calls Tryd.prog 22 #[] w fun e w' => e = .returned (.agg #[.int .i64 1, .string ⟨#[]⟩, .int .i64 0, .int .i64 0, .int .u64 1, .slice none 0 0]) ∧ Ext w w' := by
  obtain ⟨Wb, Wc, hVb, ⟨p0, p1, p2, p3, p4, p5⟩, ⟨q0, q1, q2, q3, q4, q5⟩, hVc, hbc, hxc, -⟩ := varX w (.int .i64 1) (.string ⟨#[]⟩) (.int .i64 0) (.int .i64 0) (.int .u64 1) (.slice none 0 0)
  obtain ⟨r0, r1, r2, r3, r4, r5⟩ := hbc.get6
  go_enter Tryd.func22, Tryd.ntmps22
  go_wp2
  refine bodyPost_ret (v := .agg #[.int .i64 1, .string ⟨#[]⟩, .int .i64 0, .int .i64 0, .int .u64 1, .slice none 0 0]) ?_ rfl ⟨rfl, hxc⟩
  simp [results, Tryd.results22, go_sem, r0, r1, r2, r3, r4, r5]

end Go.Proofs.YtjoglnjpgkobeaaDoor

/-
  NAMES: the laws' examples, as plain laws.
-/
namespace Go.Proofs.YtjoglnjpgkobeaaDoor
open Go Go.RowKit
set_option linter.all false
set_option linter.unusedVariables false
set_option linter.unusedSimpArgs false
set_option linter.unusedVariables false
set_option linter.unusedSimpArgs false

def tU : ByteArray := ⟨#[117]⟩
def tW : ByteArray := ⟨#[119]⟩
def tC : ByteArray := ⟨#[99]⟩
def xOne : X := .mk 1 tE 0 0 1 []
def iU (of : ByteArray) : Itm := .mk 7 tU of [] [] [] [] [] []
def iW (nm : ByteArray) : Itm := .mk 2 nm tE [xOne] [] [] [] [] []
def mA (of : ByteArray) : Mdl := ⟨tA, [], [], [iU of]⟩
def mB : Mdl := ⟨tB, [], [], []⟩
def fF : List Mdl := [mA tB, mB]
def fG : List Mdl := [⟨tA, [], [], [iW tW, iW tW]⟩]
def fH : List Mdl := [mA tA]
theorem nameP_U : nameP tU := ⟨by decide, by decide, by decide, by decide⟩
theorem nameP_W : nameP tW := ⟨by decide, by decide, by decide, by decide⟩
theorem may_xOne : MayX xOne := .mk _ ⟨.inl ⟨.inl rfl, rfl⟩, .inr (.inr (.inr ⟨by decide, rfl⟩)), .inr ⟨rfl, by decide, by decide, .inl rfl⟩, .inr ⟨by unfold isNamed; decide, rfl⟩⟩ (fun y hy => by cases hy)
theorem may_iU {of : ByteArray} (h : nameP of) : MayI (iU of) := .mk _ ⟨by show (1 : Int) ≤ 7; decide, by show (7 : Int) ≤ 10; decide, .inl ⟨(show (7 : Int) ≠ 4 ∧ (7 : Int) ≠ 5 ∧ (7 : Int) ≠ 6 ∧ (7 : Int) ≠ 8 by decide), nameP_U⟩, .inl ⟨.inl rfl, h⟩, rfl, (fun h => absurd h (show ¬ (7 : Int) = 4 by decide)), .inr (.inr rfl), .inr (.inr rfl), .inr rfl, .inl rfl⟩
  (fun y hy => by cases hy) (fun y hy => by cases hy) (fun y hy => by cases hy) (fun y hy => by cases hy) (fun y hy => by cases hy) (fun y hy => by cases hy)
theorem may_iW {nm : ByteArray} (h : nameP nm) : MayI (iW nm) := .mk _ ⟨by show (1 : Int) ≤ 2; decide, by show (2 : Int) ≤ 10; decide, .inl ⟨(show (2 : Int) ≠ 4 ∧ (2 : Int) ≠ 5 ∧ (2 : Int) ≠ 6 ∧ (2 : Int) ≠ 8 by decide), h⟩, .inr ⟨(show ¬ ((2 : Int) = 7 ∨ (2 : Int) = 9) by decide), rfl⟩, rfl, (fun h => absurd h (show ¬ (2 : Int) = 4 by decide)), .inr (.inr rfl), .inr (.inr rfl), .inr rfl, .inr ⟨rfl, rfl⟩⟩
  (all_one may_xOne) (fun y hy => by cases hy) (fun y hy => by cases hy) (fun y hy => by cases hy) (fun y hy => by cases hy) (fun y hy => by cases hy)
theorem may_mA {of : ByteArray} (h : nameP of) : MayM (mA of) := ⟨nameP_A, (fun y hy => by cases hy), (fun y hy => by cases hy), all_one (may_iU h)⟩
theorem may_mB : MayM mB := ⟨nameP_B, (fun y hy => by cases hy), (fun y hy => by cases hy), (fun y hy => by cases hy)⟩
theorem checkF_F : checkF fF = 0 := by
  unfold checkF
  rw [if_neg (by decide), yes_iff.2 (show ∀ m, m ∈ fF → MayM m from all_two (may_mA nameP_B) may_mB)]
  decide
theorem checkF_G : checkF fG = 0 := by
  unfold checkF
  rw [if_neg (by decide), yes_iff.2 (show ∀ m, m ∈ fG → MayM m from all_one (show MayM ⟨tA, [], [], [iW tW, iW tW]⟩ from ⟨nameP_A, (fun y hy => by cases hy), (fun y hy => by cases hy), all_two (may_iW nameP_W) (may_iW nameP_W)⟩))]
  decide
theorem checkF_H : checkF fH = 0 := by
  unfold checkF
  rw [if_neg (by decide), yes_iff.2 (show ∀ m, m ∈ fH → MayM m from all_one (may_mA nameP_A))]
  decide

theorem ab_ne : ¬ tA = tB := fun h => absurd (congrArg ByteArray.data h) (by decide)
theorem cA_ne : ¬ tA = tC := fun h => absurd (congrArg ByteArray.data h) (by decide)
theorem cB_ne : ¬ tB = tC := fun h => absurd (congrArg ByteArray.data h) (by decide)
theorem uses_mA (of : ByteArray) : usesM (mA of) = [of] := by
  have h : ofIs (mA of).items = [of] := by show ofIs [iU of] = [of]; simp [ofIs, ofI, iU]
  unfold usesM
  rw [h]
  exact addOne_out (by simp)
theorem uses_mB : usesM mB = [] := by
  have h : ofIs mB.items = [] := rfl
  unfold usesM
  rw [h]; rfl
theorem tn_iU (of : ByteArray) : tnIs [iU of] = [tU] := by simp [tnIs, tnI, iU, isDecl]
theorem right_mA (of : ByteArray) : rightM (mA of) := by
  refine ⟨?_, ?_, ?_⟩
  · show tokIs [iU of]
    simp [tokIs, tokI, iU]
  · show (tnIs [iU of] ++ []).Nodup
    rw [tn_iU]; simp
  · show inIs _ [iU of]
    simp [inIs, inI, iU, lpSs]
theorem right_mB : rightM mB := by
  refine ⟨?_, ?_, ?_⟩
  · show tokIs []
    simp [tokIs]
  · show (tnIs [] ++ []).Nodup
    simp [tnIs]
  · show inIs _ []
    simp [inIs]
theorem next_F0 : nextM fF [] = some mB := by
  refine next_at (f := fF) (i := 1) (by decide) (show readyM [] mB from ⟨by simp, fun s hs => by rw [uses_mB] at hs; cases hs⟩) (fun j h' hj => ?_)
  obtain rfl : j = 0 := by omega
  show ¬ readyM [] (mA tB)
  intro h
  have := h.2 tB (by rw [uses_mA]; simp)
  cases this
theorem next_F1 : nextM fF [tB] = some (mA tB) := by
  refine next_at (f := fF) (i := 0) (by decide) (show readyM [tB] (mA tB) from ⟨fun h => ab_ne (List.mem_singleton.1 h), fun s hs => by rw [uses_mA] at hs; exact hs⟩) (fun j h' hj => by omega)
theorem order_F : orderF fF = [tB, tA] := by
  unfold orderF
  show orderN fF 2 [] = _
  unfold orderN
  rw [next_F0]
  show orderN fF 1 [tB] = _
  unfold orderN
  rw [next_F1]
  rfl
theorem names_F : namesOk fF = 0 := by
  have h := ok_end (f := fF) ⟨by show [tA, tB].Nodup; simp [ab_ne], all_two (right_mA tB) right_mB⟩ (fun m hm s hs => by
    rcases List.mem_cons.1 hm with rfl | hm
    · rw [uses_mA] at hs; rw [List.mem_singleton.1 hs]; show tB ∈ [tA, tB]; simp
    · rw [List.mem_singleton.1 hm, uses_mB] at hs; cases hs)
  rw [h, order_F]
  rfl
theorem checkN_F : checkN fF = 0 := by unfold checkN; rw [if_pos checkF_F]; exact names_F
theorem checkN_G : checkN fG = 70 := by
  unfold checkN
  rw [if_pos checkF_G]
  refine ok_70 fun h => ?_
  have h1 := (h.2 _ (List.mem_singleton.2 rfl)).2.1
  have h2 : ownN ⟨tA, [], [], [iW tW, iW tW]⟩ = [tW, tW] := by show tnIs [iW tW, iW tW] ++ [] = _; simp [tnIs, tnI, iW, isDecl]
  rw [h2] at h1
  simp at h1
theorem next_H : nextM fH [] = none := by
  refine next_no fun x hx h => ?_
  rw [List.mem_singleton.1 hx] at h
  have := h.2 tA (by rw [uses_mA]; simp)
  cases this
theorem checkN_H : checkN fH = 72 := by
  unfold checkN
  rw [if_pos checkF_H]
  have h := ok_end (f := fH) ⟨by show [tA].Nodup; simp, all_one (right_mA tA)⟩ (fun m hm s hs => by
    rw [List.mem_singleton.1 hm, uses_mA] at hs; rw [List.mem_singleton.1 hs]; show tA ∈ [tA]; simp)
  have ho : orderF fH = [] := order_fuel _ next_H
  rw [h, ho]
  rfl
theorem find_FB : findM fF tB = some mB := findM_at (f := fF) (i := 1) (by decide) rfl (fun j h' hj => by
  obtain rfl : j = 0 := by omega
  exact ab_ne)
theorem find_FC : findM fF tC = none := findM_no (by
  intro x hx
  rcases List.mem_cons.1 hx with rfl | hx
  · exact cA_ne
  · rw [List.mem_singleton.1 hx]; exact cB_ne)
theorem reach_F {s : ByteArray} (h : Reach fF tB s) : s = tB := by
  induction h with
  | refl => rfl
  | step _ hm hc hs ih =>
    rw [ih, find_FB] at hm
    cases hm
    rw [uses_mB] at hc
    cases hc
theorem below_F : belowN fF tB = [tB] := by
  unfold belowN
  rw [order_F, List.filter_cons_of_pos (by exact yes_iff.2 .refl), List.filter_cons_of_neg (by rw [yes_no.2 (fun h => ab_ne (reach_F h))]; decide)]
  rfl
theorem vi_iU {of : ByteArray} (h : of.size < 4294967281) : VI (iU of) := .mk _ (show tU.size < 4294967281 by decide) h (fun y hy => by cases hy) (fun y hy => by cases hy) (fun y hy => by cases hy) (fun y hy => by cases hy) (fun y hy => by cases hy) (fun y hy => by cases hy)
theorem vx_xOne : VX xOne := .mk _ (show (0 : Int) ≤ 1 by decide) (show (1 : Int) < 18446744073709551616 by decide) (show tE.size < 4294967281 by decide) (fun y hy => by cases hy)
theorem vi_iW {nm : ByteArray} (h : nm.size < 4294967281) : VI (iW nm) := .mk _ h (show tE.size < 4294967281 by decide) (all_one vx_xOne) (fun y hy => by cases hy) (fun y hy => by cases hy) (fun y hy => by cases hy) (fun y hy => by cases hy) (fun y hy => by cases hy)
theorem vm_F : ∀ m, m ∈ fF → VM m := all_two ⟨by decide, (fun y hy => by cases hy), (fun y hy => by cases hy), all_one (vi_iU (by decide))⟩ ⟨by decide, (fun y hy => by cases hy), (fun y hy => by cases hy), (fun y hy => by cases hy)⟩
theorem vm_G : ∀ m, m ∈ fG → VM m := all_one ⟨by decide, (fun y hy => by cases hy), (fun y hy => by cases hy), all_two (vi_iW (by decide)) (vi_iW (by decide))⟩
theorem vm_H : ∀ m, m ∈ fH → VM m := all_one ⟨by decide, (fun y hy => by cases hy), (fun y hy => by cases hy), all_one (vi_iU (by decide))⟩

end Go.Proofs.YtjoglnjpgkobeaaDoor
