/-
  THE LAWS' OWN SMALL FUNCTIONS: name, few, fewX, fewS.
-/
import Derived.Test.YtjoglnjpgkobeaaGreatDoorMayS5Pk
import Derived.Test.YtjoglnjpgkobeaaGreatDoorCntFPk
import Derived.Test.YtjoglnjpgkobeaaGreatDoorNBelowPk
import Derived.Test.YtjoglnjpgkobeaaGreatDoorLivePPk
import Derived.Test.YtjoglnjpgkobeaaGreatDoorRefFPk
import Derived.Test.YtjoglnjpgkobeaaGreatDoorNAllPPk
import Derived.Test.YtjoglnjpgkobeaaGreatDoorFactsPk
import Derived.Test.YtjoglnjpgkobeaaGreatDoorNStrPk
namespace Go.Proofs.YtjoglnjpgkobeaaGreatDoor
open Go Go.RowKit
set_option linter.all false
set_option linter.unusedVariables false
set_option linter.unusedSimpArgs false
set_option linter.unusedVariables false
set_option linter.unusedSimpArgs false
attribute [local go_sem] run_store_one

/-- Is it small enough to be asked of? -/
def fewP (n d : Nat) : Prop := n ≤ 2000 ∧ d ≤ 100

end Go.Proofs.YtjoglnjpgkobeaaGreatDoor

/-
  THE LAWS OF NAMES: their helpers.
-/
namespace Go.Proofs.YtjoglnjpgkobeaaGreatDoor
open Go Go.RowKit
set_option linter.all false
set_option linter.unusedVariables false
set_option linter.unusedSimpArgs false
set_option linter.unusedVariables false
set_option linter.unusedSimpArgs false
attribute [local go_sem] run_store_one

set_option maxRecDepth 20000 in
set_option maxHeartbeats 1000000 in
theorem few7_any (B : Nat) (l : List Mdl) (w : World) (v : Value) (hS : Sl (RM w B) w B 4 l v) (hB : B ≤ w.heap.size) (hsz : msize sizeM l ≤ 1000000000) :
    Calls Tryz.prog 9 #[.agg #[v]] w fun e w' => e = .returned (.bool (yes (fewP (msize sizeM l) (mdeep deepM l)))) ∧ Ext w w' := by
  have HS := hide hS
  have hov := hS.oneCell
  have hdl := deepML_le l
  obtain ⟨W1, e1, hV1, hx1, hs1, c0⟩ := boxL1 w v 24
  have hB1 : B ≤ W1.heap.size := Nat.le_trans hB hx1.size
  have G1 := hide (show ECalls Tryz.prog 30 #[.agg #[v]] W1 (.int .i64 (msize sizeM l)) from
    fun w' hw => refSize_any B l w' v (HS.out.extRM (hx1.trans hw) hB) (Nat.le_trans hB1 hw.size) hsz)
  have G2 := hide (show ECalls Tryz.prog 31 #[.agg #[v]] W1 (.int .i64 (mdeep deepM l)) from
    fun w' hw => refDeep_any B l w' v (HS.out.extRM (hx1.trans hw) hB) (Nat.le_trans hB1 hw.size) hsz)
  obtain ⟨res, hres⟩ : ∃ res, res = yes (fewP (msize sizeM l) (mdeep deepM l)) := ⟨_, rfl⟩
  rw [← hres]
  have R := hide hres
  clear hS hres HS
  generalize msize sizeM l = s1 at *
  generalize mdeep deepM l = s2 at *
  go_enter Tryz.func9, Tryz.ntmps9
  go_wp2_with (first
    | (go_at_call 30; refine (G1.out.at_ _).mono ?_; rintro _ _ ⟨rfl, e, rfl⟩)
    | (go_at_call 31; refine (G2.out.at_ _).mono ?_; rintro _ _ ⟨rfl, e, rfl⟩))
  all_goals
    go_ret
    refine ⟨?_, hx1.trans (Later.ext _)⟩
    rw [R.out]
    refine congrArg (fun b => Ending.returned (Value.bool b)) ?_
    rw [Bool.eq_iff_iff, yes_iff]
    unfold fewP
    clear R G1 G2 hV1 c0
    simp at *
    try omega

theorem module7_any (nm : ByteArray) (a : Option Addr) (n c : Nat) (w : World) :
    Calls Tryz.prog 29 #[.string nm, .slice a n c] w fun e w' => e = .returned (.agg #[.string nm, .slice none 0 0, .slice none 0 0, .slice a n c]) ∧ Ext w w' := by
  obtain ⟨Wb, Wc, hVb, ⟨p0, p1, p2, p3⟩, ⟨q0, q1, q2, q3⟩, hVc, hbc, hxc, -⟩ := varM w (.string nm) (.slice none 0 0) (.slice none 0 0) (.slice a n c)
  obtain ⟨r0, r1, r2, r3⟩ := hbc.get4
  go_enter Tryz.func29, Tryz.ntmps29
  go_wp2
  refine bodyPost_ret (v := .agg #[.string nm, .slice none 0 0, .slice none 0 0, .slice a n c]) ?_ rfl ⟨rfl, hxc⟩
  simp [results, Tryz.results29, go_sem, r0, r1, r2, r3]

theorem inst7_any (nm of : ByteArray) (w : World) :
    Calls Tryz.prog 28 #[.string nm, .string of] w fun e w' => e = .returned (.agg #[.int .i64 7, .string nm, .string of, .slice none 0 0, .slice none 0 0, .slice none 0 0, .slice none 0 0, .slice none 0 0, .slice none 0 0]) ∧ Ext w w' := by
  obtain ⟨Wb, Wc, hVb, ⟨p0, p1, p2, p3, p4, p5, p6, p7, p8⟩, ⟨q0, q1, q2, q3, q4, q5, q6, q7, q8⟩, hVc, hbc, hxc, -⟩ := varI w (.int .i64 7) (.string nm) (.string of) (.slice none 0 0) (.slice none 0 0) (.slice none 0 0) (.slice none 0 0) (.slice none 0 0) (.slice none 0 0)
  obtain ⟨r0, r1, r2, r3, r4, r5, r6, r7, r8⟩ := hbc.get9
  go_enter Tryz.func28, Tryz.ntmps28
  go_wp2
  refine bodyPost_ret (v := .agg #[.int .i64 7, .string nm, .string of, .slice none 0 0, .slice none 0 0, .slice none 0 0, .slice none 0 0, .slice none 0 0, .slice none 0 0]) ?_ rfl ⟨rfl, hxc⟩
  simp [results, Tryz.results28, go_sem, r0, r1, r2, r3, r4, r5, r6, r7, r8]

theorem one7_any (w : World) :
    Calls Tryz.prog 25 #[] w fun e w' => e = .returned (.agg #[.int .i64 1, .string ⟨#[]⟩, .int .i64 0, .int .i64 0, .int .u64 1, .slice none 0 0]) ∧ Ext w w' := by
  obtain ⟨Wb, Wc, hVb, ⟨p0, p1, p2, p3, p4, p5⟩, ⟨q0, q1, q2, q3, q4, q5⟩, hVc, hbc, hxc, -⟩ := varX w (.int .i64 1) (.string ⟨#[]⟩) (.int .i64 0) (.int .i64 0) (.int .u64 1) (.slice none 0 0)
  obtain ⟨r0, r1, r2, r3, r4, r5⟩ := hbc.get6
  go_enter Tryz.func25, Tryz.ntmps25
  go_wp2
  refine bodyPost_ret (v := .agg #[.int .i64 1, .string ⟨#[]⟩, .int .i64 0, .int .i64 0, .int .u64 1, .slice none 0 0]) ?_ rfl ⟨rfl, hxc⟩
  simp [results, Tryz.results25, go_sem, r0, r1, r2, r3, r4, r5]

end Go.Proofs.YtjoglnjpgkobeaaGreatDoor

/-
  NAMES: the laws' examples, as plain laws.
-/
namespace Go.Proofs.YtjoglnjpgkobeaaGreatDoor
open Go Go.RowKit
set_option linter.all false
set_option linter.unusedVariables false
set_option linter.unusedSimpArgs false
set_option linter.unusedVariables false
set_option linter.unusedSimpArgs false

def tU : ByteArray := ⟨#[117]⟩
def tW : ByteArray := ⟨#[119]⟩
def tC : ByteArray := ⟨#[99]⟩
def xOne : X := .mk 1 tE 0 0 1 []
def iU (of : ByteArray) : Itm := .mk 7 tU of [] [] [] [] [] []
def iW (nm : ByteArray) : Itm := .mk 2 nm tE [xOne] [] [] [] [] []
def mA (of : ByteArray) : Mdl := ⟨tA, [], [], [iU of]⟩
def mB : Mdl := ⟨tB, [], [], []⟩
def fF : List Mdl := [mA tB, mB]
def fG : List Mdl := [⟨tA, [], [], [iW tW, iW tW]⟩]
def fH : List Mdl := [mA tA]
theorem nameP_U : nameP tU := ⟨by decide, by decide, by decide, by decide⟩
theorem nameP_W : nameP tW := ⟨by decide, by decide, by decide, by decide⟩
theorem may_xOne : MayX xOne := .mk _ ⟨.inl ⟨.inl rfl, rfl⟩, .inr (.inr (.inr ⟨by decide, rfl⟩)), .inr ⟨rfl, by decide, by decide, .inl rfl⟩, .inr ⟨by unfold isNamed; decide, rfl⟩⟩ (fun y hy => by cases hy)
theorem may_iU {of : ByteArray} (h : nameP of) : MayI (iU of) := .mk _ ⟨by show (1 : Int) ≤ 7; decide, by show (7 : Int) ≤ 10; decide, .inl ⟨(show (7 : Int) ≠ 4 ∧ (7 : Int) ≠ 5 ∧ (7 : Int) ≠ 6 ∧ (7 : Int) ≠ 8 by decide), nameP_U⟩, .inl ⟨.inl rfl, h⟩, rfl, (fun h => absurd h (show ¬ (7 : Int) = 4 by decide)), .inr (.inr rfl), .inr (.inr rfl), .inr rfl, .inl rfl⟩
  (fun y hy => by cases hy) (fun y hy => by cases hy) (fun y hy => by cases hy) (fun y hy => by cases hy) (fun y hy => by cases hy) (fun y hy => by cases hy)
theorem may_iW {nm : ByteArray} (h : nameP nm) : MayI (iW nm) := .mk _ ⟨by show (1 : Int) ≤ 2; decide, by show (2 : Int) ≤ 10; decide, .inl ⟨(show (2 : Int) ≠ 4 ∧ (2 : Int) ≠ 5 ∧ (2 : Int) ≠ 6 ∧ (2 : Int) ≠ 8 by decide), h⟩, .inr ⟨(show ¬ ((2 : Int) = 7 ∨ (2 : Int) = 9) by decide), rfl⟩, rfl, (fun h => absurd h (show ¬ (2 : Int) = 4 by decide)), .inr (.inr rfl), .inr (.inr rfl), .inr rfl, .inr ⟨rfl, rfl⟩⟩
  (all_one may_xOne) (fun y hy => by cases hy) (fun y hy => by cases hy) (fun y hy => by cases hy) (fun y hy => by cases hy) (fun y hy => by cases hy)
theorem may_mA {of : ByteArray} (h : nameP of) : MayM (mA of) := ⟨nameP_A, (fun y hy => by cases hy), (fun y hy => by cases hy), all_one (may_iU h)⟩
theorem may_mB : MayM mB := ⟨nameP_B, (fun y hy => by cases hy), (fun y hy => by cases hy), (fun y hy => by cases hy)⟩
theorem checkF_F : checkF fF = 0 := by
  unfold checkF
  rw [if_neg (by decide), yes_iff.2 (show ∀ m, m ∈ fF → MayM m from all_two (may_mA nameP_B) may_mB)]
  decide
theorem checkF_G : checkF fG = 0 := by
  unfold checkF
  rw [if_neg (by decide), yes_iff.2 (show ∀ m, m ∈ fG → MayM m from all_one (show MayM ⟨tA, [], [], [iW tW, iW tW]⟩ from ⟨nameP_A, (fun y hy => by cases hy), (fun y hy => by cases hy), all_two (may_iW nameP_W) (may_iW nameP_W)⟩))]
  decide
theorem checkF_H : checkF fH = 0 := by
  unfold checkF
  rw [if_neg (by decide), yes_iff.2 (show ∀ m, m ∈ fH → MayM m from all_one (may_mA nameP_A))]
  decide

theorem ab_ne : ¬ tA = tB := fun h => absurd (congrArg ByteArray.data h) (by decide)
theorem cA_ne : ¬ tA = tC := fun h => absurd (congrArg ByteArray.data h) (by decide)
theorem cB_ne : ¬ tB = tC := fun h => absurd (congrArg ByteArray.data h) (by decide)
theorem uses_mA (of : ByteArray) : usesM (mA of) = [of] := by
  have h : ofIs (mA of).items = [of] := by show ofIs [iU of] = [of]; simp [ofIs, ofI, iU]
  unfold usesM
  rw [h]
  exact addOne_out (by simp)
theorem uses_mB : usesM mB = [] := by
  have h : ofIs mB.items = [] := rfl
  unfold usesM
  rw [h]; rfl
theorem tn_iU (of : ByteArray) : tnIs [iU of] = [tU] := by simp [tnIs, tnI, iU, isDecl]
theorem right_mA (of : ByteArray) : rightM (mA of) := by
  refine ⟨?_, ?_, ?_⟩
  · show tokIs [iU of]
    simp [tokIs, tokI, iU]
  · show (tnIs [iU of] ++ []).Nodup
    rw [tn_iU]; simp
  · show inIs _ [iU of]
    simp [inIs, inI, iU, lpSs]
theorem right_mB : rightM mB := by
  refine ⟨?_, ?_, ?_⟩
  · show tokIs []
    simp [tokIs]
  · show (tnIs [] ++ []).Nodup
    simp [tnIs]
  · show inIs _ []
    simp [inIs]
theorem next_F0 : nextM fF [] = some mB := by
  refine next_at (f := fF) (i := 1) (by decide) (show readyM [] mB from ⟨by simp, fun s hs => by rw [uses_mB] at hs; cases hs⟩) (fun j h' hj => ?_)
  obtain rfl : j = 0 := by omega
  show ¬ readyM [] (mA tB)
  intro h
  have := h.2 tB (by rw [uses_mA]; simp)
  cases this
theorem next_F1 : nextM fF [tB] = some (mA tB) := by
  refine next_at (f := fF) (i := 0) (by decide) (show readyM [tB] (mA tB) from ⟨fun h => ab_ne (List.mem_singleton.1 h), fun s hs => by rw [uses_mA] at hs; exact hs⟩) (fun j h' hj => by omega)
theorem order_F : orderF fF = [tB, tA] := by
  unfold orderF
  show orderN fF 2 [] = _
  unfold orderN
  rw [next_F0]
  show orderN fF 1 [tB] = _
  unfold orderN
  rw [next_F1]
  rfl
theorem names_F : namesOk fF = 0 := by
  have h := ok_end (f := fF) ⟨by show [tA, tB].Nodup; simp [ab_ne], all_two (right_mA tB) right_mB⟩ (fun m hm s hs => by
    rcases List.mem_cons.1 hm with rfl | hm
    · rw [uses_mA] at hs; rw [List.mem_singleton.1 hs]; show tB ∈ [tA, tB]; simp
    · rw [List.mem_singleton.1 hm, uses_mB] at hs; cases hs)
  rw [h, order_F]
  rfl
theorem checkN_F : checkN fF = 0 := by unfold checkN; rw [if_pos checkF_F]; exact names_F
theorem checkN_G : checkN fG = 70 := by
  unfold checkN
  rw [if_pos checkF_G]
  refine ok_70 fun h => ?_
  have h1 := (h.2 _ (List.mem_singleton.2 rfl)).2.1
  have h2 : ownN ⟨tA, [], [], [iW tW, iW tW]⟩ = [tW, tW] := by show tnIs [iW tW, iW tW] ++ [] = _; simp [tnIs, tnI, iW, isDecl]
  rw [h2] at h1
  simp at h1
theorem next_H : nextM fH [] = none := by
  refine next_no fun x hx h => ?_
  rw [List.mem_singleton.1 hx] at h
  have := h.2 tA (by rw [uses_mA]; simp)
  cases this
theorem checkN_H : checkN fH = 72 := by
  unfold checkN
  rw [if_pos checkF_H]
  have h := ok_end (f := fH) ⟨by show [tA].Nodup; simp, all_one (right_mA tA)⟩ (fun m hm s hs => by
    rw [List.mem_singleton.1 hm, uses_mA] at hs; rw [List.mem_singleton.1 hs]; show tA ∈ [tA]; simp)
  have ho : orderF fH = [] := order_fuel _ next_H
  rw [h, ho]
  rfl
theorem find_FB : findM fF tB = some mB := findM_at (f := fF) (i := 1) (by decide) rfl (fun j h' hj => by
  obtain rfl : j = 0 := by omega
  exact ab_ne)
theorem find_FC : findM fF tC = none := findM_no (by
  intro x hx
  rcases List.mem_cons.1 hx with rfl | hx
  · exact cA_ne
  · rw [List.mem_singleton.1 hx]; exact cB_ne)
theorem reach_F {s : ByteArray} (h : Reach fF tB s) : s = tB := by
  induction h with
  | refl => rfl
  | step _ hm hc hs ih =>
    rw [ih, find_FB] at hm
    cases hm
    rw [uses_mB] at hc
    cases hc
theorem below_F : belowN fF tB = [tB] := by
  unfold belowN
  rw [order_F, List.filter_cons_of_pos (by exact yes_iff.2 .refl), List.filter_cons_of_neg (by rw [yes_no.2 (fun h => ab_ne (reach_F h))]; decide)]
  rfl
theorem vi_iU {of : ByteArray} (h : of.size < 4294967281) : VI (iU of) := .mk _ (show tU.size < 4294967281 by decide) h (fun y hy => by cases hy) (fun y hy => by cases hy) (fun y hy => by cases hy) (fun y hy => by cases hy) (fun y hy => by cases hy) (fun y hy => by cases hy)
theorem vx_xOne : VX xOne := .mk _ (show (0 : Int) ≤ 1 by decide) (show (1 : Int) < 18446744073709551616 by decide) (show tE.size < 4294967281 by decide) (fun y hy => by cases hy)
theorem vi_iW {nm : ByteArray} (h : nm.size < 4294967281) : VI (iW nm) := .mk _ h (show tE.size < 4294967281 by decide) (all_one vx_xOne) (fun y hy => by cases hy) (fun y hy => by cases hy) (fun y hy => by cases hy) (fun y hy => by cases hy) (fun y hy => by cases hy)
theorem vm_F : ∀ m, m ∈ fF → VM m := all_two ⟨by decide, (fun y hy => by cases hy), (fun y hy => by cases hy), all_one (vi_iU (by decide))⟩ ⟨by decide, (fun y hy => by cases hy), (fun y hy => by cases hy), (fun y hy => by cases hy)⟩
theorem vm_G : ∀ m, m ∈ fG → VM m := all_one ⟨by decide, (fun y hy => by cases hy), (fun y hy => by cases hy), all_two (vi_iW (by decide)) (vi_iW (by decide))⟩
theorem vm_H : ∀ m, m ∈ fH → VM m := all_one ⟨by decide, (fun y hy => by cases hy), (fun y hy => by cases hy), all_one (vi_iU (by decide))⟩

end Go.Proofs.YtjoglnjpgkobeaaGreatDoor

/-
  NAMES: the laws' live: the examples, in memory.
-/
namespace Go.Proofs.YtjoglnjpgkobeaaGreatDoor
open Go Go.RowKit
set_option linter.all false
set_option linter.unusedVariables false
set_option linter.unusedSimpArgs false
set_option linter.unusedVariables false
set_option linter.unusedSimpArgs false
attribute [local go_sem] run_store_one

theorem Sl.pair {α : Type} {R : α → List Value → Prop} {w : World} {B sz g : Nat} {x y : α} {cs ds : List Value} (hb : g < B) (hl : cs.length = sz) (hl2 : ds.length = sz) (hc : Cells w g 0 (cs ++ ds)) (ho : ∀ v, v ∈ cs ++ ds → v.oneCell' = true) (hr : R x cs) (hr2 : R y ds) :
    Sl R w B sz [x, y] (.slice (some ⟨g, 0, none⟩) 2 2) := by
  refine ⟨_, 2, rfl, Nat.le_refl _, fun k hk => ?_⟩
  match k, hk with
  | 0, _ => exact ⟨g, 0, cs, rfl, hb, hl, fun j v hj => by
      have := hc j v (by rw [List.getElem?_append_left (List.getElem?_eq_some_iff.1 hj).1]; exact hj)
      simpa using this, fun v hv => ho v (List.mem_append_left _ hv), hr⟩
  | 1, _ => exact ⟨g, 0, ds, rfl, hb, hl2, fun j v hj => by
      have := hc (cs.length + j) v (by rw [List.getElem?_append_right (by omega), Nat.add_sub_cancel_left]; exact hj)
      rw [hl] at this
      simpa using this, fun v hv => ho v (List.mem_append_right _ hv), hr2⟩

def cU (of : ByteArray) : List Value := [.int .i64 7, .string tU, .string of, .slice none 0 0, .slice none 0 0, .slice none 0 0, .slice none 0 0, .slice none 0 0, .slice none 0 0]
def cX : List Value := [.int .i64 1, .string tE, .int .i64 0, .int .i64 0, .int .u64 1, .slice none 0 0]
def cW (nm : ByteArray) (g : Nat) : List Value := [.int .i64 2, .string nm, .string tE, .slice (some ⟨g, 0, none⟩) 1 1, .slice none 0 0, .slice none 0 0, .slice none 0 0, .slice none 0 0, .slice none 0 0]
def cM (nm : ByteArray) (v : Value) : List Value := [.string nm, .slice none 0 0, .slice none 0 0, v]
section
variable {w : World} {B : Nat}
theorem ri_iU (of : ByteArray) : RI w B (iU of) (cU of) := RI_iff.2 ⟨_, _, _, _, _, _, rfl, Sl.nil, Sl.nil, Sl.nil, Sl.nil, Sl.nil, Sl.nil⟩
theorem rx_xOne : RX w B xOne cX := RX_iff.2 ⟨_, rfl, Sl.nil⟩
theorem ri_iW {g : Nat} (nm : ByteArray) (hb : g < B) (hc : Cells w g 0 cX) : RI w B (iW nm) (cW nm g) := RI_iff.2 ⟨_, _, _, _, _, _, rfl, Sl.one hb rfl hc (by simp [cX, Value.oneCell']) rx_xOne, Sl.nil, Sl.nil, Sl.nil, Sl.nil, Sl.nil⟩
theorem rm_mA {g : Nat} (of : ByteArray) (hb : g < B) (hc : Cells w g 0 (cU of)) : RM w B (mA of) (cM tA (.slice (some ⟨g, 0, none⟩) 1 1)) := ⟨_, _, _, rfl, Sl.nil, Sl.nil, Sl.one hb rfl hc (by simp [cU, Value.oneCell']) (ri_iU of)⟩
theorem rm_mB : RM w B mB (cM tB (.slice none 0 0)) := ⟨_, _, _, rfl, Sl.nil, Sl.nil, Sl.nil⟩
end

set_option maxRecDepth 20000 in
theorem wire7_any (nm : ByteArray) (w : World) :
    Calls Tryz.prog 24 #[.string nm] w fun e w' => ∃ g, e = .returned (.agg #[.int .i64 2, .string nm, .string ⟨#[]⟩, .slice (some ⟨g, 0, none⟩) 1 1, .slice none 0 0, .slice none 0 0, .slice none 0 0, .slice none 0 0, .slice none 0 0]) ∧ Blk w' g 49 cX ∧ w.heap.size ≤ g ∧ Ext w w' := by
  obtain ⟨W1, hW1, hx1, hb1⟩ := box9 w (.int .i64 0) (.string ⟨#[]⟩) (.string ⟨#[]⟩) (.slice none 0 0) (.slice none 0 0) (.slice none 0 0) (.slice none 0 0) (.slice none 0 0) (.slice none 0 0) 53
  have hV1 := hW1.symm
  have HB := hide hb1
  have HX := hide hx1
  have G1 := hide (one7_any W1)
  clear hW1 hb1 hx1
  go_enter Tryz.func24, Tryz.ntmps24
  go_wp2_with fail
  go_at_call 25
  refine G1.out.mono ?_
  rintro _ w2 ⟨rfl, hx2⟩
  obtain ⟨W3, hW3, hx3, hb3⟩ := box6 w2 (.int .i64 1) (.string ⟨#[]⟩) (.int .i64 0) (.int .i64 0) (.int .u64 1) (.slice none 0 0) 49
  have hV3 := hW3.symm
  have hb := HB.out.ext (hx2.trans hx3)
  obtain ⟨p0, p1, p2, p3, p4, p5, p6, p7, p8⟩ := hb.get9
  obtain ⟨q0, q1, q2, q3, q4, q5, q6, q7, q8⟩ := hb.free9
  have hbs := hb.store9 (.int .i64 2) (.string nm) (.string ⟨#[]⟩) (.slice (some ⟨w2.heap.size, 0, none⟩) 1 1) (.slice none 0 0) (.slice none 0 0) (.slice none 0 0) (.slice none 0 0) (.slice none 0 0)
  obtain ⟨Wc, hWc⟩ : ∃ Wc, Wc = (((((((((W3.setCell ⟨w.heap.size, 0, none⟩ (.int .i64 2)).setCell ⟨w.heap.size, 1, none⟩ (.string nm)).setCell ⟨w.heap.size, 2, none⟩ (.string ⟨#[]⟩)).setCell ⟨w.heap.size, 3, none⟩ (.slice (some ⟨w2.heap.size, 0, none⟩) 1 1)).setCell ⟨w.heap.size, 4, none⟩ (.slice none 0 0)).setCell ⟨w.heap.size, 5, none⟩ (.slice none 0 0)).setCell ⟨w.heap.size, 6, none⟩ (.slice none 0 0)).setCell ⟨w.heap.size, 7, none⟩ (.slice none 0 0)).setCell ⟨w.heap.size, 8, none⟩ (.slice none 0 0)) := ⟨_, rfl⟩
  rw [← hWc] at hbs
  have hxw := (HX.out.trans hx2).trans hx3
  have hxc : Ext w Wc := by
    rw [hWc]
    exact (((((((((hxw.setCell (Nat.le_refl _) _).setCell (Nat.le_refl _) _).setCell (Nat.le_refl _) _).setCell (Nat.le_refl _) _).setCell (Nat.le_refl _) _).setCell (Nat.le_refl _) _).setCell (Nat.le_refl _) _).setCell (Nat.le_refl _) _).setCell (Nat.le_refl _) _)
  have hlt : w.heap.size < w2.heap.size := Nat.lt_of_lt_of_le HB.out.lt hx2.size
  have hnn : w2.heap.size ≠ w.heap.size := by omega
  have hb3c : Blk Wc w2.heap.size 49 cX := by
    rw [hWc]
    exact ((((((((hb3.far hnn _).far hnn _).far hnn _).far hnn _).far hnn _).far hnn _).far hnn _).far hnn _).far hnn _
  obtain ⟨r0, r1, r2, r3, r4, r5, r6, r7, r8⟩ := hbs.get9
  have hVc := hWc.symm
  have FIN := hide (And.intro hb3c hxc)
  clear hb hbs hxw hxc hb3c hb3 hx3 hx2 hW3 hWc
  go_wp2_with fail
  refine bodyPost_ret (v := .agg #[.int .i64 2, .string nm, .string ⟨#[]⟩, .slice (some ⟨w2.heap.size, 0, none⟩) 1 1, .slice none 0 0, .slice none 0 0, .slice none 0 0, .slice none 0 0, .slice none 0 0]) ?_ rfl ⟨_, rfl, FIN.out.1, by omega, FIN.out.2⟩
  simp [results, Tryz.results24, go_sem, r0, r1, r2, r3, r4, r5, r6, r7, r8]

/-- A row of texts, laid. -/
theorem sstr_blk {w : World} {g : Nat} (l : List ByteArray) (hb : Blk w g 9 (l.map .string)) : SStr w l (.slice (some ⟨g, 0, none⟩) l.length l.length) :=
  ⟨_, _, rfl, Nat.le_refl _, fun k hk => ⟨g, 0, rfl, by rw [Nat.zero_add, hb.cell k, List.getElem?_map, List.getElem?_eq_getElem hk]; rfl⟩⟩

set_option maxRecDepth 200000 in
set_option maxHeartbeats 8000000 in
theorem live7_any (w : World) (hT : Tabs w) : Calls Tryz.prog 8 #[] w fun e w' => e = .returned (.bool true) ∧ Ext w w' := by
  have HT := hide hT
  clear hT
  go_enter Tryz.func8, Tryz.ntmps8
  go_wp2_with fail
  go_at_call 28
  refine (inst7_any tU tB w).mono ?_
  rintro _ w1 ⟨rfl, hx1⟩
  obtain ⟨W2, hW2, hx2, hb2⟩ := box9 w1 (.int .i64 7) (.string tU) (.string tB) (.slice none 0 0) (.slice none 0 0) (.slice none 0 0) (.slice none 0 0) (.slice none 0 0) (.slice none 0 0) 53
  have hV2 := hW2.symm
  have HB2 := hide hb2
  have X2 := hide (hx1.trans hx2)
  clear hW2 hb2 hx1 hx2
  go_wp2_with fail
  go_at_call 29
  refine (module7_any tA _ _ _ W2).mono ?_
  rintro _ w3 ⟨rfl, hx3⟩
  go_wp2_with fail
  go_at_call 29
  refine (module7_any tB _ _ _ w3).mono ?_
  rintro _ w4 ⟨rfl, hx4⟩
  obtain ⟨W5, hW5, hx5, hb5⟩ := box8 w4 (.string tA) (.slice none 0 0) (.slice none 0 0) (.slice (some ⟨w1.heap.size, 0, none⟩) 1 1) (.string tB) (.slice none 0 0) (.slice none 0 0) (.slice none 0 0) 33
  have hV5 := hW5.symm
  obtain ⟨W6, hW6, hx6, hb6⟩ := box1 W5 (.slice none 0 0) 24
  have hV6 := hW6.symm
  have m6 := hb6.get1
  have n6 := hb6.free1
  obtain ⟨W7, hW7⟩ : ∃ W7, W7 = W6.setCell ⟨W5.heap.size, 0, none⟩ (.slice (some ⟨w4.heap.size, 0, none⟩) 2 2) := ⟨_, rfl⟩
  have hV7 := hW7.symm
  have hb7 : Blk W7 W5.heap.size 24 [.slice (some ⟨w4.heap.size, 0, none⟩) 2 2] := by rw [hW7]; exact hb6.store1 _
  have hx57 : Ext W5 W7 := by rw [hW7]; exact hx6.setCell (Nat.le_refl _) _
  have hx27 : Ext W2 W7 := (hx3.trans hx4).trans (hx5.trans hx57)
  have SF := hide (show Sl (RM W7 W7.heap.size) W7 W7.heap.size 4 fF (.slice (some ⟨w4.heap.size, 0, none⟩) 2 2) from
    Sl.pair (Nat.lt_of_lt_of_le hb5.lt hx57.size) rfl rfl (hb5.ext hx57).cells (by simp [cM, Value.oneCell']) (rm_mA tB (Nat.lt_of_lt_of_le HB2.out.lt hx27.size) (HB2.out.ext hx27).cells) rm_mB)
  have BF := hide (And.intro hb7 (hb5.ext hx57))
  have RA := hide (show RM W7 W7.heap.size (mA tB) (cM tA (.slice (some ⟨w1.heap.size, 0, none⟩) 1 1)) from rm_mA tB (Nat.lt_of_lt_of_le HB2.out.lt hx27.size) (HB2.out.ext hx27).cells)
  have X7 := hide (X2.out.trans hx27)
  clear hW5 hx5 hb5 hW6 hx6 hb6 hW7 hb7 hx57 hx27 hx3 hx4 HB2 X2
  go_wp2_with fail
  go_at_call 24
  refine (wire7_any tW W7).mono ?_
  rintro _ w8 ⟨ga, rfl, hba, hga, hx8⟩
  clear hV2 hV5 hV6 hV7 m6 n6
  go_wp2_with fail
  go_at_call 24
  refine (wire7_any tW w8).mono ?_
  rintro _ w9 ⟨gb, rfl, hbb, hgb, hx9⟩
  obtain ⟨W10, hW10⟩ : ∃ W10, W10 = w9.alloc (.cells #[.int .i64 2, .string tW, .string ⟨#[]⟩, .slice (some ⟨ga, 0, none⟩) 1 1, .slice none 0 0, .slice none 0 0, .slice none 0 0, .slice none 0 0, .slice none 0 0, .int .i64 2, .string tW, .string ⟨#[]⟩, .slice (some ⟨gb, 0, none⟩) 1 1, .slice none 0 0, .slice none 0 0, .slice none 0 0, .slice none 0 0, .slice none 0 0] 53) := ⟨_, rfl⟩
  have hV10 := hW10.symm
  have hb10 : Blk W10 w9.heap.size 53 (cW tW ga ++ cW tW gb) := by rw [hW10]; exact Blk.new w9 _ (cW tW ga ++ cW tW gb)
  have hx10 : Ext w9 W10 := by rw [hW10]; exact Ext.new _ _
  have HA := hide (And.intro ((hba.ext hx9).ext hx10) (And.intro (hbb.ext hx10) hb10))
  have X10 := hide (((X7.out.trans hx8).trans hx9).trans hx10)
  have Y10 := hide ((hx8.trans hx9).trans hx10)
  clear hba hbb hga hgb hx8 hx9 hx10 hb10 hW10
  go_wp2_with fail
  go_at_call 29
  refine (module7_any tA _ _ _ W10).mono ?_
  rintro _ w11 ⟨rfl, hx11⟩
  obtain ⟨W12, hW12, hx12, hb12⟩ := box4 w11 (.string tA) (.slice none 0 0) (.slice none 0 0) (.slice (some ⟨w9.heap.size, 0, none⟩) 2 2) 33
  have hV12 := hW12.symm
  obtain ⟨W13, hW13, hx13, hb13⟩ := box1 W12 (.slice none 0 0) 24
  have hV13 := hW13.symm
  have m13 := hb13.get1
  have n13 := hb13.free1
  obtain ⟨W14, hW14⟩ : ∃ W14, W14 = W13.setCell ⟨W12.heap.size, 0, none⟩ (.slice (some ⟨w11.heap.size, 0, none⟩) 1 1) := ⟨_, rfl⟩
  have hV14 := hW14.symm
  have hb14 : Blk W14 W12.heap.size 24 [.slice (some ⟨w11.heap.size, 0, none⟩) 1 1] := by rw [hW14]; exact hb13.store1 _
  have hx134 : Ext W12 W14 := by rw [hW14]; exact hx13.setCell (Nat.le_refl _) _
  have hx104 : Ext W10 W14 := hx11.trans (hx12.trans hx134)
  have SG := hide (show Sl (RM W14 W14.heap.size) W14 W14.heap.size 4 fG (.slice (some ⟨w11.heap.size, 0, none⟩) 1 1) from
    Sl.one (Nat.lt_of_lt_of_le hb12.lt hx134.size) rfl (hb12.ext hx134).cells (by simp [Value.oneCell']) ⟨_, _, _, rfl, Sl.nil, Sl.nil,
      Sl.pair (Nat.lt_of_lt_of_le HA.out.2.2.lt hx104.size) rfl rfl (HA.out.2.2.ext hx104).cells (by simp [cW, Value.oneCell'])
        (ri_iW tW (Nat.lt_of_lt_of_le HA.out.1.lt hx104.size) (HA.out.1.ext hx104).cells) (ri_iW tW (Nat.lt_of_lt_of_le HA.out.2.1.lt hx104.size) (HA.out.2.1.ext hx104).cells)⟩)
  have BG := hide hb14
  have X14 := hide (X10.out.trans hx104)
  have Y14 := hide (Y10.out.trans hx104)
  clear hW12 hx12 hb12 hW13 hx13 hb13 hW14 hb14 hx134 hx104 hx11 HA X10 Y10 hV10
  go_wp2_with fail
  go_at_call 28
  refine (inst7_any tU tA W14).mono ?_
  rintro _ w15 ⟨rfl, hx15⟩
  obtain ⟨W16, hW16, hx16, hb16⟩ := box9 w15 (.int .i64 7) (.string tU) (.string tA) (.slice none 0 0) (.slice none 0 0) (.slice none 0 0) (.slice none 0 0) (.slice none 0 0) (.slice none 0 0) 53
  have hV16 := hW16.symm
  clear hV12 hV13 hV14 m13 n13 hW16
  go_wp2_with fail
  go_at_call 29
  refine (module7_any tA _ _ _ W16).mono ?_
  rintro _ w17 ⟨rfl, hx17⟩
  obtain ⟨W18, hW18, hx18, hb18⟩ := box4 w17 (.string tA) (.slice none 0 0) (.slice none 0 0) (.slice (some ⟨w15.heap.size, 0, none⟩) 1 1) 33
  have hV18 := hW18.symm
  obtain ⟨W19, hW19, hx19, hb19⟩ := box1 W18 (.slice none 0 0) 24
  have hV19 := hW19.symm
  have m19 := hb19.get1
  have n19 := hb19.free1
  obtain ⟨W20, hW20⟩ : ∃ W20, W20 = W19.setCell ⟨W18.heap.size, 0, none⟩ (.slice (some ⟨w17.heap.size, 0, none⟩) 1 1) := ⟨_, rfl⟩
  have hV20 := hW20.symm
  have hb20 : Blk W20 W18.heap.size 24 [.slice (some ⟨w17.heap.size, 0, none⟩) 1 1] := by rw [hW20]; exact hb19.store1 _
  have hx180 : Ext W18 W20 := by rw [hW20]; exact hx19.setCell (Nat.le_refl _) _
  have hx160 : Ext W16 W20 := hx17.trans (hx18.trans hx180)
  have hx140 : Ext W14 W20 := hx15.trans (hx16.trans hx160)
  have SH := hide (show Sl (RM W20 W20.heap.size) W20 W20.heap.size 4 fH (.slice (some ⟨w17.heap.size, 0, none⟩) 1 1) from
    Sl.one (Nat.lt_of_lt_of_le hb18.lt hx180.size) rfl (hb18.ext hx180).cells (by simp [Value.oneCell']) (rm_mA tA (Nat.lt_of_lt_of_le hb16.lt hx160.size) (hb16.ext hx160).cells))
  have BH := hide hb20
  have X20 := hide (X14.out.trans hx140)
  have SG2 := hide ((SG.out.extRM hx140 (Nat.le_refl _)).moreRM hx140.size)
  have SF2 := hide ((SF.out.extRM (Y14.out.trans hx140) (Nat.le_refl _)).moreRM (Y14.out.trans hx140).size)
  have BF2 := hide (And.intro (BF.out.1.ext (Y14.out.trans hx140)) (BF.out.2.ext (Y14.out.trans hx140)))
  have BG2 := hide (BG.out.ext hx140)
  have RA2 := hide ((RA.out.ext (Y14.out.trans hx140) (Nat.le_refl _)).more (Y14.out.trans hx140).size)
  clear hx16 hb16 hW18 hx18 hb18 hW19 hx19 hb19 hW20 hb20 hx180 hx160 hx140 hx15 hx17 SG SF BF BG RA X14 Y14 X7
  have GO := hide (orderN_any W20.heap.size fF W20 _ (HT.out.ext X20.out) SF2.out (Nat.le_refl _) (by decide) vm_F)
  have y0 := BF2.out.1.get1
  go_wp2_with fail
  go_at_call 18
  refine GO.out.mono ?_
  rintro _ w21 ⟨v, rfl, hx21, ho, -⟩
  rw [checkN_F]
  have HOW := hide (SStr.of_row (ho checkN_F))
  have Y21 := hide hx21
  have y1 := (BF2.out.1.ext hx21).get1
  clear hx21 ho GO y0 hV16 hV18 hV19 hV20 m19 n19
  have GB := hide (below_any W20.heap.size fF tB w21 _ (HT.out.ext (X20.out.trans Y21.out)) (SF2.out.extRM Y21.out (Nat.le_refl _)) Y21.out.size (by decide) vm_F)
  go_wp2_with fail
  go_at_call 20
  refine GB.out.mono ?_
  rintro _ w22 ⟨v2, c2, rfl, hx22, hc2, hb2, -⟩
  obtain rfl : c2 = 0 := by rw [hc2, if_pos checkN_F, find_FB]; rfl
  have HBW := hide (SStr.of_row (hb2 rfl))
  have Y22 := hide (Y21.out.trans hx22)
  have HOW2 := hide (HOW.out.ext hx22)
  have y2 := (BF2.out.1.ext Y22.out).get1
  clear hx22 hc2 hb2 GB y1 HOW
  have GF := hide (find_any W20.heap.size fF tB w22 _ (SF2.out.extRM Y22.out (Nat.le_refl _)) Y22.out.size (by decide))
  rw [find_FB] at GF
  go_wp2_with fail
  go_at_call 12
  refine GF.out.mono ?_
  rintro _ w23 ⟨c0, c1, c2, c3, rfl, hR, hx23⟩
  obtain ⟨u1, u2, u3, hcs, hp1, hq1, hi1⟩ := hR
  simp only [List.cons.injEq, and_true] at hcs
  obtain ⟨rfl, rfl, rfl, rfl⟩ := hcs
  have o1 := hp1.oneCell
  have o2 := hq1.oneCell
  have o3 := hi1.oneCell
  obtain ⟨Wb, W24, hVb, ⟨p0, p1, p2, p3⟩, ⟨q0, q1, q2, q3⟩, hVc, hb24, hx24, -⟩ := varM w23 (.string tB) c1 c2 c3
  have Y24 := hide ((Y22.out.trans hx23).trans hx24)
  have HOW3 := hide ((HOW2.out.ext hx23).ext hx24)
  have HBW3 := hide ((HBW.out.ext hx23).ext hx24)
  have B24 := hide hb24
  have y4 := (BF2.out.1.ext Y24.out).get1
  clear hp1 hq1 hi1 hb24 hx24 hx23 GF y2 HOW2 HBW
  rw [show ((some mB).getD zeroM).name = tB from rfl, show (some mB).isSome = true from rfl]
  have GF := hide (find_any W20.heap.size fF tC W24 _ (SF2.out.extRM Y24.out (Nat.le_refl _)) Y24.out.size (by decide))
  rw [find_FC] at GF
  go_wp2_with fail
  go_at_call 12
  refine GF.out.mono ?_
  rintro _ w25 ⟨d0, d1, d2, d3, rfl, hR, hx25⟩
  clear hVb hVc p0 p1 p2 p3 q0 q1 q2 q3 o1 o2 o3
  obtain ⟨u1, u2, u3, hcs, hp1, hq1, hi1⟩ := hR
  simp only [List.cons.injEq, and_true] at hcs
  obtain ⟨rfl, rfl, rfl, rfl⟩ := hcs
  have o1 := hp1.oneCell
  have o2 := hq1.oneCell
  have o3 := hi1.oneCell
  rw [show ((none : Option Mdl).getD zeroM).name = tE from rfl, show (none : Option Mdl).isSome = false from rfl]
  obtain ⟨Wb, W26, hVb, ⟨p0, p1, p2, p3⟩, ⟨q0, q1, q2, q3⟩, hVc, hb26, hx26, -⟩ := varM w25 (.string tE) d1 d2 d3
  obtain ⟨W27, hW27, hx27, hb27⟩ := box2 W26 (.string ⟨#[98]⟩) (.string ⟨#[97]⟩) 9
  have hV27 := hW27.symm
  have Y27 := hide (((Y24.out.trans hx25).trans hx26).trans hx27)
  have HBW4 := hide (((HBW3.out.ext hx25).ext hx26).ext hx27)
  have B27 := hide (((B24.out.ext hx25).ext hx26).ext hx27)
  have HOT := hide (show Calls Tryz.prog 15 #[v, .slice (some ⟨W26.heap.size, 0, none⟩) 2 2] W27 fun e w' => e = .returned (.bool true) ∧ Ext W27 w' from
    (refTexts_any (orderF fF) [tB, tA] W27 _ _ (((HOW3.out.ext hx25).ext hx26).ext hx27) (sstr_blk [tB, tA] hb27) (by rw [order_F]; decide) (by decide)).mono fun e w' h => ⟨by rw [h.1, yes_iff.2 order_F], h.2⟩)
  clear hp1 hq1 hi1 hb26 hx26 hx25 hx27 hb27 hW27 GF y4 HOW3 HBW3 B24
  go_wp2_with fail
  go_at_call 15
  refine HOT.out.mono ?_
  rintro _ w28 ⟨rfl, hx28⟩
  clear hVb hVc p0 p1 p2 p3 q0 q1 q2 q3 o1 o2 o3 hV27 HOT
  obtain ⟨W29, hW29, hx29, hb29⟩ := box1 w28 (.string ⟨#[98]⟩) 9
  have hV29 := hW29.symm
  have Y29 := hide ((Y27.out.trans hx28).trans hx29)
  have B29 := hide ((B27.out.ext hx28).ext hx29)
  have HOT := hide (show Calls Tryz.prog 15 #[v2, .slice (some ⟨w28.heap.size, 0, none⟩) 1 1] W29 fun e w' => e = .returned (.bool true) ∧ Ext W29 w' from
    (refTexts_any (belowN fF tB) [tB] W29 _ _ ((HBW4.out.ext hx28).ext hx29) (sstr_blk [tB] hb29) (by rw [below_F]; decide) (by decide)).mono fun e w' h => ⟨by rw [h.1, yes_iff.2 below_F], h.2⟩)
  clear hW29 hx29 hb29 hx28 HBW4 Y27 B27
  go_wp2_with fail
  go_at_call 15
  refine HOT.out.mono ?_
  rintro _ w30 ⟨rfl, hx30⟩
  have Y30 := hide (Y29.out.trans hx30)
  have B30 := hide (B29.out.ext hx30)
  have y30 := (BF2.out.1.ext Y30.out).get1
  obtain ⟨z0, z1, z2, z3, -, -, -, -⟩ := (BF2.out.2.ext Y30.out).get8
  have GU := hide (uses_any W20.heap.size (mA tB) w30 _ (RA2.out.ext Y30.out (Nat.le_refl _)) Y30.out.size (by decide))
  clear hx30 HOT hV29 Y29 B29
  go_wp2_with fail
  go_at_call 16
  refine GU.out.mono ?_
  rintro _ w31 ⟨v3, rfl, hown, hx31⟩
  obtain ⟨W32, hW32, hx32, hb32⟩ := box1 w31 (.string ⟨#[98]⟩) 9
  have hV32 := hW32.symm
  have Y32 := hide ((Y30.out.trans hx31).trans hx32)
  have B32 := hide ((B30.out.ext hx31).ext hx32)
  have HOT := hide (show Calls Tryz.prog 15 #[v3, .slice (some ⟨w31.heap.size, 0, none⟩) 1 1] W32 fun e w' => e = .returned (.bool true) ∧ Ext W32 w' from
    (refTexts_any (usesM (mA tB)) [tB] W32 _ _ ((SStr.of_row hown).ext hx32) (sstr_blk [tB] hb32) (by rw [uses_mA]; decide) (by decide)).mono fun e w' h => ⟨by rw [h.1, yes_iff.2 (uses_mA tB)], h.2⟩)
  clear hW32 hx32 hb32 hx31 hown GU y30 z0 z1 z2 z3 Y30 B30
  go_wp2_with fail
  go_at_call 15
  refine HOT.out.mono ?_
  rintro _ w33 ⟨rfl, hx33⟩
  have Y33 := hide (Y32.out.trans hx33)
  have b0 := (B32.out.ext hx33).get4.1
  have yg := (BG2.out.ext Y33.out).get1
  have CG := hide (checkN_any W20.heap.size fG w33 _ (HT.out.ext (X20.out.trans Y33.out)) (SG2.out.extRM Y33.out (Nat.le_refl _)) Y33.out.size (by decide) vm_G)
  rw [checkN_G] at CG
  clear hx33 HOT hV32 Y32 B32
  have hb8 : tB.toList = [98] := by rw [ByteArray.toList_eq]; rfl
  go_wp2_with fail
  go_at_call 10
  refine CG.out.mono ?_
  rintro _ w34 ⟨rfl, hx34⟩
  have Y34 := hide (Y33.out.trans hx34)
  have yh := (BH.out.ext Y34.out).get1
  have CH := hide (checkN_any W20.heap.size fH w34 _ (HT.out.ext (X20.out.trans Y34.out)) (SH.out.extRM Y34.out (Nat.le_refl _)) Y34.out.size (by decide) vm_H)
  rw [checkN_H] at CH
  clear hx34 CG yg b0
  go_wp2_with fail
  go_at_call 10
  refine CH.out.mono ?_
  rintro _ w35 ⟨rfl, hx35⟩
  have Y35 := hide (Y34.out.trans hx35)
  have yf := (BF2.out.1.ext Y35.out).get1
  have CF := hide (checkN_any W20.heap.size fF w35 _ (HT.out.ext (X20.out.trans Y35.out)) (SF2.out.extRM Y35.out (Nat.le_refl _)) Y35.out.size (by decide) vm_F)
  rw [checkN_F] at CF
  clear hx35 CH yh
  go_wp2_with fail
  go_at_call 10
  refine CF.out.mono ?_
  rintro _ w36 ⟨rfl, hx36⟩
  have Y36 := hide (X20.out.trans (Y35.out.trans hx36))
  clear hx36 CF yf
  go_wp2_with fail
  go_ret
  exact ⟨rfl, Y36.out⟩

end Go.Proofs.YtjoglnjpgkobeaaGreatDoor

/-
  THE LAWS OF ORDER, PLAIN: what stands behind what; what a module is made of; a file without the rest.
-/
namespace Go.Proofs.YtjoglnjpgkobeaaGreatDoor
open Go Go.RowKit
set_option linter.all false
set_option linter.unusedVariables false
set_option linter.unusedSimpArgs false
set_option linter.unusedVariables false
set_option linter.unusedSimpArgs false

theorem name_once {f : List Mdl} : (namesF f).Nodup → ∀ m, m ∈ f → ∀ m', m' ∈ f → m.name = m'.name → m = m' := by
  induction f with
  | nil => intro _ m hm; cases hm
  | cons a r ih =>
    intro h m hm m' hm' e
    obtain ⟨h1, h2⟩ := List.nodup_cons.1 (show (a.name :: namesF r).Nodup from h)
    rcases List.mem_cons.1 hm with rfl | hm
    · rcases List.mem_cons.1 hm' with rfl | hm'
      · rfl
      · exact absurd (show m.name ∈ namesF r from List.mem_map.2 ⟨m', hm', e.symm⟩) h1
    · rcases List.mem_cons.1 hm' with rfl | hm'
      · exact absurd (show m'.name ∈ namesF r from List.mem_map.2 ⟨m, by assumption, e⟩) h1
      · exact ih h2 m hm m' hm' e
theorem find_mem {f : List Mdl} (h : (namesF f).Nodup) {m : Mdl} (hm : m ∈ f) : findM f m.name = some m := by
  have hs : (findM f m.name).isSome = true := find_isSome.2 (List.mem_map.2 ⟨m, hm, rfl⟩)
  obtain ⟨m', h'⟩ := Option.isSome_iff_exists.1 hs
  obtain ⟨h1, h2⟩ := find_spec2 h'
  rw [h', name_once h m' h1 m hm h2]
/-- THE LAW OF ORDER. -/
theorem order_law {f : List Mdl} (h : checkN f = 0) (i : Nat) (hi : i < (orderF f).length) :
    ∃ m, findM f (orderF f)[i] = some m ∧ m ∈ f ∧ ¬ (orderF f)[i] ∈ (orderF f).take i ∧ ∀ s, s ∈ usesM m → s ∈ (orderF f).take i := by
  obtain ⟨-, hn, -, -, -⟩ := check_facts h
  obtain ⟨m, h1, h2, h3⟩ := (orderF_end f).1.pre i hi
  exact ⟨m, by rw [← h2]; exact find_mem hn h1, h1, ((nodup_take hi).1 (nodup_part (k := i + 1) (orderF_end f).1.nodup)).2, h3⟩
theorem all_in {o l : List ByteArray} (ho : o.Nodup) (hs : ∀ s, s ∈ o → s ∈ l) (hl : l.length ≤ o.length) : ∀ s, s ∈ l → s ∈ o := by
  intro s h
  by_cases hso : s ∈ o
  · exact hso
  · have := nodup_le (o := s :: o) (l := l) (List.nodup_cons.2 ⟨hso, ho⟩) (fun t ht => by
      rcases List.mem_cons.1 ht with rfl | ht
      · exact h
      · exact hs t ht)
    rw [List.length_cons] at this
    omega
theorem order_all {f : List Mdl} (h : checkN f = 0) (s : ByteArray) : s ∈ orderF f ↔ s ∈ namesF f := by
  obtain ⟨-, -, -, -, hl⟩ := check_facts h
  exact ⟨(orderF_end f).1.sub s, all_in (orderF_end f).1.nodup (orderF_end f).1.sub (by simp [namesF, hl]) s⟩
theorem reach_uses {f : List Mdl} (h : checkN f = 0) {top b : ByteArray} {m : Mdl} (hr : Reach f top b) (hm : findM f b = some m) {s : ByteArray} (hs : s ∈ usesM m) : Reach f top s := by
  obtain ⟨-, -, -, hu, -⟩ := check_facts h
  exact .step hr hm hs (find_isSome.2 (hu m (find_spec2 hm).1 s hs))
theorem mem_below {f : List Mdl} (h : checkN f = 0) {top : ByteArray} (ht : (findM f top).isSome = true) (s : ByteArray) : s ∈ belowN f top ↔ Reach f top s := by
  unfold belowN
  rw [List.mem_filter, yes_iff, order_all h]
  exact ⟨fun h => h.2, fun hr => ⟨find_isSome.1 (hr.isIn ht), hr⟩⟩
theorem filter_at {p : ByteArray → Bool} : ∀ (o : List ByteArray) (i : Nat) (hi : i < (o.filter p).length), ∃ j, ∃ hj : j < o.length, o[j] = (o.filter p)[i] ∧ (o.filter p).take i = (o.take j).filter p := by
  intro o
  induction o with
  | nil => intro i hi; simp at hi
  | cons a r ih =>
    intro i hi
    by_cases ha : p a = true
    · have he : (a :: r).filter p = a :: r.filter p := List.filter_cons_of_pos ha
      simp only [he] at hi ⊢
      cases i with
      | zero => exact ⟨0, by simp, by simp, by simp⟩
      | succ i =>
        obtain ⟨j, hj, h1, h2⟩ := ih i (by simpa using hi)
        refine ⟨j + 1, by simpa using hj, ?_, ?_⟩
        · rw [List.getElem_cons_succ, List.getElem_cons_succ]; exact h1
        · rw [List.take_succ_cons, List.take_succ_cons, List.filter_cons_of_pos ha, h2]
    · have he : (a :: r).filter p = r.filter p := List.filter_cons_of_neg ha
      simp only [he] at hi ⊢
      obtain ⟨j, hj, h1, h2⟩ := ih i hi
      refine ⟨j + 1, by simpa using hj, ?_, ?_⟩
      · rw [List.getElem_cons_succ]; exact h1
      · rw [List.take_succ_cons, List.filter_cons_of_neg ha, h2]
theorem below_at {f : List Mdl} (h : checkN f = 0) (top : ByteArray) (i : Nat) (hi : i < (belowN f top).length) :
    ∃ m, findM f (belowN f top)[i] = some m ∧ m ∈ f ∧ ∀ s, s ∈ usesM m → s ∈ (belowN f top).take i := by
  obtain ⟨j, hj, h1, h2⟩ := filter_at (orderF f) i hi
  obtain ⟨m, h3, h4, -, h5⟩ := order_law h j hj
  have hr : Reach f top (orderF f)[j] := by
    have : (belowN f top)[i] ∈ belowN f top := List.getElem_mem hi
    have h6 : (orderF f)[j] = (belowN f top)[i] := h1
    rw [h6]
    unfold belowN at this ⊢
    exact yes_iff.1 (List.mem_filter.1 this).2
  have h1' : (orderF f)[j] = (belowN f top)[i] := h1
  have h2' : (belowN f top).take i = ((orderF f).take j).filter fun s => yes (Reach f top s) := h2
  refine ⟨m, by rw [← h1']; exact h3, h4, fun s hs => ?_⟩
  rw [h2', List.mem_filter, yes_iff]
  exact ⟨h5 s hs, reach_uses h hr h3 hs⟩
theorem order_split {f : List Mdl} (h : checkN f = 0) {p q : List ByteArray} {x : ByteArray} (he : orderF f = p ++ x :: q) {m : Mdl} (hm : findM f x = some m) : ∀ s, s ∈ usesM m → s ∈ p := by
  have hi : p.length < (orderF f).length := by rw [he]; simp
  obtain ⟨m', h1, -, -, h2⟩ := order_law h p.length hi
  have hx : (orderF f)[p.length] = x := by simp [he]
  rw [hx, hm] at h1
  cases h1
  intro s hs
  have := h2 s hs
  rw [he] at this
  simpa using this
/-- The last one is the top. -/
theorem below_last {f : List Mdl} (h : checkN f = 0) {top : ByteArray} (ht : (findM f top).isSome = true) : ∃ pre, belowN f top = pre ++ [top] := by
  have htop : top ∈ orderF f := (order_all h top).2 (find_isSome.1 ht)
  obtain ⟨p, q, he⟩ := List.append_of_mem htop
  have hr : ∀ s, Reach f top s → s ∈ p ∨ s = top := by
    intro s hs
    induction hs with
    | refl => exact .inr rfl
    | step _ hm hc _ ih =>
      rcases ih with hb | rfl
      · obtain ⟨p1, p2, he2⟩ := List.append_of_mem hb
        have := order_split h (p := p1) (q := p2 ++ top :: q) (by rw [he, he2]; simp) hm _ hc
        exact .inl (by rw [he2]; exact List.mem_append.2 (.inl this))
      · exact .inl (order_split h he hm _ hc)
  have hnd : (p ++ top :: q).Nodup := he ▸ (orderF_end f).1.nodup
  obtain ⟨-, h2, h3⟩ := List.nodup_append.1 hnd
  obtain ⟨h4, -⟩ := List.nodup_cons.1 h2
  have hq : (q.filter fun s => yes (Reach f top s)) = [] := by
    rw [List.filter_eq_nil_iff]
    intro s hs hy
    rcases hr s (yes_iff.1 hy) with h' | rfl
    · exact h3 s h' s (List.mem_cons_of_mem _ hs) rfl
    · exact h4 hs
  refine ⟨p.filter fun s => yes (Reach f top s), ?_⟩
  unfold belowN
  rw [he, List.filter_append, List.filter_cons_of_pos (p := fun s => yes (Reach f top s)) (yes_iff.2 .refl), hq]
theorem below_nodup (f : List Mdl) (top : ByteArray) : (belowN f top).Nodup := (orderF_end f).1.nodup.sublist List.filter_sublist
theorem below_sub (f : List Mdl) (top : ByteArray) : List.Sublist (belowN f top) (orderF f) := List.filter_sublist
/-- Every one but the last is used. -/
theorem below_used {f : List Mdl} (h : checkN f = 0) {top : ByteArray} (ht : (findM f top).isSome = true) (i : Nat) (hi : i + 1 < (belowN f top).length) :
    ∃ b m, b ∈ belowN f top ∧ findM f b = some m ∧ (belowN f top)[i] ∈ usesM m := by
  have hm : (belowN f top)[i] ∈ belowN f top := List.getElem_mem _
  have hr := (mem_below h ht _).1 hm
  obtain ⟨pre, he⟩ := below_last h ht
  have hne : ¬ (belowN f top)[i] = top := by
    have hnd := below_nodup f top
    have hl : i < pre.length := by have := hi; rw [he] at this; simp at this; omega
    have hget : (belowN f top)[i] = pre[i] := by simp only [he]; rw [List.getElem_append_left hl]
    rw [hget]
    rw [he] at hnd
    intro e
    exact (List.nodup_append.1 hnd).2.2 pre[i] (List.getElem_mem hl) top (by simp) e
  generalize (belowN f top)[i] = s at hr hne
  cases hr with
  | refl => exact absurd rfl hne
  | step hb hm hc _ => exact ⟨_, _, (mem_below h ht _).2 hb, hm, hc⟩
/-- What is to be found of all stands behind the first that is not it. -/
theorem sub_skip {x a : ByteArray} {r l : List ByteArray} (h : List.Sublist (x :: r) (a :: l)) (hne : a ≠ x) : List.Sublist (x :: r) l := by
  cases h with
  | cons _ h => exact h
  | cons_cons _ _ => exact absurd rfl hne
theorem sub_take {x : ByteArray} {r l : List ByteArray} (h : List.Sublist (x :: r) (x :: l)) : List.Sublist r (x :: l) := (List.sublist_cons_self x r).trans h
theorem sub_nil {x : ByteArray} {r : List ByteArray} : ¬ List.Sublist (x :: r) [] := by intro h; cases h

/-! ## A file without the rest -/
noncomputable def onlyM (f : List Mdl) (l : List ByteArray) : List Mdl := f.filter fun m => yes (m.name ∈ l)
theorem find_filter {α : Type} (p p' q : α → Bool) (m : α) (hq : q m = true) (hp : p' m = true) : ∀ f : List α, (∀ x, x ∈ f → q x = true → p' x = true → p x = true) → f.find? p = some m → (f.filter q).find? p' = some m := by
  intro f
  induction f with
  | nil => intro _ h; cases h
  | cons a r ih =>
    intro h hf
    by_cases ha : p a = true
    · rw [List.find?_cons_of_pos ha] at hf
      cases hf
      rw [List.filter_cons_of_pos hq, List.find?_cons_of_pos hp]
    · rw [List.find?_cons_of_neg ha] at hf
      have hr := ih (fun x hx => h x (List.mem_cons_of_mem _ hx)) hf
      by_cases hqa : q a = true
      · rw [List.filter_cons_of_pos hqa, List.find?_cons_of_neg (fun h' => ha (h a (List.mem_cons_self ..) hqa h'))]
        exact hr
      · rw [List.filter_cons_of_neg hqa]
        exact hr
theorem only_sim {f g : List Mdl} {R : ByteArray → Prop} (hg : g = f.filter fun m => yes (R m.name)) (hu : ∀ m, m ∈ f → R m.name → ∀ s, s ∈ usesM m → R s) :
    ∀ (n k : Nat) (out : List ByteArray), Ordered f out → Ordered g (out.filter fun s => yes (R s)) → f.length ≤ out.length + n → g.length ≤ (out.filter fun s => yes (R s)).length + k →
      orderN g k (out.filter fun s => yes (R s)) = (orderN f n out).filter fun s => yes (R s) := by
  have hmg : ∀ m, m ∈ g ↔ m ∈ f ∧ R m.name := by intro m; rw [hg, List.mem_filter, yes_iff]
  have hready : ∀ out m, m ∈ f → R m.name → (readyM (out.filter fun s => yes (R s)) m ↔ readyM out m) := by
    intro out m hm hR
    unfold readyM
    constructor
    · rintro ⟨h1, h2⟩
      exact ⟨fun h => h1 (List.mem_filter.2 ⟨h, yes_iff.2 hR⟩), fun s hs => (List.mem_filter.1 (h2 s hs)).1⟩
    · rintro ⟨h1, h2⟩
      exact ⟨fun h => h1 (List.mem_filter.1 h).1, fun s hs => List.mem_filter.2 ⟨h2 s hs, yes_iff.2 (hu m hm hR s hs)⟩⟩
  have hnone : ∀ out, nextM f out = none → nextM g (out.filter fun s => yes (R s)) = none := by
    intro out hn
    refine next_no fun m hm hr => ?_
    obtain ⟨h1, h2⟩ := (hmg m).1 hm
    exact next_none hn m h1 ((hready out m h1 h2).1 hr)
  intro n
  induction n with
  | zero =>
    intro k out ho hog hl hlg
    have hn : nextM f out = none := by
      cases hn : nextM f out with
      | none => rfl
      | some m => have := (ho.step hn).le; simp at this; omega
    rw [order_fuel k (hnone out hn)]
    rfl
  | succ n ih =>
    intro k out ho hog hl hlg
    cases hn : nextM f out with
    | none => rw [order_fuel k (hnone out hn), order_fuel (n + 1) hn]
    | some m =>
      have hs : orderN f (n + 1) out = orderN f n (out ++ [m.name]) := by rw [orderN, hn]
      rw [hs]
      obtain ⟨hm, hr⟩ := next_spec hn
      by_cases hR : R m.name
      · have hng : nextM g (out.filter fun s => yes (R s)) = some m := by
          unfold nextM at hn ⊢
          rw [hg]
          exact find_filter _ _ _ m (yes_iff.2 hR) (yes_iff.2 ((hready out m hm hR).2 hr)) f (fun x hx hq hp => yes_iff.2 ((hready out x hx (yes_iff.1 hq)).1 (yes_iff.1 hp))) hn
        have hfa : (out ++ [m.name]).filter (fun s => yes (R s)) = (out.filter fun s => yes (R s)) ++ [m.name] := by
          rw [List.filter_append, List.filter_cons_of_pos (p := fun s => yes (R s)) (yes_iff.2 hR)]; rfl
        have hst := hog.step hng
        cases k with
        | zero => have := hst.le; simp at this; omega
        | succ k =>
          have := ih k (out ++ [m.name]) (ho.step hn) (by rw [hfa]; exact hst) (by simp; omega) (by rw [hfa]; simp; omega)
          rw [← this, hfa, orderN, hng]
      · have hfa : (out ++ [m.name]).filter (fun s => yes (R s)) = out.filter fun s => yes (R s) := by
          rw [List.filter_append, List.filter_cons_of_neg (p := fun s => yes (R s)) (fun h => hR (yes_iff.1 h))]; simp
        have := ih k (out ++ [m.name]) (ho.step hn) (by rw [hfa]; exact hog) (by simp; omega) (by rw [hfa]; exact hlg)
        rw [← this, hfa]
theorem checkF_zero {f : List Mdl} : checkF f = 0 ↔ f.length ≤ 64 ∧ msize sizeM f ≤ 65536 ∧ mdeep deepM f ≤ 64 ∧ ∀ m, m ∈ f → MayM m := by
  unfold checkF
  by_cases h : 64 < f.length
  · rw [if_pos h]
    exact ⟨fun h' => by omega, fun h' => by omega⟩
  · rw [if_neg h, told_zero, yes_iff]
    exact ⟨fun h' => ⟨by omega, h'⟩, fun h' => h'.2⟩
theorem msize_sub {α : Type} (sz : α → Nat) {l r : List α} (h : List.Sublist l r) : msize sz l ≤ msize sz r := by
  induction h with
  | slnil => exact Nat.le_refl _
  | cons a _ ih => rw [msize]; omega
  | cons_cons a _ ih => rw [msize, msize]; omega
theorem mdeep_sub {α : Type} (sz : α → Nat) {l r : List α} (h : List.Sublist l r) : mdeep sz l ≤ mdeep sz r := by
  induction h with
  | slnil => exact Nat.le_refl _
  | cons a _ ih => rw [mdeep]; omega
  | cons_cons a _ ih => rw [mdeep, mdeep]; omega
/-- WITHOUT THE REST IT IS AS IT WAS. -/
theorem without_law {f : List Mdl} (h : checkN f = 0) {top : ByteArray} (ht : (findM f top).isSome = true) :
    checkN (onlyM f (belowN f top)) = 0 ∧ orderF (onlyM f (belowN f top)) = belowN f top ∧ (findM (onlyM f (belowN f top)) top).isSome = true ∧ belowN (onlyM f (belowN f top)) top = belowN f top := by
  obtain ⟨hF, hn, hri, huses, hlen⟩ := check_facts h
  obtain ⟨g, hg0⟩ : ∃ g, onlyM f (belowN f top) = g := ⟨_, rfl⟩
  rw [hg0]
  have hmg : ∀ m, m ∈ g ↔ m ∈ f ∧ Reach f top m.name := by
    intro m
    rw [← hg0]
    unfold onlyM
    rw [List.mem_filter, yes_iff, mem_below h ht]
  have hg : g = f.filter fun m => yes (Reach f top m.name) := by
    rw [← hg0]
    unfold onlyM
    apply List.filter_congr
    intro m hm
    by_cases hr : Reach f top m.name
    · rw [yes_iff.2 hr, yes_iff.2 ((mem_below h ht _).2 hr)]
    · rw [yes_no.2 hr, yes_no.2 (fun hb => hr ((mem_below h ht _).1 hb))]
  have hsub : List.Sublist g f := by rw [hg]; exact List.filter_sublist
  have hng : (namesF g).Nodup := hn.sublist (hsub.map _)
  have hin : ∀ s, s ∈ namesF g ↔ Reach f top s := by
    intro s
    constructor
    · intro hs
      obtain ⟨m, hm, rfl⟩ := List.mem_map.1 hs
      exact ((hmg m).1 hm).2
    · intro hr
      obtain ⟨m, hm, rfl⟩ := List.mem_map.1 (find_isSome.1 (hr.isIn ht))
      exact List.mem_map.2 ⟨m, (hmg m).2 ⟨hm, hr⟩, rfl⟩
  have hord : orderF g = belowN f top := by
    have hu : ∀ m, m ∈ f → Reach f top m.name → ∀ s, s ∈ usesM m → Reach f top s := fun m hm hr s hs => reach_uses h hr (find_mem hn hm) hs
    exact only_sim hg hu f.length g.length [] (ordered_nil f) (ordered_nil g) (by simp) (by simp)
  have hlg : (belowN f top).length = g.length := by
    have h1 := nodup_le (below_nodup f top) (l := namesF g) fun s hs => (hin s).2 ((mem_below h ht s).1 hs)
    have h2 := nodup_le hng (l := belowN f top) fun s hs => (mem_below h ht s).2 ((hin s).1 hs)
    simp [namesF] at h1 h2
    omega
  obtain ⟨hF1, hF2, hF3, hF4⟩ := checkF_zero.1 hF
  have hc : checkN g = 0 := by
    unfold checkN
    have := msize_sub sizeM hsub
    have := mdeep_sub deepM hsub
    have := hsub.length_le
    rw [if_pos (checkF_zero.2 ⟨by omega, by omega, by omega, fun m hm => hF4 m ((hmg m).1 hm).1⟩)]
    rw [ok_end ⟨hng, fun m hm => hri m ((hmg m).1 hm).1⟩ (fun m hm s hs => (hin s).2 (reach_uses h ((hmg m).1 hm).2 (find_mem hn ((hmg m).1 hm).1) hs)), hord, hlg]
    simp
  have htg : (findM g top).isSome = true := find_isSome.2 ((hin top).2 .refl)
  refine ⟨hc, hord, htg, ?_⟩
  have hrr : ∀ s, Reach f top s → Reach g top s := by
    intro s hs
    induction hs with
    | refl => exact .refl
    | step hb hm hcc hss ih =>
      rename_i b c m
      obtain ⟨h1, h2⟩ := find_spec2 hm
      have hmem : m ∈ g := (hmg m).2 ⟨h1, by rw [h2]; exact hb⟩
      have hfg : findM g b = some m := by rw [← h2]; exact find_mem hng hmem
      exact .step ih hfg hcc (find_isSome.2 ((hin _).2 (.step hb hm hcc hss)))
  show (orderF g).filter (fun s => yes (Reach g top s)) = belowN f top
  rw [hord, List.filter_eq_self]
  intro s hs
  exact yes_iff.2 (hrr s ((mem_below h ht s).1 hs))

end Go.Proofs.YtjoglnjpgkobeaaGreatDoor

/-
  THE LAWS OF NAMES THAT ARE TOLD AGAIN, PLAIN: a name told twice; the sides of a choice; loops.
-/
namespace Go.Proofs.YtjoglnjpgkobeaaGreatDoor
open Go Go.RowKit
set_option linter.all false
set_option linter.unusedVariables false
set_option linter.unusedSimpArgs false
set_option linter.unusedVariables false
set_option linter.unusedSimpArgs false

theorem checkF_may {f : List Mdl} (hl : f.length ≤ 64) (hm : ∀ m, m ∈ f → MayM m) : checkF f = 0 ∨ checkF f = 2 := by
  unfold checkF
  rw [if_neg (by omega), yes_iff.2 hm]
  unfold told
  by_cases h : 65536 < msize sizeM f ∨ 64 < mdeep deepM f
  · rw [if_pos h]; exact .inr rfl
  · rw [if_neg h]; exact .inl rfl
theorem checkN_of {f : List Mdl} (h : checkF f = 0) : checkN f = namesOk f := by unfold checkN; rw [if_pos h]
theorem checkN_ne {f : List Mdl} (h : checkF f ≠ 0) : checkN f = checkF f := by unfold checkN; rw [if_neg h]

/-! ## One module alone -/
def mSolo (nm : ByteArray) (l : List Itm) : Mdl := ⟨nm, [], [], l⟩
theorem right_one {nm : ByteArray} {l : List Itm} : rightM (mSolo nm l) ↔ tokL l ∧ inIs (fun s => s ∈ tnIs l) l := by
  have h : ownN (mSolo nm l) = tnIs l := by show tnIs l ++ ([] ++ []) = tnIs l; simp
  unfold rightM tokL
  rw [h]
  show tokIs l ∧ (tnIs l).Nodup ∧ inIs (fun s => s ∈ tnIs l) l ↔ _
  rw [and_assoc]
theorem checkF_one {nm : ByteArray} {l : List Itm} : checkF [mSolo nm l] = 0 ↔ 1 + msize sizeI l ≤ 65536 ∧ 1 + mdeep deepI l ≤ 64 ∧ nameP nm ∧ ∀ y, y ∈ l → MayI y := by
  rw [checkF_zero]
  have h1 : msize sizeM [mSolo nm l] = 1 + msize sizeI l := by show 1 + 0 + 0 + msize sizeI l + 0 = _; omega
  have h2 : mdeep deepM [mSolo nm l] = 1 + mdeep deepI l := by show max (1 + max (max 0 0) (mdeep deepI l)) 0 = _; omega
  rw [h1, h2]
  constructor
  · rintro ⟨-, h1, h2, h3⟩
    obtain ⟨h4, -, -, h5⟩ := h3 _ (List.mem_singleton.2 rfl)
    exact ⟨h1, h2, h4, h5⟩
  · rintro ⟨h1, h2, h3, h4⟩
    exact ⟨by simp, h1, h2, all_one ⟨h3, (fun y hy => by cases hy), (fun y hy => by cases hy), h4⟩⟩
theorem one_facts {nm : ByteArray} {l : List Itm} (h : checkN [mSolo nm l] = 0) : checkF [mSolo nm l] = 0 ∧ (tokL l ∧ inIs (fun s => s ∈ tnIs l) l) ∧ ofIs l = [] := by
  obtain ⟨h1, -, h2, -, h4⟩ := check_facts h
  refine ⟨h1, right_one.1 (h2 _ (List.mem_singleton.2 rfl)), ?_⟩
  have hi : 0 < (orderF [mSolo nm l]).length := by rw [h4]; simp
  obtain ⟨m, -, hm, -, hu⟩ := order_law h 0 hi
  rw [List.mem_singleton.1 hm] at hu
  cases ho : ofIs l with
  | nil => rfl
  | cons s r =>
    have hs : s ∈ usesM (mSolo nm l) := mem_uses.2 (by show s ∈ ofIs l; rw [ho]; exact List.mem_cons_self ..)
    have := hu s hs
    cases this
theorem one_ok {nm : ByteArray} {l : List Itm} (h1 : checkF [mSolo nm l] = 0) (h2 : tokL l ∧ inIs (fun s => s ∈ tnIs l) l) (h3 : ofIs l = []) : checkN [mSolo nm l] = 0 := by
  have hu : ∀ s, ¬ s ∈ usesM (mSolo nm l) := by
    intro s hs
    have := mem_uses.1 hs
    rw [show (mSolo nm l).items = l from rfl, h3] at this
    cases this
  rw [checkN_of h1, ok_end ⟨by show [nm].Nodup; simp, all_one (right_one.2 h2)⟩ (fun m hm s hs => by rw [List.mem_singleton.1 hm] at hs; exact absurd hs (hu s))]
  obtain ⟨ho, hn⟩ := orderF_end [mSolo nm l]
  have hne : orderF [mSolo nm l] ≠ [] := by
    intro he
    rw [he] at hn
    exact next_none hn _ (List.mem_singleton.2 rfl) ⟨by simp, fun s hs => absurd hs (hu s)⟩
  have : 0 < (orderF [mSolo nm l]).length := List.length_pos_iff.2 hne
  rw [if_neg (by simp; omega)]
theorem one_70 {nm : ByteArray} {l : List Itm} (h1 : checkF [mSolo nm l] = 0) (h2 : ¬ (tokL l ∧ inIs (fun s => s ∈ tnIs l) l)) : checkN [mSolo nm l] = 70 := by
  rw [checkN_of h1]
  exact ok_70 fun h => h2 (right_one.1 (h.2 _ (List.mem_singleton.2 rfl)))

/-! ## A name told again -/
theorem twice_module {f : List Mdl} (h : checkN f = 0) (hsz : msize sizeM f ≤ 2000) (hl : f.length < 64) {m : Mdl} (hm : m ∈ f) : checkN (f ++ [mSolo m.name []]) = 70 := by
  obtain ⟨h0, -⟩ := check_facts h
  obtain ⟨-, hs, hd, hall⟩ := checkF_zero.1 h0
  have h1 : msize sizeM [mSolo m.name []] = 1 := rfl
  have h2 : mdeep deepM [mSolo m.name []] = 1 := rfl
  have hc : checkF (f ++ [mSolo m.name []]) = 0 := checkF_zero.2 ⟨by simp; omega, by rw [msize_append, h1]; omega, by rw [mdeep_append, h2]; omega, fun x hx => by
    rcases List.mem_append.1 hx with hx | hx
    · exact hall x hx
    · rw [List.mem_singleton.1 hx]
      exact ⟨(hall m hm).1, (fun y hy => by cases hy), (fun y hy => by cases hy), (fun y hy => by cases hy)⟩⟩
  rw [checkN_of hc]
  refine ok_70 fun h => ?_
  have hn : (namesF f ++ [m.name]).Nodup := by
    have := h.1
    unfold namesF at this ⊢
    rw [List.map_append] at this
    exact this
  exact (List.nodup_append.1 hn).2.2 m.name (List.mem_map.2 ⟨m, hm, rfl⟩) m.name (List.mem_singleton.2 rfl) rfl
theorem fits_in {p : Prop} {s : ByteArray} (h : fitsP p s) (hp : p) : nameP s := by
  rcases h with h | h
  · exact h.2
  · exact absurd hp h.1
theorem tn_may : ∀ x : Itm, MayI x → ∀ s, s ∈ tnI x → nameP s := by
  intro x
  induction x using Itm.ind with
  | h x h1 h2 =>
    intro hm s hs
    obtain ⟨ho, -, -, hl, he, -, -⟩ := MayI_iff.1 hm
    rw [tnI_eq] at hs
    by_cases hd : isDecl x.op
    · rw [if_pos hd] at hs
      rw [List.mem_singleton.1 hs]
      refine fits_in ho.2.2.1 ?_
      unfold isDecl at hd
      omega
    · rw [if_neg hd] at hs
      have hls : ∀ l : List Itm, (∀ y, y ∈ l → MayI y → ∀ s, s ∈ tnI y → nameP s) → (∀ y, y ∈ l → MayI y) → ∀ s, s ∈ tnIs l → nameP s := by
        intro l
        induction l with
        | nil => intro _ _ s hs; cases hs
        | cons y r ih =>
          intro ih1 hmm s hs
          rcases List.mem_append.1 (show s ∈ tnI y ++ tnIs r from hs) with hs | hs
          · exact ih1 y (List.mem_cons_self ..) (hmm y (List.mem_cons_self ..)) s hs
          · exact ih (fun z hz => ih1 z (List.mem_cons_of_mem _ hz)) (fun z hz => hmm z (List.mem_cons_of_mem _ hz)) s hs
      by_cases h8 : x.op = 8
      · rw [if_pos h8] at hs
        rcases (memA_all _ _).1 hs with hs | hs
        · exact hls _ h1 hl s hs
        · exact hls _ h2 he s hs
      · rw [if_neg h8] at hs; cases hs
theorem tns_may {l : List Itm} (h : ∀ y, y ∈ l → MayI y) : ∀ s, s ∈ tnIs l → nameP s := by
  induction l with
  | nil => intro s hs; cases hs
  | cons y r ih =>
    intro s hs
    rcases List.mem_append.1 (show s ∈ tnI y ++ tnIs r from hs) with hs | hs
    · exact tn_may y (h y (List.mem_cons_self ..)) s hs
    · exact ih (fun z hz => h z (List.mem_cons_of_mem _ hz)) s hs
theorem own_may {m : Mdl} (h : MayM m) : ∀ s, s ∈ ownN m → nameP s := by
  intro s hs
  obtain ⟨-, h1, h2, h3⟩ := h
  rcases List.mem_append.1 hs with hs | hs
  · exact tns_may h3 s hs
  · rcases List.mem_append.1 hs with hs | hs
    · obtain ⟨p, hp, rfl⟩ := List.mem_map.1 hs
      exact (h2 p hp).1
    · obtain ⟨p, hp, rfl⟩ := List.mem_map.1 hs
      exact (h1 p hp).1
/-- A file with items more behind those of a module. -/
def putM (f : List Mdl) (k : Nat) (l : List Itm) : List Mdl := f.mapIdx fun i m => if i = k then ⟨m.name, m.params, m.ports, m.items ++ l⟩ else m
theorem msize_set {α : Type} (sz : α → Nat) (x : α) : ∀ (l : List α) (k : Nat) (hk : k < l.length), msize sz (l.set k x) + sz l[k] = msize sz l + sz x := by
  intro l
  induction l with
  | nil => intro k hk; cases hk
  | cons a r ih =>
    intro k hk
    cases k with
    | zero => show sz x + msize sz r + sz a = sz a + msize sz r + sz x; omega
    | succ k =>
      have hk' : k < r.length := by simpa using hk
      have := ih k hk'
      show sz a + msize sz (r.set k x) + sz r[k] = sz a + msize sz r + sz x
      omega
theorem mdeep_set {α : Type} (sz : α → Nat) (x : α) : ∀ (l : List α) (k : Nat), mdeep sz (l.set k x) ≤ max (mdeep sz l) (sz x) := by
  intro l
  induction l with
  | nil => intro k; simp [mdeep]
  | cons a r ih =>
    intro k
    cases k with
    | zero => show max (sz x) (mdeep sz r) ≤ max (max (sz a) (mdeep sz r)) (sz x); omega
    | succ k =>
      have := ih k
      show max (sz a) (mdeep sz (r.set k x)) ≤ max (max (sz a) (mdeep sz r)) (sz x)
      omega
theorem putM_set {f : List Mdl} {k : Nat} (hk : k < f.length) (l : List Itm) : putM f k l = f.set k ⟨f[k].name, f[k].params, f[k].ports, f[k].items ++ l⟩ := by
  apply List.ext_getElem
  · simp [putM]
  · intro i h1 h2
    simp only [putM, List.getElem_mapIdx, List.getElem_set]
    by_cases h : i = k
    · subst h
      simp
    · rw [if_neg h, if_neg (fun e => h e.symm)]
theorem twice_name {f : List Mdl} (h : checkN f = 0) (hsz : msize sizeM f ≤ 2000) {k : Nat} (hk : k < f.length) {s : ByteArray} (hs : s ∈ ownN f[k]) : checkN (putM f k [iW s]) = 70 := by
  obtain ⟨h0, -⟩ := check_facts h
  obtain ⟨hl, -, hd, hall⟩ := checkF_zero.1 h0
  have hnm := own_may (hall f[k] (List.getElem_mem hk)) s hs
  have hmay := hall f[k] (List.getElem_mem hk)
  have hdm := mdeep_mem deepM f f[k] (List.getElem_mem hk)
  have hsm := msize_mem sizeM f f[k] (List.getElem_mem hk)
  rw [putM_set hk]
  obtain ⟨m, hm⟩ : ∃ m : Mdl, f[k] = m := ⟨_, rfl⟩
  rw [hm] at hs hmay hdm hsm ⊢
  have e1 : sizeI (iW s) = 2 := rfl
  have e2 : deepI (iW s) = 2 := rfl
  have g1 : sizeM ⟨m.name, m.params, m.ports, m.items ++ [iW s]⟩ = sizeM m + 2 := by
    show 1 + msize sizeB m.params + msize sizeP m.ports + msize sizeI (m.items ++ [iW s]) = 1 + msize sizeB m.params + msize sizeP m.ports + msize sizeI m.items + 2
    rw [msize_append]
    show _ + (_ + (sizeI (iW s) + 0)) = _
    omega
  have g2 : deepM ⟨m.name, m.params, m.ports, m.items ++ [iW s]⟩ ≤ max (deepM m) 3 := by
    show 1 + max (max (mdeep deepB m.params) (mdeep deepP m.ports)) (mdeep deepI (m.items ++ [iW s])) ≤ max (1 + max (max (mdeep deepB m.params) (mdeep deepP m.ports)) (mdeep deepI m.items)) 3
    rw [mdeep_append, show mdeep deepI [iW s] = 2 from rfl]
    omega
  have q1 := msize_set sizeM ⟨m.name, m.params, m.ports, m.items ++ [iW s]⟩ f k hk
  have q2 := mdeep_set deepM ⟨m.name, m.params, m.ports, m.items ++ [iW s]⟩ f k
  rw [hm] at q1
  have hc : checkF (f.set k ⟨m.name, m.params, m.ports, m.items ++ [iW s]⟩) = 0 := checkF_zero.2 ⟨by rw [List.length_set]; exact hl, by omega, by omega, fun x hx => by
    rcases List.mem_or_eq_of_mem_set hx with hx | rfl
    · exact hall x hx
    · refine ⟨hmay.1, hmay.2.1, hmay.2.2.1, fun y hy => ?_⟩
      rcases List.mem_append.1 (show y ∈ m.items ++ [iW s] from hy) with hy | hy
      · exact hmay.2.2.2 y hy
      · rw [List.mem_singleton.1 hy]; exact may_iW hnm⟩
  rw [checkN_of hc]
  refine ok_70 fun h => ?_
  obtain ⟨-, hn, -⟩ := h.2 _ (List.mem_set hk _)
  have hn' : (tnIs (m.items ++ [iW s]) ++ (m.ports.map Prt.name ++ m.params.map Bnd.name)).Nodup := hn
  rw [tnIs_append, show tnIs [iW s] = [s] from rfl] at hn'
  obtain ⟨h3, -, h4⟩ := List.nodup_append.1 hn'
  rcases List.mem_append.1 (show s ∈ tnIs m.items ++ (m.ports.map Prt.name ++ m.params.map Bnd.name) from hs) with hs | hs
  · exact (List.nodup_append.1 h3).2.2 s hs s (List.mem_singleton.2 rfl) rfl
  · exact h4 s (List.mem_append.2 (.inr (List.mem_singleton.2 rfl))) s hs rfl

/-! ## The sides of a choice -/
def iIf (l m : List Itm) : Itm := .mk 8 tE tE [xOne] [] l m [] []
theorem may_iIf {l m : List Itm} (hl : ∀ y, y ∈ l → MayI y) (hm : ∀ y, y ∈ m → MayI y) : MayI (iIf l m) := .mk _ ⟨by show (1 : Int) ≤ 8; decide, by show (8 : Int) ≤ 10; decide, .inr ⟨(show ¬ ((8 : Int) ≠ 4 ∧ (8 : Int) ≠ 5 ∧ (8 : Int) ≠ 6 ∧ (8 : Int) ≠ 8) by decide), rfl⟩, .inr ⟨(show ¬ ((8 : Int) = 7 ∨ (8 : Int) = 9) by decide), rfl⟩, rfl, (fun h => absurd h (show ¬ (8 : Int) = 4 by decide)), .inr (.inr rfl), .inl rfl, .inl rfl, .inr ⟨rfl, rfl⟩⟩
  (all_one may_xOne) (fun y hy => by cases hy) hl hm (fun y hy => by cases hy) (fun y hy => by cases hy)
theorem size_iIf (l m : List Itm) : sizeI (iIf l m) = 2 + msize sizeI l + msize sizeI m := by
  rw [sizeI_eq]
  show 1 + 1 + 0 + msize sizeI l + msize sizeI m + 0 + 0 = _
  omega
theorem deep_iIf (l m : List Itm) : deepI (iIf l m) = 1 + max 1 (max (mdeep deepI l) (mdeep deepI m)) := by
  rw [deepI_eq]
  show 1 + max (max (max (max (max 1 0) (mdeep deepI l)) (mdeep deepI m)) 0) 0 = _
  omega
theorem tn_iIf (l m : List Itm) : tnI (iIf l m) = addAll (tnIs l) (tnIs m) := by
  rw [tnI_eq]
  rw [if_neg (by show ¬ isDecl 8; decide), if_pos (show (iIf l m).op = 8 from rfl)]
  rfl
theorem addAll_self {l : List ByteArray} : ∀ m : List ByteArray, (∀ s, s ∈ m → s ∈ l) → addAll l m = l := by
  intro m
  induction m with
  | nil => intro _; rfl
  | cons s r ih =>
    intro h
    show addAll (addOne l s) r = l
    rw [addOne_in (h s (List.mem_cons_self ..))]
    exact ih fun t ht => h t (List.mem_cons_of_mem _ ht)
theorem msize_one {α : Type} (sz : α → Nat) (x : α) : msize sz [x] = sz x := by simp [msize]
theorem mdeep_one {α : Type} (sz : α → Nat) (x : α) : mdeep sz [x] = sz x := by simp [mdeep]
theorem ofs_iIf (l m : List Itm) : ofIs [iIf l m] = ofIs l ++ ofIs m := by
  show ofI (iIf l m) ++ [] = _
  rw [ofI_eq, if_neg (show ¬ (iIf l m).op = 7 by show ¬ (8 : Int) = 7; decide)]
  show [] ++ (ofIs l ++ ofIs m) ++ [] = _
  simp
theorem in_iIf {C : ByteArray → Prop} {l m : List Itm} : inIs C [iIf l m] ↔ inIs C l ∧ inIs C m := by
  show inI C (iIf l m) ∧ True ↔ _
  rw [inI_eq]
  constructor
  · rintro ⟨⟨-, h, -⟩, -⟩; exact h rfl
  · rintro ⟨h1, h2⟩; exact ⟨⟨trivial, fun _ => ⟨h1, h2⟩, fun h9 => absurd h9 (show ¬ (8 : Int) = 9 by decide)⟩, trivial⟩
theorem tok_iIf {l m : List Itm} : tokIs [iIf l m] ↔ tokL l ∧ tokL m := by
  show tokI (iIf l m) ∧ True ↔ _
  rw [tokI_eq]
  exact ⟨fun h => h.1 rfl, fun h => ⟨fun _ => h, trivial⟩⟩
theorem sides_both {nm : ByteArray} {l m : List Itm} (h : checkN [mSolo nm [iIf l m]] = 0) : checkN [mSolo nm l] = 0 ∧ checkN [mSolo nm m] = 0 := by
  obtain ⟨h1, ⟨⟨h2, h3⟩, h4⟩, h5⟩ := one_facts h
  obtain ⟨g1, g2, g3, g4⟩ := checkF_one.1 h1
  obtain ⟨-, -, -, hl, hm, -, -⟩ := MayI_iff.1 (g4 _ (List.mem_singleton.2 rfl))
  rw [msize_one, size_iIf] at g1
  rw [mdeep_one, deep_iIf] at g2
  rw [ofs_iIf] at h5
  obtain ⟨h6, h7⟩ := List.append_eq_nil_iff.1 h5
  obtain ⟨h8, h9⟩ := tok_iIf.1 h2
  obtain ⟨i1, i2⟩ := in_iIf.1 h4
  have ht : ∀ s, s ∈ tnIs [iIf l m] ↔ s ∈ tnIs l ∨ s ∈ tnIs m := by intro s; rw [tnIs_one, tn_iIf, memA_all]
  exact ⟨one_ok (checkF_one.2 ⟨by omega, by omega, g3, hl⟩) ⟨h8, ins_less (fun s hs => (ht s).2 (.inl hs)) l i1⟩ h6,
    one_ok (checkF_one.2 ⟨by omega, by omega, g3, hm⟩) ⟨h9, ins_less (fun s hs => (ht s).2 (.inr hs)) m i2⟩ h7⟩
theorem sides_alike {nm : ByteArray} {l : List Itm} (h : checkN [mSolo nm l] = 0) : checkN [mSolo nm [iIf l l]] = 0 ∨ checkN [mSolo nm [iIf l l]] = 2 := by
  obtain ⟨h1, ⟨h2, h4⟩, h5⟩ := one_facts h
  obtain ⟨g1, g2, g3, g4⟩ := checkF_one.1 h1
  by_cases hc : checkF [mSolo nm [iIf l l]] = 0
  · refine .inl (one_ok hc ⟨⟨tok_iIf.2 ⟨h2, h2⟩, ?_⟩, ?_⟩ ?_)
    · rw [tnIs_one, tn_iIf, addAll_self _ fun s hs => hs]; exact h2.2
    · rw [tnIs_one, tn_iIf, addAll_self _ fun s hs => hs]; exact in_iIf.2 ⟨h4, h4⟩
    · rw [ofs_iIf, h5]; rfl
  · rw [checkN_ne hc]
    exact checkF_may (by simp) (all_one ⟨g3, (fun y hy => by cases hy), (fun y hy => by cases hy), all_one (may_iIf g4 g4)⟩)
theorem sides_twice {nm : ByteArray} {l : List Itm} (h : checkN [mSolo nm l] = 0) (hne : tnIs l ≠ []) : checkN [mSolo nm (l ++ [iIf l []])] = 70 ∨ checkN [mSolo nm (l ++ [iIf l []])] = 2 := by
  obtain ⟨h1, -, -⟩ := one_facts h
  obtain ⟨g1, g2, g3, g4⟩ := checkF_one.1 h1
  by_cases hc : checkF [mSolo nm (l ++ [iIf l []])] = 0
  · refine .inl (one_70 hc ?_)
    rintro ⟨⟨-, hn⟩, -⟩
    rw [tnIs_append, tnIs_one, tn_iIf] at hn
    have ha : addAll (tnIs l) (tnIs []) = tnIs l := rfl
    rw [ha] at hn
    cases ht : tnIs l with
    | nil => exact hne ht
    | cons s r =>
      have hs : s ∈ tnIs l := by rw [ht]; exact List.mem_cons_self ..
      exact (List.nodup_append.1 hn).2.2 s hs s hs rfl
  · right
    rw [checkN_ne hc]
    refine (checkF_may (by simp) (all_one ⟨g3, (fun y hy => by cases hy), (fun y hy => by cases hy), fun y hy => ?_⟩)).resolve_left hc
    rcases List.mem_append.1 hy with hy | hy
    · exact g4 y hy
    · rw [List.mem_singleton.1 hy]; exact may_iIf g4 (fun y hy => by cases hy)

/-! ## Loops -/
def iFor (nm of : ByteArray) (l : List Itm) : Itm := .mk 9 nm of [xOne, xOne] [] l [] [] []
theorem may_iFor {nm of : ByteArray} {l : List Itm} : MayI (iFor nm of l) ↔ nameP nm ∧ nameP of ∧ ∀ y, y ∈ l → MayI y := by
  constructor
  · intro h
    obtain ⟨ho, -, -, hl, -, -, -⟩ := MayI_iff.1 h
    exact ⟨fits_in ho.2.2.1 (show (9 : Int) ≠ 4 ∧ (9 : Int) ≠ 5 ∧ (9 : Int) ≠ 6 ∧ (9 : Int) ≠ 8 by decide), fits_in ho.2.2.2.1 (.inr rfl), hl⟩
  · rintro ⟨h1, h2, hl⟩
    exact .mk _ ⟨by show (1 : Int) ≤ 9; decide, by show (9 : Int) ≤ 10; decide, .inl ⟨(show (9 : Int) ≠ 4 ∧ (9 : Int) ≠ 5 ∧ (9 : Int) ≠ 6 ∧ (9 : Int) ≠ 8 by decide), h1⟩, .inl ⟨.inr rfl, h2⟩, rfl, (fun h => absurd h (show ¬ (9 : Int) = 4 by decide)), .inr (.inr rfl), .inr (.inl rfl), .inr rfl, .inr ⟨rfl, rfl⟩⟩
      (all_two may_xOne may_xOne) (fun y hy => by cases hy) hl (fun y hy => by cases hy) (fun y hy => by cases hy) (fun y hy => by cases hy)
theorem size_iFor (nm of : ByteArray) (l : List Itm) : sizeI (iFor nm of l) = 3 + msize sizeI l := by
  rw [sizeI_eq]
  show 1 + 2 + 0 + msize sizeI l + 0 + 0 + 0 = _
  omega
theorem deep_iFor (nm of : ByteArray) (l : List Itm) : deepI (iFor nm of l) = 1 + max 1 (mdeep deepI l) := by
  rw [deepI_eq]
  show 1 + max (max (max (max (max 1 0) (mdeep deepI l)) 0) 0) 0 = _
  omega
theorem tn_iFor (nm of : ByteArray) (l : List Itm) : tnI (iFor nm of l) = [nm] := by
  rw [tnI_eq, if_pos (show isDecl (iFor nm of l).op by show isDecl 9; decide)]
  rfl
theorem of_iFor (nm of : ByteArray) (l : List Itm) : ofI (iFor nm of l) = ofIs l := by
  rw [ofI_eq, if_neg (show ¬ (iFor nm of l).op = 7 by show ¬ (9 : Int) = 7; decide)]
  show [] ++ (ofIs l ++ []) = ofIs l
  rw [List.nil_append, List.append_nil]
theorem tok_iFor (nm of : ByteArray) (l : List Itm) : tokI (iFor nm of l) := (tokI_eq _).2 fun h => absurd h (show ¬ (9 : Int) = 8 by decide)
theorem in_iFor {C : ByteArray → Prop} {nm of : ByteArray} {l : List Itm} : inI C (iFor nm of l) ↔ tokL l ∧ ¬ of ∈ tnIs l ∧ (∀ t, t ∈ tnIs l ∨ t = of → ¬ C t) ∧ inIs (fun t => C t ∨ t ∈ tnIs l ∨ t = of) l := by
  rw [inI_eq]
  exact ⟨fun h => h.2.2 rfl, fun h => ⟨trivial, fun h8 => absurd h8 (show ¬ (9 : Int) = 8 by decide), fun _ => h⟩⟩
/-- A name with a line behind it. -/
def under (s : ByteArray) : ByteArray := s ++ ⟨#[95]⟩
theorem loops_first {nm : ByteArray} {x : Itm} {r : List Itm} (h : checkN [mSolo nm (x :: r)] = 0) : checkN [mSolo nm [x]] = 0 := by
  obtain ⟨h1, ⟨⟨h2, h3⟩, h4⟩, h5⟩ := one_facts h
  obtain ⟨g1, g2, g3, g4⟩ := checkF_one.1 h1
  rw [msize] at g1
  rw [mdeep] at g2
  refine one_ok (checkF_one.2 ⟨by rw [msize_one]; omega, by rw [mdeep_one]; omega, g3, all_one (g4 x (List.mem_cons_self ..))⟩) ⟨⟨⟨h2.1, trivial⟩, ?_⟩, ⟨?_, trivial⟩⟩ ?_
  · rw [tnIs_one]
    exact (List.nodup_append.1 (show (tnI x ++ tnIs r).Nodup from h3)).1
  · refine in_less x _ _ (fun s hs => ?_) h4.1
    rw [tnIs_one] at hs
    exact List.mem_append.2 (.inl hs)
  · have : ofI x ++ ofIs r = [] := h5
    show ofI x ++ [] = []
    rw [(List.append_eq_nil_iff.1 this).1]; rfl
theorem loops_once {nm a v : ByteArray} {l : List Itm} (h : checkN [mSolo nm [iFor a v l]] = 0) :
    (3 + msize sizeI l + 1 ≤ 65536 ∧ 2 + max 1 (mdeep deepI l) ≤ 64 ∧ nameP nm ∧ nameP a ∧ nameP v ∧ ∀ y, y ∈ l → MayI y) ∧ tokL l ∧ ¬ v ∈ tnIs l ∧ (∀ t, t ∈ tnIs l ∨ t = v → ¬ t = a) ∧ inIs (fun t => t = a ∨ t ∈ tnIs l ∨ t = v) l ∧ ofIs l = [] := by
  obtain ⟨h1, ⟨-, h4⟩, h5⟩ := one_facts h
  obtain ⟨g1, g2, g3, g4⟩ := checkF_one.1 h1
  rw [msize_one, size_iFor] at g1
  rw [mdeep_one, deep_iFor] at g2
  obtain ⟨m1, m2, m3⟩ := may_iFor.1 (g4 _ (List.mem_singleton.2 rfl))
  obtain ⟨i1, i2, i3, i4⟩ := in_iFor.1 h4.1
  have ht : ∀ s, s ∈ tnIs [iFor a v l] ↔ s = a := by intro s; rw [tnIs_one, tn_iFor, List.mem_singleton]
  refine ⟨⟨by omega, by omega, g3, m1, m2, m3⟩, i1, i2, fun t h he => i3 t h ((ht t).2 he), ins_less (fun s hs => ?_) l i4, ?_⟩
  · rcases hs with h | h
    · exact .inl ((ht s).2 h)
    · exact .inr h
  · have : ofI (iFor a v l) ++ [] = [] := h5
    rw [of_iFor, List.append_nil] at this
    exact this
theorem loops_two {nm a v b : ByteArray} {l : List Itm} (h : checkN [mSolo nm [iFor a v l]] = 0) (hb : nameP b) (hab : ¬ a = b) (hsz : msize sizeI l ≤ 30000) (hv : ¬ v = b) (hal : ¬ b ∈ allIs l) : checkN [mSolo nm [iFor a v l, iFor b v l]] = 0 := by
  obtain ⟨⟨g1, g2, g3, g4, g5, g6⟩, h1, h2, h3, h4, h5⟩ := loops_once h
  have ht : ∀ s, s ∈ tnIs [iFor a v l, iFor b v l] ↔ s = a ∨ s = b := by
    intro s
    show s ∈ tnI (iFor a v l) ++ (tnI (iFor b v l) ++ []) ↔ _
    rw [tn_iFor, tn_iFor]
    simp
  have hin : inIs (fun t => (t = a ∨ t ∈ tnIs l ∨ t = v) ∨ t = b) l := ins_more l hal h4
  have hno : ∀ t, t ∈ tnIs l ∨ t = v → ¬ t ∈ tnIs [iFor a v l, iFor b v l] := by
    intro t h' hm
    rcases (ht t).1 hm with e | e
    · exact h3 t h' e
    · subst e
      rcases h' with h' | h'
      · exact hal (tns_all _ h')
      · exact hv h'.symm
  have hinC : inIs (fun t => t ∈ tnIs [iFor a v l, iFor b v l] ∨ t ∈ tnIs l ∨ t = v) l := by
    refine ins_less (fun s hs => ?_) l hin
    rcases hs with hs | hs
    · rcases (ht s).1 hs with e | e
      · exact .inl (.inl e)
      · exact .inr e
    · exact .inl (.inr hs)
  refine one_ok (checkF_one.2 ⟨?_, ?_, g3, all_two (may_iFor.2 ⟨g4, g5, g6⟩) (may_iFor.2 ⟨hb, g5, g6⟩)⟩) ⟨⟨⟨tok_iFor a v l, tok_iFor b v l, trivial⟩, ?_⟩, ⟨in_iFor.2 ⟨h1, h2, hno, hinC⟩, in_iFor.2 ⟨h1, h2, hno, hinC⟩, trivial⟩⟩ ?_
  · show 1 + (sizeI (iFor a v l) + (sizeI (iFor b v l) + 0)) ≤ 65536
    rw [size_iFor, size_iFor]; omega
  · show 1 + max (deepI (iFor a v l)) (max (deepI (iFor b v l)) 0) ≤ 64
    rw [deep_iFor, deep_iFor]; omega
  · show (tnI (iFor a v l) ++ (tnI (iFor b v l) ++ [])).Nodup
    rw [tn_iFor, tn_iFor]
    simp [hab]
  · show ofI (iFor a v l) ++ (ofI (iFor b v l) ++ []) = []
    rw [of_iFor, of_iFor, h5]; rfl
theorem loops_deep {nm a v b u : ByteArray} {l : List Itm} (h : checkN [mSolo nm [iFor a v l]] = 0) (hb : nameP b) (hu : nameP u) : checkN [mSolo nm [iFor a v l, iFor b u [iFor a v l]]] = 70 ∨ checkN [mSolo nm [iFor a v l, iFor b u [iFor a v l]]] = 2 := by
  obtain ⟨⟨g1, g2, g3, g4, g5, g6⟩, -⟩ := loops_once h
  by_cases hc : checkF [mSolo nm [iFor a v l, iFor b u [iFor a v l]]] = 0
  · refine .inl (one_70 hc ?_)
    rintro ⟨-, -, h2, -⟩
    obtain ⟨-, -, h3, -⟩ := in_iFor.1 h2
    refine h3 a (.inl (by rw [tnIs_one, tn_iFor]; exact List.mem_singleton.2 rfl)) ?_
    show a ∈ tnI (iFor a v l) ++ tnIs [iFor b u [iFor a v l]]
    rw [tn_iFor]
    simp
  · right
    rw [checkN_ne hc]
    exact (checkF_may (by simp) (all_one ⟨g3, (fun y hy => by cases hy), (fun y hy => by cases hy), all_two (may_iFor.2 ⟨g4, g5, g6⟩) (may_iFor.2 ⟨hb, hu, all_one (may_iFor.2 ⟨g4, g5, g6⟩)⟩)⟩)).resolve_left hc
theorem word_end : ∀ w ∈ wordsL, w.getLast? ≠ some 95 := by decide
theorem under_size (s : ByteArray) : (under s).size = s.size + 1 := by simp [under, ByteArray.size_append]; rfl
theorem under_ne (s : ByteArray) : ¬ s = under s := fun h => by
  have := congrArg ByteArray.size h
  rw [under_size] at this
  omega
theorem under_name {s : ByteArray} (h : nameP s) (hl : s.size ≤ 40) : nameP (under s) := by
  obtain ⟨h1, h2, h3, h4⟩ := h
  have hd : (under s).data = s.data ++ #[95] := by simp [under]
  refine ⟨by rw [under_size]; omega, by rw [under_size]; omega, fun i hi => ?_, ?_⟩
  · have hi' : i < s.size + 1 := by rw [under_size] at hi; exact hi
    by_cases hlt : i < s.size
    · have : (under s).data[i] = s.data[i] := by simp only [hd]; rw [Array.getElem_append_left hlt]
      rw [this]
      exact h3 i hlt
    · obtain rfl : i = s.size := by omega
      have : (under s).data[s.size] = 95 := by
        simp only [hd]
        rw [Array.getElem_append_right (show s.data.size ≤ s.size from Nat.le_refl _)]
        simp only [show s.size - s.data.size = 0 from Nat.sub_self _]
        rfl
      rw [this]
      exact okAt_iff.2 (.inl (.inr (.inr rfl)))
  · cases hw : isWord (under s) with
    | false => rfl
    | true =>
      unfold isWord at hw
      rw [hd, Array.toList_append] at hw
      have := word_end _ (List.contains_iff_mem.1 hw)
      simp at this

end Go.Proofs.YtjoglnjpgkobeaaGreatDoor

/-
  THE LAWS OF NAMES: what is known of the values where a module is looked for; rows of texts.
-/
namespace Go.Proofs.YtjoglnjpgkobeaaGreatDoor
open Go Go.RowKit
set_option linter.all false
set_option linter.unusedVariables false
set_option linter.unusedSimpArgs false
set_option linter.unusedVariables false
set_option linter.unusedSimpArgs false
attribute [local go_sem] run_store_one

/-- What is known of the values of the region in which a module is looked for. -/
def finF (w0 : World) (B : Nat) (W : World) (vf vl : Value) (k : Nat) (p : Addr) (s : ByteArray) (x : Mdl) (fo : Bool) (i : Nat) (v : Value) (w : World) : Prop := match i with
  | 0 => v = .agg #[vf]
  | 1 => v = vl
  | 2 => v = .int .i64 k
  | 3 => v = .pointer (some p)
  | 4 => v = .string s
  | 5 => ∃ c0 c1 c2 c3, v = .tuple #[.agg #[c0, c1, c2, c3], .bool fo] ∧ RM w0 B x [c0, c1, c2, c3]
  | 6 => ∃ c0 c1 c2 c3, v = .tuple #[.agg #[c0, c1, c2, c3], .bool fo] ∧ RM w0 B x [c0, c1, c2, c3]
  | 7 => ∃ c0 c1 c2 c3, v = .agg #[c0, c1, c2, c3] ∧ RM w0 B x [c0, c1, c2, c3]
  | 8 => v = .bool fo
  | 9 => ∃ g d0 d1 d2 d3, v = .pointer (some ⟨g, 0, none⟩) ∧ W.heap.size ≤ g ∧ Blk w g 33 [d0, d1, d2, d3]
  | 11 => v = .bool fo
  | _ => True
def finG (w0 : World) (B : Nat) (W : World) (x : Mdl) (v : Value) (w : World) : Prop := ∃ g c0 c1 c2 c3, v = .pointer (some ⟨g, 0, none⟩) ∧ W.heap.size ≤ g ∧ Blk w g 33 [c0, c1, c2, c3] ∧ RM w0 B x [c0, c1, c2, c3]
theorem finF_other {w0 : World} {B : Nat} {W : World} {vf vl : Value} {k : Nat} {p : Addr} {s : ByteArray} {x : Mdl} {fo : Bool} {i : Nat} {v : Value} (w w' : World) (hi : i ≠ 9) (h : finF w0 B W vf vl k p s x fo i v w) : finF w0 B W vf vl k p s x fo i v w' := by
  unfold finF at h ⊢
  split at h <;> first | exact h | exact absurd rfl hi
theorem finF_ext {w0 : World} {B : Nat} {W : World} {vf vl : Value} {k : Nat} {p : Addr} {s : ByteArray} {x : Mdl} {fo : Bool} {i : Nat} {v : Value} {w w' : World} (h : finF w0 B W vf vl k p s x fo i v w) (hx : Ext w w') : finF w0 B W vf vl k p s x fo i v w' := by
  by_cases hi : i = 9
  · subst hi
    obtain ⟨g, d0, d1, d2, d3, h1, h2, h3⟩ := h
    exact ⟨g, d0, d1, d2, d3, h1, h2, h3.ext hx⟩
  · exact finF_other _ _ hi h
theorem finG_ext {w0 : World} {B : Nat} {W : World} {x : Mdl} {v : Value} {w w' : World} (h : finG w0 B W x v w) (hx : Ext w w') : finG w0 B W x v w' := by
  obtain ⟨g, c0, c1, c2, c3, h1, h2, h3, h4⟩ := h
  exact ⟨g, c0, c1, c2, c3, h1, h2, h3.ext hx, h4⟩
theorem finF_store {w0 : World} {B : Nat} {W : World} {vf vl : Value} {k : Nat} {p : Addr} {s : ByteArray} {x : Mdl} {fo : Bool} {w : World} {g0 : Nat} (u0 u1 u2 u3 : Value) {j : Nat} {v : Value} (h : finF w0 B W vf vl k p s x fo j v w) : finF w0 B W vf vl k p s x fo j v ((((w.setCell ⟨g0, 0, none⟩ u0).setCell ⟨g0, 1, none⟩ u1).setCell ⟨g0, 2, none⟩ u2).setCell ⟨g0, 3, none⟩ u3) := by
  by_cases hi : j = 9
  · subst hi
    obtain ⟨g, d0, d1, d2, d3, h1, h2, h3⟩ := h
    by_cases hg : g = g0
    · subst hg
      exact ⟨g, u0, u1, u2, u3, h1, h2, h3.store4 u0 u1 u2 u3⟩
    · exact ⟨g, d0, d1, d2, d3, h1, h2, (((h3.far hg _).far hg _).far hg _).far hg _⟩
  · exact finF_other _ _ hi h
theorem ext_store4 {W w : World} (hx : Ext W w) {g : Nat} (hg : W.heap.size ≤ g) (u0 u1 u2 u3 : Value) : Ext W ((((w.setCell ⟨g, 0, none⟩ u0).setCell ⟨g, 1, none⟩ u1).setCell ⟨g, 2, none⟩ u2).setCell ⟨g, 3, none⟩ u3) :=
  (((hx.setCell hg _).setCell hg _).setCell hg _).setCell hg _
theorem rm_back {w0 w1 : World} {B : Nat} {x : Mdl} {cs : List Value} (h : RM w1 B x cs) (hx : Ext w0 w1) (hB : B ≤ w0.heap.size) : RM w0 B x cs := RM.keep (w' := w0) (fun p hp => (hx.cell (by omega)).symm) (Nat.le_refl _) _ _ h

end Go.Proofs.YtjoglnjpgkobeaaGreatDoor
