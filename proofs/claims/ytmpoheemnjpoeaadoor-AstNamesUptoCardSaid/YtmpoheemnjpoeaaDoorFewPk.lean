/-
  THE LAWS' OWN SMALL FUNCTIONS: name, few, fewX, fewS.
-/
import Derived.Test.YtmpoheemnjpoeaaDoorMayS5Pk
import Derived.Test.YtmpoheemnjpoeaaDoorCntFPk
namespace Go.Proofs.YtmpoheemnjpoeaaDoor
open Go Go.RowKit
set_option linter.all false
set_option linter.unusedVariables false
set_option linter.unusedSimpArgs false
set_option linter.unusedVariables false
set_option linter.unusedSimpArgs false
attribute [local go_sem] run_store_one

set_option maxRecDepth 20000 in
set_option maxHeartbeats 400000 in
theorem lawname_any (s : ByteArray) (w : World) :
    Calls Tryd.prog 28 #[.string s] w fun e w' => e = .returned (.agg #[.int .i64 2, .string s, .int .i64 0, .int .i64 0, .int .u64 0, .slice none 0 0]) ∧ Ext w w' := by
  go_enter Tryd.func28, Tryd.ntmps28
  go_wp2
  refine bodyPost_ret (v := .agg #[.int .i64 2, .string s, .int .i64 0, .int .i64 0, .int .u64 0, .slice none 0 0]) ?_ rfl ⟨rfl, Ext.new _ _⟩
  simp [results, Tryd.results28, go_sem]

/-- Is it small enough to be asked of? -/
def fewP (n d : Nat) : Prop := n ≤ 2000 ∧ d ≤ 100

set_option maxRecDepth 20000 in
set_option maxHeartbeats 1000000 in
theorem fewX_any (B : Nat) (x : X) (w : World) (cs : List Value) (hR : RX w B x cs) (hB : B ≤ w.heap.size) (hsz : sizeX x ≤ 1000000000) :
    Calls Tryd.prog 12 #[.agg cs.toArray] w fun e w' => e = .returned (.bool (yes (fewP (sizeX x) (deepX x)))) ∧ Ext w w' := by
  have HR := hide hR
  obtain ⟨a5, rfl, hS⟩ := RX_iff.1 hR
  have o5 := hS.oneCell
  have hdl := deepX_le x
  obtain ⟨W1, e1, hV1, hx1, hs1, c0, c1, c2, c3, c4, c5⟩ := boxL6 w (.int .i64 x.op) (.string x.name) (.int .i64 x.n) (.int .i64 x.w) (.int .u64 x.v) a5 25
  have hB1 : B ≤ W1.heap.size := Nat.le_trans hB hx1.size
  have G1 := hide (show ECalls Tryd.prog 35 #[.agg #[.int .i64 x.op, .string x.name, .int .i64 x.n, .int .i64 x.w, .int .u64 x.v, a5]] W1 (.int .i64 (sizeX x)) from
    fun w' hw => refSizeX_any B x w' _ (HR.out.ext (hx1.trans hw) hB) (Nat.le_trans hB1 hw.size) hsz)
  have G2 := hide (show ECalls Tryd.prog 36 #[.agg #[.int .i64 x.op, .string x.name, .int .i64 x.n, .int .i64 x.w, .int .u64 x.v, a5]] W1 (.int .i64 (deepX x)) from
    fun w' hw => refDeepX_any B x w' _ (HR.out.ext (hx1.trans hw) hB) (Nat.le_trans hB1 hw.size) hsz)
  obtain ⟨res, hres⟩ : ∃ res, res = yes (fewP (sizeX x) (deepX x)) := ⟨_, rfl⟩
  rw [← hres]
  have R := hide hres
  clear hR hS hres HR
  generalize sizeX x = s1 at *
  generalize deepX x = s2 at *
  go_enter Tryd.func12, Tryd.ntmps12
  go_wp2_with (first
    | (go_at_call 35; refine (G1.out.at_ _).mono ?_; rintro _ _ ⟨rfl, e, rfl⟩)
    | (go_at_call 36; refine (G2.out.at_ _).mono ?_; rintro _ _ ⟨rfl, e, rfl⟩))
  all_goals
    go_ret
    refine ⟨?_, hx1.trans (Later.ext _)⟩
    rw [R.out]
    refine congrArg (fun b => Ending.returned (Value.bool b)) ?_
    rw [Bool.eq_iff_iff, yes_iff]
    unfold fewP
    clear R G1 G2 hV1 c0 c1 c2 c3 c4 c5
    simp at *
    try omega

set_option maxRecDepth 20000 in
set_option maxHeartbeats 1000000 in
theorem few_any (B : Nat) (l : List Mdl) (w : World) (v : Value) (hS : Sl (RM w B) w B 4 l v) (hB : B ≤ w.heap.size) (hsz : msize sizeM l ≤ 1000000000) :
    Calls Tryd.prog 21 #[.agg #[v]] w fun e w' => e = .returned (.bool (yes (fewP (msize sizeM l) (mdeep deepM l)))) ∧ Ext w w' := by
  have HS := hide hS
  have hov := hS.oneCell
  have hdl := deepML_le l
  obtain ⟨W1, e1, hV1, hx1, hs1, c0⟩ := boxL1 w v 41
  have hB1 : B ≤ W1.heap.size := Nat.le_trans hB hx1.size
  have G1 := hide (show ECalls Tryd.prog 53 #[.agg #[v]] W1 (.int .i64 (msize sizeM l)) from
    fun w' hw => refSize_any B l w' v (HS.out.extRM (hx1.trans hw) hB) (Nat.le_trans hB1 hw.size) hsz)
  have G2 := hide (show ECalls Tryd.prog 54 #[.agg #[v]] W1 (.int .i64 (mdeep deepM l)) from
    fun w' hw => refDeep_any B l w' v (HS.out.extRM (hx1.trans hw) hB) (Nat.le_trans hB1 hw.size) hsz)
  obtain ⟨res, hres⟩ : ∃ res, res = yes (fewP (msize sizeM l) (mdeep deepM l)) := ⟨_, rfl⟩
  rw [← hres]
  have R := hide hres
  clear hS hres HS
  generalize msize sizeM l = s1 at *
  generalize mdeep deepM l = s2 at *
  go_enter Tryd.func21, Tryd.ntmps21
  go_wp2_with (first
    | (go_at_call 53; refine (G1.out.at_ _).mono ?_; rintro _ _ ⟨rfl, e, rfl⟩)
    | (go_at_call 54; refine (G2.out.at_ _).mono ?_; rintro _ _ ⟨rfl, e, rfl⟩))
  all_goals
    go_ret
    refine ⟨?_, hx1.trans (Later.ext _)⟩
    rw [R.out]
    refine congrArg (fun b => Ending.returned (Value.bool b)) ?_
    rw [Bool.eq_iff_iff, yes_iff]
    unfold fewP
    clear R G1 G2 hV1 c0
    simp at *
    try omega

set_option maxRecDepth 20000 in
set_option maxHeartbeats 1000000 in
theorem fewS_any (B : Nat) (x : S) (w : World) (cs : List Value) (hR : RS w B x cs) (hB : B ≤ w.heap.size) (hsz : sizeS x ≤ 1000000000) :
    Calls Tryd.prog 13 #[.agg cs.toArray] w fun e w' => e = .returned (.bool (yes (fewP (sizeS x) (deepS x)))) ∧ Ext w w' := by
  have HR := hide hR
  obtain ⟨a2, a3, rfl, hS2, hS3⟩ := RS_iff.1 hR
  have o2 := hS2.oneCell
  have o3 := hS3.oneCell
  have hdl := deepS_le x
  obtain ⟨W1, e1, hV1, hx1, hs1, c0, c1, c2, c3⟩ := boxL4 w (.int .i64 x.op) (.string x.name) a2 a3 28
  obtain ⟨W2, e2, hV2, hx2, hs2, d0, d1, d2, d3⟩ := boxL4 e1.w (.int .i64 x.op) (.string x.name) a2 a3 28
  have hx12 := e1.ext.trans hx2
  have hx02 := hx1.trans hx12
  have hB2 : B ≤ W2.heap.size := Nat.le_trans hB hx02.size
  have SL := hide (fun e : Later W2 => show Sl (RS e.w W2.heap.size) e.w W2.heap.size 4 [x] (.slice (some ⟨e1.w.heap.size, 0, none⟩) 1 1) from
    Sl.one (by omega) rfl (Cells.of4 (d0 e) (d1 e) (d2 e) (d3 e)) (by intro v hv; rcases List.mem_cons.1 hv with h | hv; rw [h]; rfl; rcases List.mem_cons.1 hv with h | hv; rw [h]; rfl; rcases List.mem_cons.1 hv with h | hv; rw [h]; exact o2; rcases List.mem_cons.1 hv with h | hv; rw [h]; exact o3; cases hv) ((HR.out.ext (hx02.trans e.ext) hB).more hB2))
  have hm1 : msize sizeS [x] = sizeS x := by simp [msize]
  have hm2 : mdeep deepS [x] = deepS x := by simp [mdeep]
  have G1 := hide (show ECalls Tryd.prog 37 #[.slice (some ⟨e1.w.heap.size, 0, none⟩) 1 1] W2 (.int .i64 (sizeS x)) from
    fun w' hw => hm1 ▸ refSizeS_any W2.heap.size [x] w' _ (SL.out ⟨w', hw⟩) hw.size (by rw [hm1]; exact hsz))
  have G2 := hide (show ECalls Tryd.prog 38 #[.slice (some ⟨e1.w.heap.size, 0, none⟩) 1 1] W2 (.int .i64 (deepS x)) from
    fun w' hw => hm2 ▸ refDeepS_any W2.heap.size [x] w' _ (SL.out ⟨w', hw⟩) hw.size (by rw [hm1]; exact hsz))
  obtain ⟨res, hres⟩ : ∃ res, res = yes (fewP (sizeS x) (deepS x)) := ⟨_, rfl⟩
  rw [← hres]
  have R := hide hres
  clear hR hS2 hS3 hres HR SL hm1 hm2
  generalize sizeS x = s1 at *
  generalize deepS x = s2 at *
  go_enter Tryd.func13, Tryd.ntmps13
  go_wp2_with (first
    | (go_at_call 37; refine (G1.out.at_ _).mono ?_; rintro _ _ ⟨rfl, e, rfl⟩)
    | (go_at_call 38; refine (G2.out.at_ _).mono ?_; rintro _ _ ⟨rfl, e, rfl⟩))
  all_goals
    go_ret
    refine ⟨?_, hx02.trans (Later.ext _)⟩
    rw [R.out]
    refine congrArg (fun b => Ending.returned (Value.bool b)) ?_
    rw [Bool.eq_iff_iff, yes_iff]
    unfold fewP
    clear R G1 G2 hV1 hV2 c0 c1 c2 c3 d0 d1 d2 d3
    simp at *
    try omega

end Go.Proofs.YtmpoheemnjpoeaaDoor
