/-
  THE LAW AstParts: WHAT IT COMPUTES.
-/
import Derived.Test.YtmpoheemnjpoeaaDoorLivePk
import Derived.Test.YtmpoheemnjpoeaaDoorLawPPk
import Derived.Test.YtmpoheemnjpoeaaDoorFactsGPk
import Derived.Test.YtmpoheemnjpoeaaDoorRefFPk
import Derived.Test.YtmpoheemnjpoeaaDoorRefGPk
namespace Go.Proofs.YtmpoheemnjpoeaaDoor
open Go Go.RowKit
set_option linter.all false
set_option linter.unusedVariables false
set_option linter.unusedSimpArgs false
set_option linter.unusedVariables false
set_option linter.unusedSimpArgs false
attribute [local go_sem] run_store_one

theorem namesX_short (x : X) : (namesX x).length ≤ sizeX x := namesX_le x
theorem freeX_short (x : X) : (freeX x).length ≤ sizeX x := by
  have := addAll_le (namesX x) []
  have := namesX_le x
  unfold freeX
  simp at *
  omega

/-- What is known of the last region's values. -/
def partsF (ax sx : Value) (tx ts : Int) (l : List ByteArray) (i : Nat) (v : Value) (w : World) : Prop := match i with
  | 0 | 1 | 6 | 7 | 8 | 13 | 14 | 15 | 20 | 21 | 22 => v = .bool true
  | 2 | 4 | 16 | 18 => v = ax
  | 9 | 11 => v = sx
  | 3 | 5 => v = .int .i64 tx
  | 10 | 12 => v = .int .i64 ts
  | 17 | 19 => SStr w l v
  | _ => True
theorem partsF_ext {ax sx : Value} {tx ts : Int} {l : List ByteArray} {i : Nat} {v : Value} {w w' : World} (h : partsF ax sx tx ts l i v w) (hx : Ext w w') : partsF ax sx tx ts l i v w' := by
  unfold partsF at *
  split at h <;> first | exact h | exact SStr.ext h hx
/-- A contract that holds in every later world, of a result that is known by its contents. -/
def SCalls (P : Program) (f : FuncId) (args : Array Value) (W : World) (l : List ByteArray) : Prop := ∀ w, Ext W w → Calls P f args w fun x w' => ∃ v, x = .returned v ∧ SStr w' l v ∧ Ext w w'

set_option maxRecDepth 20000 in
set_option maxHeartbeats 4000000 in
theorem lawParts_any (B : Nat) (x : X) (s : S) (w : World) (cx cs : List Value) (hT : Tabs w) (hB : B ≤ w.heap.size) (hx : RX w B x cx) (hs : RS w B s cs) (zx : sizeX x ≤ 100000000) (zs : sizeS s ≤ 100000000) (Vx : VX x) (Vs : VS s) :
    Calls Tryd.prog 3 #[.agg cx.toArray, .agg cs.toArray] w fun e w' => e = .returned (.bool true) ∧ Ext w w' := by
  have HX := hide hx
  have HS := hide hs
  have HTab := hide hT
  obtain ⟨x5, rfl, hx5⟩ := RX_iff.1 hx
  obtain ⟨s2, s3, rfl, hs2, hs3⟩ := RS_iff.1 hs
  have ox := hx5.oneCell
  have os2 := hs2.oneCell
  have os3 := hs3.oneCell
  clear hx hs hT hx5 hs2 hs3
  obtain ⟨W1, e1, hV1, hx1, -, c0, c1, c2, c3, c4, c5⟩ := boxL6 w (.int .i64 x.op) (.string x.name) (.int .i64 x.n) (.int .i64 x.w) (.int .u64 x.v) x5 25
  obtain ⟨W2, e2, hV2, hx2, -, i0, i1, i2, i3⟩ := boxL4 e1.w (.int .i64 s.op) (.string s.name) s2 s3 28
  have q12 := e1.ext.trans hx2
  have q02 := hx1.trans q12
  have c0 := cellL c0 q12
  have c1 := cellL c1 q12
  have c2 := cellL c2 q12
  have c3 := cellL c3 q12
  have c4 := cellL c4 q12
  have c5 := cellL c5 q12
  have hB2 : B ≤ W2.heap.size := Nat.le_trans hB q02.size
  have GL := hide (show ECalls Tryd.prog 11 #[] W2 (.bool true) from fun w' hw => live_any w' (HTab.out.ext (q02.trans hw)))
  have GX := hide (show ECalls Tryd.prog 12 #[.agg #[.int .i64 x.op, .string x.name, .int .i64 x.n, .int .i64 x.w, .int .u64 x.v, x5]] W2 (.bool (yes (fewP (sizeX x) (deepX x)))) from fun w' hw => fewX_any B x w' _ (HX.out.ext (q02.trans hw) hB) (Nat.le_trans hB2 hw.size) (by omega))
  have GS := hide (show ECalls Tryd.prog 13 #[.agg #[.int .i64 s.op, .string s.name, s2, s3]] W2 (.bool (yes (fewP (sizeS s) (deepS s)))) from fun w' hw => fewS_any B s w' _ (HS.out.ext (q02.trans hw) hB) (Nat.le_trans hB2 hw.size) (by omega))
  have K3 := hide (show ECalls Tryd.prog 14 #[.agg #[.int .i64 x.op, .string x.name, .int .i64 x.n, .int .i64 x.w, .int .u64 x.v, x5]] W2 (.int .i64 (checkX x)) from fun w' hw => CheckX_any B x w' _ (HTab.out.ext (q02.trans hw)) (HX.out.ext (q02.trans hw) hB) (Nat.le_trans hB2 hw.size) (by omega) Vx)
  have K5 := hide (show ECalls Tryd.prog 15 #[.agg #[.int .i64 x.op, .string x.name, .int .i64 x.n, .int .i64 x.w, .int .u64 x.v, x5]] W2 (.int .i64 (checkX x)) from fun w' hw => refCheckX_any B x w' _ (HX.out.ext (q02.trans hw) hB) (Nat.le_trans hB2 hw.size) (by omega) Vx)
  have K10 := hide (show ECalls Tryd.prog 16 #[.agg #[.int .i64 s.op, .string s.name, s2, s3]] W2 (.int .i64 (checkS s)) from fun w' hw => CheckS_any B s w' _ (HTab.out.ext (q02.trans hw)) (HS.out.ext (q02.trans hw) hB) (Nat.le_trans hB2 hw.size) (by omega) Vs)
  have K12 := hide (show ECalls Tryd.prog 17 #[.agg #[.int .i64 s.op, .string s.name, s2, s3]] W2 (.int .i64 (checkS s)) from fun w' hw => refCheckS_any B s w' _ (HS.out.ext (q02.trans hw) hB) (Nat.le_trans hB2 hw.size) (by omega) Vs)
  have K17 := hide (show SCalls Tryd.prog 19 #[.agg #[.int .i64 x.op, .string x.name, .int .i64 x.n, .int .i64 x.w, .int .u64 x.v, x5]] W2 (freeX x) from fun w' hw => (Free_any B x w' _ (HX.out.ext (q02.trans hw) hB) (Nat.le_trans hB2 hw.size) zx).mono fun _ _ ⟨v, h1, h2, h3⟩ => ⟨v, h1, SStr.of_row h2, h3⟩)
  have K19 := hide (show SCalls Tryd.prog 20 #[.agg #[.int .i64 x.op, .string x.name, .int .i64 x.n, .int .i64 x.w, .int .u64 x.v, x5]] W2 (freeX x) from fun w' hw => (refFree_any B x w' _ (HX.out.ext (q02.trans hw) hB) (Nat.le_trans hB2 hw.size) zx).mono fun _ _ ⟨v, h1, h2, h3⟩ => ⟨v, h1, SStr.of_row h2, h3⟩)
  have K20 := hide (fun (w' : World) (v u : Value) (h1 : SStr w' (freeX x) v) (h2 : SStr w' (freeX x) u) => (show Calls Tryd.prog 18 #[v, u] w' (fun e w'' => e = .returned (.bool true) ∧ Ext w' w'') from
    (refTexts_any _ _ w' v u h1 h2 (by have := freeX_short x; omega) (by have := freeX_short x; omega)).mono fun e w'' ⟨h3, h4⟩ => ⟨by rw [h3, yes_iff.2 rfl], h4⟩))
  have Q02 := hide q02
  clear HX HS HTab hx1 hx2 q12 q02 zx zs Vx Vs
  generalize yes (fewP (sizeX x) (deepX x)) = b1 at *
  generalize yes (fewP (sizeS s) (deepS s)) = b2 at *
  generalize checkX x = tx at *
  generalize checkS s = ts at *
  generalize freeX x = fl at *
  go_enter Tryd.func3, Tryd.ntmps3
  go_wp2_with (first
    | (go_at_call 11; refine (GL.out.at_ _).mono ?_; rintro _ _ ⟨rfl, e, rfl⟩)
    | (go_at_call 12; refine (GX.out.at_ _).mono ?_; rintro _ _ ⟨rfl, e, rfl⟩)
    | (go_at_call 13; refine (GS.out.at_ _).mono ?_; rintro _ _ ⟨rfl, e, rfl⟩))
  all_goals
    first
      | (go_ret
         exact ⟨rfl, Q02.out.trans (Later.ext _)⟩)
      | skip
  refine wp_region_facts_g (W := W2) (partsF (.agg #[.int .i64 x.op, .string x.name, .int .i64 x.n, .int .i64 x.w, .int .u64 x.v, x5]) (.agg #[.int .i64 s.op, .string s.name, s2, s3]) tx ts fl) (by kernel_rfl) (by kernel_rfl) ?_ (Later.ext _) (fun i v w w' h hx => partsF_ext h hx) ?_ ?_
  · simp [GuardsMet, partsF]
  · refine ⟨?_, ?_, ?_, ?_, ?_, ?_, ?_, ?_, ?_, ?_, ?_, ?_, ?_, ?_, ?_, ?_, ?_, ?_, ?_, ?_, ?_, ?_, ?_, trivial⟩
    · intro A wa hxa hd h0
      obtain ⟨ea, rfl⟩ := Later.mk_ex hxa
      have r5 := rest_at h0 5 (by kernel_rfl)
      simp at r5
      clear hd h0
      go_simp
      first | exact ⟨_, rfl, Ext.refl _, rfl⟩ | exact ⟨Ext.refl _, rfl⟩ | exact rfl | exact ⟨_, rfl, rfl⟩
    · intro A wa hxa hd h0
      obtain ⟨ea, rfl⟩ := Later.mk_ex hxa
      have q0 := depOn hd 0 16 (by kernel_rfl) rfl
      simp [partsF] at q0
      clear hd h0
      go_simp
      first | exact ⟨_, rfl, Ext.refl _, rfl⟩ | exact ⟨Ext.refl _, rfl⟩ | exact rfl | exact ⟨_, rfl, rfl⟩
    · intro A wa hxa hd h0
      obtain ⟨ea, rfl⟩ := Later.mk_ex hxa
      have r2 := rest_at h0 2 (by kernel_rfl)
      simp at r2
      clear hd h0
      go_simp
      first | exact ⟨_, rfl, Ext.refl _, rfl⟩ | exact ⟨Ext.refl _, rfl⟩ | exact rfl | exact ⟨_, rfl, rfl⟩
    · intro A wa hxa hd h0
      obtain ⟨ea, rfl⟩ := Later.mk_ex hxa
      have q2 := depOn hd 2 18 (by kernel_rfl) rfl
      simp [partsF] at q2
      clear hd h0
      go_simp
      refine (K3.out _ ea.ext).mono ?_
      rintro e w2 ⟨rfl, hx⟩
      go_simp
      first | exact ⟨_, rfl, hx, rfl⟩ | exact ⟨hx, rfl⟩ | exact rfl | exact ⟨_, rfl, rfl⟩
    · intro A wa hxa hd h0
      obtain ⟨ea, rfl⟩ := Later.mk_ex hxa
      have r2 := rest_at h0 2 (by kernel_rfl)
      simp at r2
      clear hd h0
      go_simp
      first | exact ⟨_, rfl, Ext.refl _, rfl⟩ | exact ⟨Ext.refl _, rfl⟩ | exact rfl | exact ⟨_, rfl, rfl⟩
    · intro A wa hxa hd h0
      obtain ⟨ea, rfl⟩ := Later.mk_ex hxa
      have q4 := depOn hd 4 20 (by kernel_rfl) rfl
      simp [partsF] at q4
      clear hd h0
      go_simp
      refine (K5.out _ ea.ext).mono ?_
      rintro e w2 ⟨rfl, hx⟩
      go_simp
      first | exact ⟨_, rfl, hx, rfl⟩ | exact ⟨hx, rfl⟩ | exact rfl | exact ⟨_, rfl, rfl⟩
    · intro A wa hxa hd h0
      obtain ⟨ea, rfl⟩ := Later.mk_ex hxa
      have q3 := depOn hd 3 19 (by kernel_rfl) rfl
      simp [partsF] at q3
      have q5 := depOn hd 5 21 (by kernel_rfl) rfl
      simp [partsF] at q5
      clear hd h0
      go_simp
      first | exact ⟨_, rfl, Ext.refl _, rfl⟩ | exact ⟨Ext.refl _, rfl⟩ | exact rfl | exact ⟨_, rfl, rfl⟩
    · intro A wa hxa hd h0
      obtain ⟨ea, rfl⟩ := Later.mk_ex hxa
      have q1 := depOn hd 1 17 (by kernel_rfl) rfl
      simp [partsF] at q1
      have q6 := depOn hd 6 22 (by kernel_rfl) rfl
      simp [partsF] at q6
      clear hd h0
      go_simp
      first | exact ⟨_, rfl, Ext.refl _, rfl⟩ | exact ⟨Ext.refl _, rfl⟩ | exact rfl | exact ⟨_, rfl, rfl⟩
    · intro A wa hxa hd h0
      obtain ⟨ea, rfl⟩ := Later.mk_ex hxa
      have q7 := depOn hd 7 23 (by kernel_rfl) rfl
      simp [partsF] at q7
      clear hd h0
      go_simp
      first | exact ⟨_, rfl, Ext.refl _, rfl⟩ | exact ⟨Ext.refl _, rfl⟩ | exact rfl | exact ⟨_, rfl, rfl⟩
    · intro A wa hxa hd h0
      obtain ⟨ea, rfl⟩ := Later.mk_ex hxa
      have r3 := rest_at h0 3 (by kernel_rfl)
      simp at r3
      clear hd h0
      go_simp
      first | exact ⟨_, rfl, Ext.refl _, rfl⟩ | exact ⟨Ext.refl _, rfl⟩ | exact rfl | exact ⟨_, rfl, rfl⟩
    · intro A wa hxa hd h0
      obtain ⟨ea, rfl⟩ := Later.mk_ex hxa
      have q9 := depOn hd 9 25 (by kernel_rfl) rfl
      simp [partsF] at q9
      clear hd h0
      go_simp
      refine (K10.out _ ea.ext).mono ?_
      rintro e w2 ⟨rfl, hx⟩
      go_simp
      first | exact ⟨_, rfl, hx, rfl⟩ | exact ⟨hx, rfl⟩ | exact rfl | exact ⟨_, rfl, rfl⟩
    · intro A wa hxa hd h0
      obtain ⟨ea, rfl⟩ := Later.mk_ex hxa
      have r3 := rest_at h0 3 (by kernel_rfl)
      simp at r3
      clear hd h0
      go_simp
      first | exact ⟨_, rfl, Ext.refl _, rfl⟩ | exact ⟨Ext.refl _, rfl⟩ | exact rfl | exact ⟨_, rfl, rfl⟩
    · intro A wa hxa hd h0
      obtain ⟨ea, rfl⟩ := Later.mk_ex hxa
      have q11 := depOn hd 11 27 (by kernel_rfl) rfl
      simp [partsF] at q11
      clear hd h0
      go_simp
      refine (K12.out _ ea.ext).mono ?_
      rintro e w2 ⟨rfl, hx⟩
      go_simp
      first | exact ⟨_, rfl, hx, rfl⟩ | exact ⟨hx, rfl⟩ | exact rfl | exact ⟨_, rfl, rfl⟩
    · intro A wa hxa hd h0
      obtain ⟨ea, rfl⟩ := Later.mk_ex hxa
      have q10 := depOn hd 10 26 (by kernel_rfl) rfl
      simp [partsF] at q10
      have q12 := depOn hd 12 28 (by kernel_rfl) rfl
      simp [partsF] at q12
      clear hd h0
      go_simp
      first | exact ⟨_, rfl, Ext.refl _, rfl⟩ | exact ⟨Ext.refl _, rfl⟩ | exact rfl | exact ⟨_, rfl, rfl⟩
    · intro A wa hxa hd h0
      obtain ⟨ea, rfl⟩ := Later.mk_ex hxa
      have q8 := depOn hd 8 24 (by kernel_rfl) rfl
      simp [partsF] at q8
      have q13 := depOn hd 13 29 (by kernel_rfl) rfl
      simp [partsF] at q13
      clear hd h0
      go_simp
      first | exact ⟨_, rfl, Ext.refl _, rfl⟩ | exact ⟨Ext.refl _, rfl⟩ | exact rfl | exact ⟨_, rfl, rfl⟩
    · intro A wa hxa hd h0
      obtain ⟨ea, rfl⟩ := Later.mk_ex hxa
      have q14 := depOn hd 14 30 (by kernel_rfl) rfl
      simp [partsF] at q14
      clear hd h0
      go_simp
      first | exact ⟨_, rfl, Ext.refl _, rfl⟩ | exact ⟨Ext.refl _, rfl⟩ | exact rfl | exact ⟨_, rfl, rfl⟩
    · intro A wa hxa hd h0
      obtain ⟨ea, rfl⟩ := Later.mk_ex hxa
      have r2 := rest_at h0 2 (by kernel_rfl)
      simp at r2
      clear hd h0
      go_simp
      first | exact ⟨_, rfl, Ext.refl _, rfl⟩ | exact ⟨Ext.refl _, rfl⟩ | exact rfl | exact ⟨_, rfl, rfl⟩
    · intro A wa hxa hd h0
      obtain ⟨ea, rfl⟩ := Later.mk_ex hxa
      have q16 := depOn hd 16 32 (by kernel_rfl) rfl
      simp [partsF] at q16
      clear hd h0
      go_simp
      refine (K17.out _ ea.ext).mono ?_
      rintro e w2 ⟨v, rfl, hs, hx⟩
      go_simp
      first | exact ⟨_, rfl, hx, hs⟩ | exact ⟨hx, hs⟩ | exact hs | exact ⟨_, rfl, hs⟩
    · intro A wa hxa hd h0
      obtain ⟨ea, rfl⟩ := Later.mk_ex hxa
      have r2 := rest_at h0 2 (by kernel_rfl)
      simp at r2
      clear hd h0
      go_simp
      first | exact ⟨_, rfl, Ext.refl _, rfl⟩ | exact ⟨Ext.refl _, rfl⟩ | exact rfl | exact ⟨_, rfl, rfl⟩
    · intro A wa hxa hd h0
      obtain ⟨ea, rfl⟩ := Later.mk_ex hxa
      have q18 := depOn hd 18 34 (by kernel_rfl) rfl
      simp [partsF] at q18
      clear hd h0
      go_simp
      refine (K19.out _ ea.ext).mono ?_
      rintro e w2 ⟨v, rfl, hs, hx⟩
      go_simp
      first | exact ⟨_, rfl, hx, hs⟩ | exact ⟨hx, hs⟩ | exact hs | exact ⟨_, rfl, hs⟩
    · intro A wa hxa hd h0
      obtain ⟨ea, rfl⟩ := Later.mk_ex hxa
      have q17 : SStr ea.w fl (A.tmps.getD 33 undef) := depOn hd 17 33 (by kernel_rfl) rfl
      have q19 : SStr ea.w fl (A.tmps.getD 35 undef) := depOn hd 19 35 (by kernel_rfl) rfl
      have KT := hide (K20.out _ _ _ q17 q19)
      clear q17 q19 hd h0
      simp at KT
      go_simp
      refine KT.out.mono ?_
      rintro e w2 ⟨rfl, hx⟩
      go_simp
      first | exact ⟨_, rfl, hx, rfl⟩ | exact ⟨hx, rfl⟩ | exact rfl | exact ⟨_, rfl, rfl⟩
    · intro A wa hxa hd h0
      obtain ⟨ea, rfl⟩ := Later.mk_ex hxa
      have q15 := depOn hd 15 31 (by kernel_rfl) rfl
      simp [partsF] at q15
      have q20 := depOn hd 20 36 (by kernel_rfl) rfl
      simp [partsF] at q20
      clear hd h0
      go_simp
      first | exact ⟨_, rfl, Ext.refl _, rfl⟩ | exact ⟨Ext.refl _, rfl⟩ | exact rfl | exact ⟨_, rfl, rfl⟩
    · intro A wa hxa hd h0
      obtain ⟨ea, rfl⟩ := Later.mk_ex hxa
      have q21 := depOn hd 21 37 (by kernel_rfl) rfl
      simp [partsF] at q21
      clear hd h0
      go_simp
      first | exact ⟨_, rfl, Ext.refl _, rfl⟩ | exact ⟨Ext.refl _, rfl⟩ | exact rfl | exact ⟨_, rfl, rfl⟩
  · intro A wa hk
    obtain ⟨hxa, hsz, hdf, hdn, hrs⟩ := hk
    obtain ⟨ea, rfl⟩ := Later.mk_ex hxa
    have t4 : A.tmps.getD 4 undef = .bool true := hdn 22 4 rfl rfl
    clear hdn hrs
    rw [act_lit hsz hdf]
    simp [List.range, List.range.loop] at t4
    simp [List.range, List.range.loop, t4]
    clear t4 hsz hdf
    generalize A.tmps[0]?.getD undef = A0 at *
    generalize A.tmps[1]?.getD undef = A1 at *
    generalize A.tmps[2]?.getD undef = A2 at *
    generalize A.tmps[3]?.getD undef = A3 at *
    generalize A.tmps[5]?.getD undef = A5 at *
    generalize A.tmps[6]?.getD undef = A6 at *
    generalize A.tmps[7]?.getD undef = A7 at *
    generalize A.tmps[8]?.getD undef = A8 at *
    generalize A.tmps[9]?.getD undef = A9 at *
    generalize A.tmps[10]?.getD undef = A10 at *
    generalize A.tmps[11]?.getD undef = A11 at *
    generalize A.tmps[12]?.getD undef = A12 at *
    generalize A.tmps[13]?.getD undef = A13 at *
    generalize A.tmps[14]?.getD undef = A14 at *
    generalize A.tmps[15]?.getD undef = A15 at *
    generalize A.tmps[16]?.getD undef = A16 at *
    generalize A.tmps[17]?.getD undef = A17 at *
    generalize A.tmps[18]?.getD undef = A18 at *
    generalize A.tmps[19]?.getD undef = A19 at *
    generalize A.tmps[20]?.getD undef = A20 at *
    generalize A.tmps[21]?.getD undef = A21 at *
    generalize A.tmps[22]?.getD undef = A22 at *
    generalize A.tmps[23]?.getD undef = A23 at *
    generalize A.tmps[24]?.getD undef = A24 at *
    generalize A.tmps[25]?.getD undef = A25 at *
    generalize A.tmps[26]?.getD undef = A26 at *
    generalize A.tmps[27]?.getD undef = A27 at *
    generalize A.tmps[28]?.getD undef = A28 at *
    generalize A.tmps[29]?.getD undef = A29 at *
    generalize A.tmps[30]?.getD undef = A30 at *
    generalize A.tmps[31]?.getD undef = A31 at *
    generalize A.tmps[32]?.getD undef = A32 at *
    generalize A.tmps[33]?.getD undef = A33 at *
    generalize A.tmps[34]?.getD undef = A34 at *
    generalize A.tmps[35]?.getD undef = A35 at *
    generalize A.tmps[36]?.getD undef = A36 at *
    generalize A.tmps[37]?.getD undef = A37 at *
    go_wp2_with fail
    go_ret
    exact ⟨rfl, Q02.out.trans (Later.ext _)⟩

end Go.Proofs.YtmpoheemnjpoeaaDoor
