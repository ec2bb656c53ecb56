/-
  THE LAW AstSame: WHAT IT COMPUTES.
-/
import Derived.Test.YtmpoheemnjpoeaaDoorLivePk
namespace Go.Proofs.YtmpoheemnjpoeaaDoor
open Go Go.RowKit
set_option linter.all false
set_option linter.unusedVariables false
set_option linter.unusedSimpArgs false
set_option linter.unusedVariables false
set_option linter.unusedSimpArgs false
attribute [local go_sem] run_store_one

set_option maxRecDepth 20000 in
set_option maxHeartbeats 2000000 in
theorem lawSame_any (B : Nat) (f g : List Mdl) (x y : X) (s t : S) (w : World) (vf vg : Value) (cx cy cs ct : List Value) (hT : Tabs w) (hB : B ≤ w.heap.size) (hf : Sl (RM w B) w B 4 f vf) (hg : Sl (RM w B) w B 4 g vg) (hx : RX w B x cx) (hy : RX w B y cy) (hs : RS w B s cs) (ht : RS w B t ct)
    (zf : msize sizeM f ≤ 1000000000) (zg : msize sizeM g ≤ 1000000000) (zx : sizeX x ≤ 1000000000) (zy : sizeX y ≤ 1000000000) (zs : sizeS s ≤ 1000000000) (zt : sizeS t ≤ 1000000000) :
    Calls Tryd.prog 4 #[.agg #[vf], .agg #[vg], .agg cx.toArray, .agg cy.toArray, .agg cs.toArray, .agg ct.toArray] w fun e w' => e = .returned (.bool true) ∧ Ext w w' := by
  have HF := hide hf
  have HG := hide hg
  have HX := hide hx
  have HY := hide hy
  have HS := hide hs
  have HT' := hide ht
  have HTab := hide hT
  have of_ := hf.oneCell
  have og := hg.oneCell
  obtain ⟨x5, rfl, hx5⟩ := RX_iff.1 hx
  obtain ⟨y5, rfl, hy5⟩ := RX_iff.1 hy
  obtain ⟨s2, s3, rfl, hs2, hs3⟩ := RS_iff.1 hs
  obtain ⟨t2, t3, rfl, ht2, ht3⟩ := RS_iff.1 ht
  have ox := hx5.oneCell
  have oy := hy5.oneCell
  have os2 := hs2.oneCell
  have os3 := hs3.oneCell
  have ot2 := ht2.oneCell
  have ot3 := ht3.oneCell
  clear hf hg hx hy hs ht hx5 hy5 hs2 hs3 ht2 ht3 hT
  obtain ⟨W1, e1, hV1, hx1, -, a0⟩ := boxL1 w vf 41
  obtain ⟨W2, e2, hV2, hx2, -, b0⟩ := boxL1 e1.w vg 41
  obtain ⟨W3, e3, hV3, hx3, -, c0, c1, c2, c3, c4, c5⟩ := boxL6 e2.w (.int .i64 x.op) (.string x.name) (.int .i64 x.n) (.int .i64 x.w) (.int .u64 x.v) x5 25
  obtain ⟨W4, e4, hV4, hx4, -, d0, d1, d2, d3, d4, d5⟩ := boxL6 e3.w (.int .i64 y.op) (.string y.name) (.int .i64 y.n) (.int .i64 y.w) (.int .u64 y.v) y5 25
  obtain ⟨W5, e5, hV5, hx5, -, i0, i1, i2, i3⟩ := boxL4 e4.w (.int .i64 s.op) (.string s.name) s2 s3 28
  obtain ⟨W6, e6, hV6, hx6, -, j0, j1, j2, j3⟩ := boxL4 e5.w (.int .i64 t.op) (.string t.name) t2 t3 28
  have q56 := e5.ext.trans hx6
  have q46 := (e4.ext.trans hx5).trans q56
  have q36 := (e3.ext.trans hx4).trans q46
  have q26 := (e2.ext.trans hx3).trans q36
  have q16 := (e1.ext.trans hx2).trans q26
  have q06 := hx1.trans q16
  have a0 := cellL a0 q16
  have b0 := cellL b0 q26
  have c0 := cellL c0 q36
  have c1 := cellL c1 q36
  have c2 := cellL c2 q36
  have c3 := cellL c3 q36
  have c4 := cellL c4 q36
  have c5 := cellL c5 q36
  have d0 := cellL d0 q46
  have d1 := cellL d1 q46
  have d2 := cellL d2 q46
  have d3 := cellL d3 q46
  have d4 := cellL d4 q46
  have d5 := cellL d5 q46
  have i0 := cellL i0 q56
  have i1 := cellL i1 q56
  have i2 := cellL i2 q56
  have i3 := cellL i3 q56
  have hB6 : B ≤ W6.heap.size := Nat.le_trans hB q06.size
  have GL := hide (show ECalls Tryd.prog 11 #[] W6 (.bool true) from fun w' hw => live_any w' (HTab.out.ext (q06.trans hw)))
  have GF := hide (show ECalls Tryd.prog 21 #[.agg #[vf]] W6 (.bool (yes (fewP (msize sizeM f) (mdeep deepM f)))) from fun w' hw => few_any B f w' vf (HF.out.extRM (q06.trans hw) hB) (Nat.le_trans hB6 hw.size) zf)
  have GG := hide (show ECalls Tryd.prog 21 #[.agg #[vg]] W6 (.bool (yes (fewP (msize sizeM g) (mdeep deepM g)))) from fun w' hw => few_any B g w' vg (HG.out.extRM (q06.trans hw) hB) (Nat.le_trans hB6 hw.size) zg)
  have GX := hide (show ECalls Tryd.prog 12 #[.agg #[.int .i64 x.op, .string x.name, .int .i64 x.n, .int .i64 x.w, .int .u64 x.v, x5]] W6 (.bool (yes (fewP (sizeX x) (deepX x)))) from fun w' hw => fewX_any B x w' _ (HX.out.ext (q06.trans hw) hB) (Nat.le_trans hB6 hw.size) zx)
  have GY := hide (show ECalls Tryd.prog 12 #[.agg #[.int .i64 y.op, .string y.name, .int .i64 y.n, .int .i64 y.w, .int .u64 y.v, y5]] W6 (.bool (yes (fewP (sizeX y) (deepX y)))) from fun w' hw => fewX_any B y w' _ (HY.out.ext (q06.trans hw) hB) (Nat.le_trans hB6 hw.size) zy)
  have GS := hide (show ECalls Tryd.prog 13 #[.agg #[.int .i64 s.op, .string s.name, s2, s3]] W6 (.bool (yes (fewP (sizeS s) (deepS s)))) from fun w' hw => fewS_any B s w' _ (HS.out.ext (q06.trans hw) hB) (Nat.le_trans hB6 hw.size) zs)
  have GT := hide (show ECalls Tryd.prog 13 #[.agg #[.int .i64 t.op, .string t.name, t2, t3]] W6 (.bool (yes (fewP (sizeS t) (deepS t)))) from fun w' hw => fewS_any B t w' _ (HT'.out.ext (q06.trans hw) hB) (Nat.le_trans hB6 hw.size) zt)
  have K1 := hide (show ECalls Tryd.prog 22 #[.agg #[vf], .agg #[vg]] W6 (.bool (same f g)) from fun w' hw => astSame_any B f g w' vf vg (HF.out.extRM (q06.trans hw) hB) (HG.out.extRM (q06.trans hw) hB) (Nat.le_trans hB6 hw.size) zf)
  have K2 := hide (show ECalls Tryd.prog 23 #[.agg #[vf], .agg #[vg]] W6 (.bool (same f g)) from fun w' hw => refSame_any B f g w' vf vg (HF.out.extRM (q06.trans hw) hB) (HG.out.extRM (q06.trans hw) hB) (Nat.le_trans hB6 hw.size) zf)
  have K3 := hide (show ECalls Tryd.prog 24 #[.agg #[.int .i64 x.op, .string x.name, .int .i64 x.n, .int .i64 x.w, .int .u64 x.v, x5], .agg #[.int .i64 y.op, .string y.name, .int .i64 y.n, .int .i64 y.w, .int .u64 y.v, y5]] W6 (.bool (same x y)) from
    fun w' hw => astSameX_any B x y w' _ _ (HX.out.ext (q06.trans hw) hB) (HY.out.ext (q06.trans hw) hB) (Nat.le_trans hB6 hw.size) zx)
  have K4 := hide (show ECalls Tryd.prog 25 #[.agg #[.int .i64 x.op, .string x.name, .int .i64 x.n, .int .i64 x.w, .int .u64 x.v, x5], .agg #[.int .i64 y.op, .string y.name, .int .i64 y.n, .int .i64 y.w, .int .u64 y.v, y5]] W6 (.bool (same x y)) from
    fun w' hw => refSameX_any B x y w' _ _ (HX.out.ext (q06.trans hw) hB) (HY.out.ext (q06.trans hw) hB) (Nat.le_trans hB6 hw.size) zx)
  have K5 := hide (show ECalls Tryd.prog 26 #[.agg #[.int .i64 s.op, .string s.name, s2, s3], .agg #[.int .i64 t.op, .string t.name, t2, t3]] W6 (.bool (same s t)) from
    fun w' hw => astSameS_any B s t w' _ _ (HS.out.ext (q06.trans hw) hB) (HT'.out.ext (q06.trans hw) hB) (Nat.le_trans hB6 hw.size) zs)
  have K6 := hide (show ECalls Tryd.prog 27 #[.agg #[.int .i64 s.op, .string s.name, s2, s3], .agg #[.int .i64 t.op, .string t.name, t2, t3]] W6 (.bool (same s t)) from
    fun w' hw => refSameS_any B s t w' _ _ (HS.out.ext (q06.trans hw) hB) (HT'.out.ext (q06.trans hw) hB) (Nat.le_trans hB6 hw.size) zs)
  have Q06 := hide q06
  clear HF HG HX HY HS HT' HTab hx1 hx2 hx3 hx4 hx5 hx6 q56 q46 q36 q26 q16 q06 zf zg zx zy zs zt
  generalize yes (fewP (msize sizeM f) (mdeep deepM f)) = b1 at *
  generalize yes (fewP (msize sizeM g) (mdeep deepM g)) = b2 at *
  generalize yes (fewP (sizeX x) (deepX x)) = b3 at *
  generalize yes (fewP (sizeX y) (deepX y)) = b4 at *
  generalize yes (fewP (sizeS s) (deepS s)) = b5 at *
  generalize yes (fewP (sizeS t) (deepS t)) = b6 at *
  generalize same f g = r1 at *
  generalize same x y = r2 at *
  generalize same s t = r3 at *
  go_enter Tryd.func4, Tryd.ntmps4
  go_wp2_with (first
    | (go_at_call 11; refine (GL.out.at_ _).mono ?_; rintro _ _ ⟨rfl, e, rfl⟩)
    | (go_at_call 21; with_reducible refine (GF.out.at_ _).mono ?_; rintro _ _ ⟨rfl, e, rfl⟩)
    | (go_at_call 21; with_reducible refine (GG.out.at_ _).mono ?_; rintro _ _ ⟨rfl, e, rfl⟩)
    | (go_at_call 12; with_reducible refine (GX.out.at_ _).mono ?_; rintro _ _ ⟨rfl, e, rfl⟩)
    | (go_at_call 12; with_reducible refine (GY.out.at_ _).mono ?_; rintro _ _ ⟨rfl, e, rfl⟩)
    | (go_at_call 13; with_reducible refine (GS.out.at_ _).mono ?_; rintro _ _ ⟨rfl, e, rfl⟩)
    | (go_at_call 13; with_reducible refine (GT.out.at_ _).mono ?_; rintro _ _ ⟨rfl, e, rfl⟩))
  all_goals
    first
      | (go_ret
         exact ⟨rfl, Q06.out.trans (Later.ext _)⟩)
      | (try simp only [List.append_eq, List.cons_append, List.nil_append]
         refine wp_region_later (W := W6) (by kernel_rfl) (by kernel_rfl) (Later.ext _) ?_
         repeat (go_big_quiet_step (first
           | (go_at_call 22; exact K1.out.at_ _) | (go_at_call 23; exact K2.out.at_ _)
           | (go_at_call 24; exact K3.out.at_ _) | (go_at_call 25; exact K4.out.at_ _)
           | (go_at_call 26; exact K5.out.at_ _) | (go_at_call 27; exact K6.out.at_ _)))
         refine wpQuiet_nil ?_
         rintro _ ⟨e, rfl⟩
         go_wp2_with fail
         go_ret
         exact ⟨rfl, Q06.out.trans e.ext⟩)

end Go.Proofs.YtmpoheemnjpoeaaDoor
