/-
  THE LAW AstEqual: WHAT IT COMPUTES.
-/
import Derived.Test.YtmpoheemnjpoeaaDoorLivePk
namespace Go.Proofs.YtmpoheemnjpoeaaDoor
open Go Go.RowKit
set_option linter.all false
set_option linter.unusedVariables false
set_option linter.unusedSimpArgs false
set_option linter.unusedVariables false
set_option linter.unusedSimpArgs false
attribute [local go_sem] run_store_one

theorem same_comm {α : Type} (x y : α) : same y x = same x y := by
  rw [Bool.eq_iff_iff, same_iff, same_iff]; exact eq_comm

set_option maxRecDepth 20000 in
set_option maxHeartbeats 2000000 in
theorem lawEqual_any (B : Nat) (f g h : List Mdl) (w : World) (vf vg vh : Value) (hT : Tabs w) (hB : B ≤ w.heap.size) (hf : Sl (RM w B) w B 4 f vf) (hg : Sl (RM w B) w B 4 g vg) (hh : Sl (RM w B) w B 4 h vh)
    (zf : msize sizeM f ≤ 1000000000) (zg : msize sizeM g ≤ 1000000000) (zh : msize sizeM h ≤ 1000000000) (Vf : ∀ m, m ∈ f → VM m) (Vg : ∀ m, m ∈ g → VM m) :
    Calls Tryd.prog 10 #[.agg #[vf], .agg #[vg], .agg #[vh]] w fun e w' => e = .returned (.bool true) ∧ Ext w w' := by
  have HF := hide hf
  have HG := hide hg
  have HH := hide hh
  have HTab := hide hT
  have of_ := hf.oneCell
  have og := hg.oneCell
  have oh := hh.oneCell
  clear hf hg hh hT
  obtain ⟨W1, e1, hV1, hx1, -, a0⟩ := boxL1 w vf 41
  obtain ⟨W2, e2, hV2, hx2, -, b0⟩ := boxL1 e1.w vg 41
  obtain ⟨W3, e3, hV3, hx3, -, c0⟩ := boxL1 e2.w vh 41
  have q23 := e2.ext.trans hx3
  have q13 := (e1.ext.trans hx2).trans q23
  have q03 := hx1.trans q13
  have a0 := cellL a0 q13
  have b0 := cellL b0 q23
  have hB3 : B ≤ W3.heap.size := Nat.le_trans hB q03.size
  have GL := hide (show ECalls Tryd.prog 11 #[] W3 (.bool true) from fun w' hw => live_any w' (HTab.out.ext (q03.trans hw)))
  have GF := hide (show ECalls Tryd.prog 21 #[.agg #[vf]] W3 (.bool (yes (fewP (msize sizeM f) (mdeep deepM f)))) from fun w' hw => few_any B f w' vf (HF.out.extRM (q03.trans hw) hB) (Nat.le_trans hB3 hw.size) zf)
  have GG := hide (show ECalls Tryd.prog 21 #[.agg #[vg]] W3 (.bool (yes (fewP (msize sizeM g) (mdeep deepM g)))) from fun w' hw => few_any B g w' vg (HG.out.extRM (q03.trans hw) hB) (Nat.le_trans hB3 hw.size) zg)
  have GH := hide (show ECalls Tryd.prog 21 #[.agg #[vh]] W3 (.bool (yes (fewP (msize sizeM h) (mdeep deepM h)))) from fun w' hw => few_any B h w' vh (HH.out.extRM (q03.trans hw) hB) (Nat.le_trans hB3 hw.size) zh)
  have CF := hide (show ECalls Tryd.prog 31 #[.agg #[vf]] W3 (.int .i64 (checkF f)) from fun w' hw => Check_any B f w' vf (HTab.out.ext (q03.trans hw)) (HF.out.extRM (q03.trans hw) hB) (Nat.le_trans hB3 hw.size) zf Vf)
  have CG := hide (show ECalls Tryd.prog 31 #[.agg #[vg]] W3 (.int .i64 (checkF g)) from fun w' hw => Check_any B g w' vg (HTab.out.ext (q03.trans hw)) (HG.out.extRM (q03.trans hw) hB) (Nat.le_trans hB3 hw.size) zg Vg)
  have SF := hide (show ECalls Tryd.prog 29 #[.agg #[vf]] W3 (.int .i64 (msize sizeM f : Nat)) from fun w' hw => astSize_any B f w' vf (HF.out.extRM (q03.trans hw) hB) (Nat.le_trans hB3 hw.size) zf)
  have SG := hide (show ECalls Tryd.prog 29 #[.agg #[vg]] W3 (.int .i64 (msize sizeM g : Nat)) from fun w' hw => astSize_any B g w' vg (HG.out.extRM (q03.trans hw) hB) (Nat.le_trans hB3 hw.size) zg)
  have DF := hide (show ECalls Tryd.prog 30 #[.agg #[vf]] W3 (.int .i64 (mdeep deepM f : Nat)) from fun w' hw => astDeep_any B f w' vf (HF.out.extRM (q03.trans hw) hB) (Nat.le_trans hB3 hw.size) zf)
  have DG := hide (show ECalls Tryd.prog 30 #[.agg #[vg]] W3 (.int .i64 (mdeep deepM g : Nat)) from fun w' hw => astDeep_any B g w' vg (HG.out.extRM (q03.trans hw) hB) (Nat.le_trans hB3 hw.size) zg)
  have K1 := hide (show ECalls Tryd.prog 22 #[.agg #[vf], .agg #[vg]] W3 (.bool (same f g)) from fun w' hw => astSame_any B f g w' vf vg (HF.out.extRM (q03.trans hw) hB) (HG.out.extRM (q03.trans hw) hB) (Nat.le_trans hB3 hw.size) zf)
  have K2 := hide (show ECalls Tryd.prog 22 #[.agg #[vf], .agg #[vf]] W3 (.bool true) from fun w' hw => same_self f ▸ astSame_any B f f w' vf vf (HF.out.extRM (q03.trans hw) hB) (HF.out.extRM (q03.trans hw) hB) (Nat.le_trans hB3 hw.size) zf)
  have K3 := hide (show ECalls Tryd.prog 22 #[.agg #[vg], .agg #[vf]] W3 (.bool (same f g)) from fun w' hw => same_comm f g ▸ astSame_any B g f w' vg vf (HG.out.extRM (q03.trans hw) hB) (HF.out.extRM (q03.trans hw) hB) (Nat.le_trans hB3 hw.size) zg)
  have K4 := hide (show ECalls Tryd.prog 22 #[.agg #[vg], .agg #[vh]] W3 (.bool (same g h)) from fun w' hw => astSame_any B g h w' vg vh (HG.out.extRM (q03.trans hw) hB) (HH.out.extRM (q03.trans hw) hB) (Nat.le_trans hB3 hw.size) zg)
  have K5 := hide (show ECalls Tryd.prog 22 #[.agg #[vf], .agg #[vh]] W3 (.bool (same f h)) from fun w' hw => astSame_any B f h w' vf vh (HF.out.extRM (q03.trans hw) hB) (HH.out.extRM (q03.trans hw) hB) (Nat.le_trans hB3 hw.size) zf)
  have Q03 := hide q03
  have hsame : same f g = true → g = f := fun h => (same_iff.1 h).symm
  clear HF HG HH HTab hx1 hx2 hx3 q23 q13 q03 zf zg zh Vf Vg
  generalize hb1 : yes (fewP (msize sizeM f) (mdeep deepM f)) = b1 at *
  generalize hb2 : yes (fewP (msize sizeM g) (mdeep deepM g)) = b2 at *
  generalize hb3 : yes (fewP (msize sizeM h) (mdeep deepM h)) = b3 at *
  clear hb1 hb2 hb3
  cases hr : same f g with
  | true =>
    obtain rfl := hsame hr
    rw [hr] at K1 K3
    clear hr hsame
    generalize same g h = r2 at *
    generalize checkF g = cf at *
    generalize msize sizeM g = sf at *
    generalize mdeep deepM g = df at *
    go_enter Tryd.func10, Tryd.ntmps10
    go_wp2_with (first
      | (go_at_call 11; refine (GL.out.at_ _).mono ?_; rintro _ _ ⟨rfl, e, rfl⟩)
      | (go_at_call 21; with_reducible refine (GF.out.at_ _).mono ?_; rintro _ _ ⟨rfl, e, rfl⟩)
      | (go_at_call 21; with_reducible refine (GG.out.at_ _).mono ?_; rintro _ _ ⟨rfl, e, rfl⟩)
      | (go_at_call 21; with_reducible refine (GH.out.at_ _).mono ?_; rintro _ _ ⟨rfl, e, rfl⟩)
      | (go_at_call 22; with_reducible refine (K1.out.at_ _).mono ?_; rintro _ _ ⟨rfl, e, rfl⟩))
    all_goals
      first
        | (go_ret
           exact ⟨rfl, Q03.out.trans (Later.ext _)⟩)
        | skip
    all_goals
      (refine wp_region_later (W := W3) (by kernel_rfl) (by kernel_rfl) (Later.ext _) ?_
       repeat (go_big_quiet_step (first
           | (go_at_call 31; with_reducible exact CF.out.at_ _) | (go_at_call 31; with_reducible exact CG.out.at_ _)
           | (go_at_call 29; with_reducible exact SF.out.at_ _) | (go_at_call 29; with_reducible exact SG.out.at_ _)
           | (go_at_call 30; with_reducible exact DF.out.at_ _) | (go_at_call 30; with_reducible exact DG.out.at_ _)
           | (go_at_call 22; with_reducible exact K2.out.at_ _) | (go_at_call 22; with_reducible exact K3.out.at_ _)
           | (go_at_call 22; with_reducible exact K4.out.at_ _) | (go_at_call 22; with_reducible exact K5.out.at_ _)))
       refine wpQuiet_nil ?_
       rintro _ ⟨e, rfl⟩
       go_wp2_with fail
       refine wp_region_later (W := W3) (by kernel_rfl) (by kernel_rfl) (Later.ext _) ?_
       repeat (go_big_quiet_step (first
           | (go_at_call 31; with_reducible exact CF.out.at_ _) | (go_at_call 31; with_reducible exact CG.out.at_ _)
           | (go_at_call 29; with_reducible exact SF.out.at_ _) | (go_at_call 29; with_reducible exact SG.out.at_ _)
           | (go_at_call 30; with_reducible exact DF.out.at_ _) | (go_at_call 30; with_reducible exact DG.out.at_ _)
           | (go_at_call 22; with_reducible exact K2.out.at_ _) | (go_at_call 22; with_reducible exact K3.out.at_ _)
           | (go_at_call 22; with_reducible exact K4.out.at_ _) | (go_at_call 22; with_reducible exact K5.out.at_ _)))
       refine wpQuiet_nil ?_
       rintro _ ⟨e, rfl⟩
       go_wp2_with fail
       go_ret
       exact ⟨rfl, Q03.out.trans e.ext⟩)
  | false =>
    rw [hr] at K1 K3
    clear hr hsame
    generalize same g h = r2 at *
    generalize same f h = r3 at *
    generalize checkF g = cg at *
    generalize msize sizeM g = sg at *
    generalize mdeep deepM g = dg at *
    generalize checkF f = cf at *
    generalize msize sizeM f = sf at *
    generalize mdeep deepM f = df at *
    go_enter Tryd.func10, Tryd.ntmps10
    go_wp2_with (first
      | (go_at_call 11; refine (GL.out.at_ _).mono ?_; rintro _ _ ⟨rfl, e, rfl⟩)
      | (go_at_call 21; with_reducible refine (GF.out.at_ _).mono ?_; rintro _ _ ⟨rfl, e, rfl⟩)
      | (go_at_call 21; with_reducible refine (GG.out.at_ _).mono ?_; rintro _ _ ⟨rfl, e, rfl⟩)
      | (go_at_call 21; with_reducible refine (GH.out.at_ _).mono ?_; rintro _ _ ⟨rfl, e, rfl⟩)
      | (go_at_call 22; with_reducible refine (K1.out.at_ _).mono ?_; rintro _ _ ⟨rfl, e, rfl⟩))
    all_goals
      first
        | (go_ret
           exact ⟨rfl, Q03.out.trans (Later.ext _)⟩)
        | skip
    all_goals
      (refine wp_region_later (W := W3) (by kernel_rfl) (by kernel_rfl) (Later.ext _) ?_
       repeat (go_big_quiet_step (first
           | (go_at_call 31; with_reducible exact CF.out.at_ _) | (go_at_call 31; with_reducible exact CG.out.at_ _)
           | (go_at_call 29; with_reducible exact SF.out.at_ _) | (go_at_call 29; with_reducible exact SG.out.at_ _)
           | (go_at_call 30; with_reducible exact DF.out.at_ _) | (go_at_call 30; with_reducible exact DG.out.at_ _)
           | (go_at_call 22; with_reducible exact K2.out.at_ _) | (go_at_call 22; with_reducible exact K3.out.at_ _)
           | (go_at_call 22; with_reducible exact K4.out.at_ _) | (go_at_call 22; with_reducible exact K5.out.at_ _)))
       refine wpQuiet_nil ?_
       rintro _ ⟨e, rfl⟩
       go_wp2_with fail
       refine wp_region_later (W := W3) (by kernel_rfl) (by kernel_rfl) (Later.ext _) ?_
       repeat (go_big_quiet_step (first
           | (go_at_call 31; with_reducible exact CF.out.at_ _) | (go_at_call 31; with_reducible exact CG.out.at_ _)
           | (go_at_call 29; with_reducible exact SF.out.at_ _) | (go_at_call 29; with_reducible exact SG.out.at_ _)
           | (go_at_call 30; with_reducible exact DF.out.at_ _) | (go_at_call 30; with_reducible exact DG.out.at_ _)
           | (go_at_call 22; with_reducible exact K2.out.at_ _) | (go_at_call 22; with_reducible exact K3.out.at_ _)
           | (go_at_call 22; with_reducible exact K4.out.at_ _) | (go_at_call 22; with_reducible exact K5.out.at_ _)))
       refine wpQuiet_nil ?_
       rintro _ ⟨e, rfl⟩
       go_wp2_with fail
       go_ret
       exact ⟨rfl, Q03.out.trans e.ext⟩)

end Go.Proofs.YtmpoheemnjpoeaaDoor
