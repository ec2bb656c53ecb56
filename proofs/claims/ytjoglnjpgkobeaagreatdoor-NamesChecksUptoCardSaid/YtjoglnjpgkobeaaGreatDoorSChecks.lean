import Derived.Test.YtjoglnjpgkobeaaGreatDoorProg
import Derived.Test.YtjoglnjpgkobeaaGreatDoorCards
import Derived.Test.YtjoglnjpgkobeaaGreatDoorTie
import Derived.Test.YtjoglnjpgkobeaaGreatDoorS33
import Derived.Test.YtjoglnjpgkobeaaGreatDoorS38
import Derived.Test.YtjoglnjpgkobeaaGreatDoorS20
set_option linter.all false
set_option linter.unusedVariables false
set_option linter.unusedSimpArgs false
namespace Go.Proofs.YtjoglnjpgkobeaaGreatDoor
open Go Go.RowKit
attribute [local go_sem] run_store_one
set_option maxRecDepth 20000 in
set_option maxHeartbeats 8000000 in
theorem lawNChecks_any (B : Nat) (f : List Mdl) (w : World) (vf : Value) (hT : Tabs w) (hB : B ≤ w.heap.size) (hS : Sl (RM w B) w B 4 f vf) (hsz : msize sizeM f ≤ 10000000) (hvx : ∀ m, m ∈ f → VM m) :
   Calls Tryz.prog 3 #[.agg #[vf]] w fun e w' => e = .returned (.bool true) ∧ Ext w w' := by
 have HS := hide hS
 have HTab := hide hT
 have hln := length_le_msize sizeM f sizeM_pos
 obtain ⟨a, cap, rfl, hcap, hrow⟩ := hS
 obtain ⟨W1, e1, hV1, hx1, -, a0⟩ := boxL1 w (.slice a f.length cap) 24
 have hB1 : B ≤ W1.heap.size := Nat.le_trans hB hx1.size
 have GL := hide (show ECalls Tryz.prog 8 #[] W1 (.bool true) from fun w' hw => live7_any w' (HTab.out.ext (hx1.trans hw)))
 have GF := hide (show ECalls Tryz.prog 9 #[.agg #[.slice a f.length cap]] W1 (.bool (yes (fewP (msize sizeM f) (mdeep deepM f)))) from fun w' hw => few7_any B f w' _ (HS.out.extRM (hx1.trans hw) hB) (Nat.le_trans hB1 hw.size) (by omega))
 have CF := hide (show ECalls Tryz.prog 10 #[.agg #[.slice a f.length cap]] W1 (.int .i64 (checkN f)) from fun w' hw => checkN_any B f w' _ (HTab.out.ext (hx1.trans hw)) (HS.out.extRM (hx1.trans hw) hB) (Nat.le_trans hB1 hw.size) hsz hvx)
 have CR := hide (fun (h2 : msize sizeM f ≤ 2000) => show ECalls Tryz.prog 11 #[.agg #[.slice a f.length cap]] W1 (.int .i64 (checkN f)) from fun w' hw => rcheck_any B f w' _ (HS.out.extRM (hx1.trans hw) hB) (Nat.le_trans hB1 hw.size) (by omega) hvx)
 have Q01 := hide hx1
 clear hcap hrow hx1 hT hvx
 cases hb1 : yes (fewP (msize sizeM f) (mdeep deepM f)) with
 | false =>
   rw [hb1] at GF
   clear CF CR
   go_enter Tryz.func3, Tryz.ntmps3
   go_wp2_with (first
     | (go_at_call 8; refine (GL.out.at_ _).mono ?_; rintro _ _ ⟨rfl, e, rfl⟩)
     | (go_at_call 9; with_reducible refine (GF.out.at_ _).mono ?_; rintro _ _ ⟨rfl, e, rfl⟩))
   go_ret
   exact ⟨rfl, Q01.out.trans (Later.ext _)⟩
 | true =>
   rw [hb1] at GF
   have CR := hide (CR.out (yes_iff.1 hb1).1)
   clear hb1
   obtain ⟨c, hc⟩ : ∃ c, c = checkN f := ⟨_, rfl⟩
   rw [← hc] at CF CR
   clear hc
   go_enter Tryz.func3, Tryz.ntmps3
   go_wp2_with (first
     | (go_at_call 8; refine (GL.out.at_ _).mono ?_; rintro _ _ ⟨rfl, e, rfl⟩)
     | (go_at_call 9; with_reducible refine (GF.out.at_ _).mono ?_; rintro _ _ ⟨rfl, e, rfl⟩))
   refine wp_region_facts_n (W := W1) (eqF [.bool true, .bool true, .agg #[.slice a f.length cap], .int .i64 c, .agg #[.slice a f.length cap], .int .i64 c, .bool true, .bool true, .bool true]) (fun i => match i with  | _ => true) (by kernel_rfl) (by kernel_rfl) ?_ (Later.ext _) (fun i v w w' h hx => eqF_ext h hx) ?_ ?_
   · simp [GuardsSay, eqF] <;> (intro h; cases h)
   · refine ⟨?_, ?_, ?_, ?_, ?_, ?_, ?_, ?_, ?_, trivial⟩
     · intro A wa hxa hd h0
       obtain ⟨ea, rfl⟩ := Later.mk_ex hxa
       have r3 := rest_at h0 3 (by kernel_rfl)
       simp at r3
       clear hd h0
       go_simp
       first | exact ⟨_, rfl, Ext.refl _, rfl⟩ | exact ⟨Ext.refl _, rfl⟩ | exact rfl | exact ⟨_, rfl, rfl⟩ | exact Ext.refl _ | (trace_state; fail)
     · intro A wa hxa hd h0
       obtain ⟨ea, rfl⟩ := Later.mk_ex hxa
       have q0 := depOn hd 0 11 (by kernel_rfl) rfl
       simp [eqF] at q0
       clear hd h0
       go_simp
       first | exact ⟨_, rfl, Ext.refl _, rfl⟩ | exact ⟨Ext.refl _, rfl⟩ | exact rfl | exact ⟨_, rfl, rfl⟩ | exact Ext.refl _ | (trace_state; fail)
     · intro A wa hxa hd h0
       obtain ⟨ea, rfl⟩ := Later.mk_ex hxa
       have r1 := rest_at h0 1 (by kernel_rfl)
       simp at r1
       clear hd h0
       go_simp
       first | exact ⟨_, rfl, Ext.refl _, rfl⟩ | exact ⟨Ext.refl _, rfl⟩ | exact rfl | exact ⟨_, rfl, rfl⟩ | exact Ext.refl _ | (trace_state; fail)
     · intro A wa hxa hd h0
       obtain ⟨ea, rfl⟩ := Later.mk_ex hxa
       have q2 := depOn hd 2 13 (by kernel_rfl) rfl
       simp [eqF] at q2
       clear hd h0
       go_simp
       refine (CF.out ea.w ea.ext).mono ?_
       rintro e w2 ⟨rfl, hx⟩
       go_simp
       first | exact ⟨_, rfl, hx, rfl⟩ | exact ⟨hx, rfl⟩ | exact rfl | exact ⟨_, rfl, rfl⟩ | (trace_state; fail)
     · intro A wa hxa hd h0
       obtain ⟨ea, rfl⟩ := Later.mk_ex hxa
       have r1 := rest_at h0 1 (by kernel_rfl)
       simp at r1
       clear hd h0
       go_simp
       first | exact ⟨_, rfl, Ext.refl _, rfl⟩ | exact ⟨Ext.refl _, rfl⟩ | exact rfl | exact ⟨_, rfl, rfl⟩ | exact Ext.refl _ | (trace_state; fail)
     · intro A wa hxa hd h0
       obtain ⟨ea, rfl⟩ := Later.mk_ex hxa
       have q4 := depOn hd 4 15 (by kernel_rfl) rfl
       simp [eqF] at q4
       clear hd h0
       go_simp
       refine (CR.out ea.w ea.ext).mono ?_
       rintro e w2 ⟨rfl, hx⟩
       go_simp
       first | exact ⟨_, rfl, hx, rfl⟩ | exact ⟨hx, rfl⟩ | exact rfl | exact ⟨_, rfl, rfl⟩ | (trace_state; fail)
     · intro A wa hxa hd h0
       obtain ⟨ea, rfl⟩ := Later.mk_ex hxa
       have q3 := depOn hd 3 14 (by kernel_rfl) rfl
       simp [eqF] at q3
       have q5 := depOn hd 5 16 (by kernel_rfl) rfl
       simp [eqF] at q5
       clear hd h0
       go_simp
       first | exact ⟨_, rfl, Ext.refl _, rfl⟩ | exact ⟨Ext.refl _, rfl⟩ | exact rfl | exact ⟨_, rfl, rfl⟩ | exact Ext.refl _ | (trace_state; fail)
     · intro A wa hxa hd h0
       obtain ⟨ea, rfl⟩ := Later.mk_ex hxa
       have q1 := depOn hd 1 12 (by kernel_rfl) rfl
       simp [eqF] at q1
       have q6 := depOn hd 6 17 (by kernel_rfl) rfl
       simp [eqF] at q6
       clear hd h0
       go_simp
       first | exact ⟨_, rfl, Ext.refl _, rfl⟩ | exact ⟨Ext.refl _, rfl⟩ | exact rfl | exact ⟨_, rfl, rfl⟩ | exact Ext.refl _ | (trace_state; fail)
     · intro A wa hxa hd h0
       obtain ⟨ea, rfl⟩ := Later.mk_ex hxa
       have q7 := depOn hd 7 18 (by kernel_rfl) rfl
       simp [eqF] at q7
       clear hd h0
       go_simp
       first | exact ⟨_, rfl, Ext.refl _, rfl⟩ | exact ⟨Ext.refl _, rfl⟩ | exact rfl | exact ⟨_, rfl, rfl⟩ | exact Ext.refl _ | (trace_state; fail)
   · intro A wa hk
     obtain ⟨hxa, hsz, hdf, hdn, hrs⟩ := hk
     obtain ⟨ea, rfl⟩ := Later.mk_ex hxa
     have k2 : A.tmps.getD 2 undef = .bool true := hdn 8 2 rfl rfl
     clear hdn hrs
     rw [act_lit hsz hdf]
     simp [List.range, List.range.loop] at k2
     simp [List.range, List.range.loop, k2]
     clear k2 hsz hdf
     generalize A.tmps[0]?.getD undef = A0 at *
     generalize A.tmps[1]?.getD undef = A1 at *
     generalize A.tmps[3]?.getD undef = A3 at *
     generalize A.tmps[4]?.getD undef = A4 at *
     generalize A.tmps[5]?.getD undef = A5 at *
     generalize A.tmps[6]?.getD undef = A6 at *
     generalize A.tmps[7]?.getD undef = A7 at *
     generalize A.tmps[8]?.getD undef = A8 at *
     generalize A.tmps[9]?.getD undef = A9 at *
     generalize A.tmps[10]?.getD undef = A10 at *
     generalize A.tmps[11]?.getD undef = A11 at *
     generalize A.tmps[12]?.getD undef = A12 at *
     generalize A.tmps[13]?.getD undef = A13 at *
     generalize A.tmps[14]?.getD undef = A14 at *
     generalize A.tmps[15]?.getD undef = A15 at *
     generalize A.tmps[16]?.getD undef = A16 at *
     generalize A.tmps[17]?.getD undef = A17 at *
     generalize A.tmps[18]?.getD undef = A18 at *
     go_wp2_with fail
     go_ret
     exact ⟨rfl, Q01.out.trans ea.ext⟩
end Go.Proofs.YtjoglnjpgkobeaaGreatDoor
namespace Go.Proofs.YtjoglnjpgkobeaaGreatDoor.namesChecks
open Go Go.ChangeShapes Go.WideShapes Go.ChangeAt Go.RowKit
set_option maxRecDepth 100000 in
theorem contract (H : Type) (enc : TypeId × Value → H) (W : World) (base : Nat) (args : Array Value) (ds gs : List (DataW H)) (before : List MemPlace)
   (hval : ∀ (j : Nat) t v, Tryz.f3.params[j]? = some t → args[j]? = some v → Value.okWide Tryz.prog W .any base t v)
   (hW : DataW.Whole enc Tryz.prog Tryz.f3.params.toList Rows.namesChecksSpec.vars false W args.toList ds gs before) (hb : Rows.uptoSmall H (ds ++ gs) = true) (hL : laidMetH Tryz.prog Rows.namesChecksUptoRow.laid W) (hsh : W.ShapedOpen Tryz.prog) :
   Calls Tryz.prog 3 args W fun e W' => ∃ v, e = .returned v ∧ Rows.namesChecksSpec.post enc Tryz.prog Tryz.f3 false true false false W args v W' := by
 have hT : Tabs W := tabs_of hL hsh
 have hW' := hW
 obtain ⟨p, q, hA0, hV, rfl, -, -⟩ := hW
 have hA : DataW.TrodAll enc Tryz.prog W 0 (fun _ => true) true Tryz.f3.params.toList args.toList ds p := hA0
 rw [Tryz.params3] at hA
 have hval' := hval
 rw [Tryz.params3] at hval'
 obtain ⟨a0, vs0, d0, ds0, p0, q0, hargs, rfl, rfl, h0, r0⟩ := trodAll_cons hA
 obtain ⟨rfl, rfl, rfl⟩ := trodAll_nil r0
 obtain rfl : args = #[a0] := by cases args; simp_all
 obtain ⟨rfl, rfl⟩ := trodVars_none hV
 have hb' := small_all hb
 simp only [List.append_nil, Rows.uptoBulkAll] at hb'
 obtain ⟨f0, v0, rfl, s0, w0, z0⟩ := open_file hval' 0 rfl rfl h0 (by omega)
 refine (lawNChecks_any W.heap.size f0 W v0 hT (Nat.le_refl _) s0 (by omega) w0).mono fun e W' he => ?_
 obtain ⟨rfl, hx⟩ := he
 exact ⟨_, rfl, post_true Tryz.underlying4 laidOut mapsIn full (s := Rows.namesChecksSpec) (ds := [d0]) (gs := []) rfl rfl (by rw [Tryz.params3]; decide) hW' rfl hx⟩
theorem reads (os : Os) {H : Type} (enc : TypeId × Value → H) : ∃ places, DataW.whole enc Tryz.prog ((laidWorld os).forCall (fun _ _ => 0) ⟨#[], #[zFile], []⟩).memory Tryz.f3.params.toList Rows.namesChecksSpec.vars false (#[zFile] : Array Value).toList 8 = some ([zFileD], [], places) :=
 ⟨[], by kernel_rfl⟩
set_option maxRecDepth 100000 in
theorem lifted (os : Os) (started : os.Started) (H : Type) (enc : TypeId × Value → H) (F : Stop.Interp) :
   ReturnsInHanded {} Tryz.checked os 3 .any ((Rows.OpenSpec.upto Rows.namesChecksSpec).preRow enc Tryz.prog Tryz.f3 Rows.namesChecksUptoRow.domain false Rows.namesChecksUptoRow.laid) (((Rows.OpenSpec.upto Rows.namesChecksSpec).at F).post enc Tryz.prog Tryz.f3 false true false false) := by
 obtain ⟨places, hx⟩ := reads os enc
 refine returnsInHanded_of_row (C := Tryz.checked) (s := Rows.OpenSpec.upto Rows.namesChecksSpec) ownNone started (by kernel_rfl) Tryz.func3
   (witness_row_at (enc := enc) (C := Tryz.checked) false (laidWorld os) #[zFile] rfl (by kernel_rfl) (by kernel_rfl) (by kernel_rfl)
     (OpenSpec.preRow_of_cond 8 hx (by kernel_rfl) (fun k hk => by cases hk; kernel_rfl) (by kernel_rfl) (laid_met os _))) ?_
 intro W base args ds gs before hval hW _ hcond _ hL hsh _
 exact contract H enc W base args ds gs before hval hW (hcond _ rfl) hL hsh
theorem saidUpto : Rows.NamesChecksUptoSaid :=
 OpenClaim.holds_of_cond 3 Tryz.f3 rfl rfl rfl rfl rfl rfl rfl ⟨rfl, rfl, rfl, rfl, rfl⟩ rfl rfl rfl rfl rfl (by kernel_rfl) Tryz.func3 (by kernel_rfl)
   (of_decide_eq_true (by kernel_rfl)) (by unfold Func.isWrapper; first | (rw [if_pos (by decide +kernel)]; kernel_rfl) | (rw [if_neg (by decide +kernel)]; exact ⟨rfl, rfl⟩))
   (fun os started H enc _ F => by rw [OpenClaim.pre_eq_preRow]; exact lifted os started H enc F)
theorem plain (f : FuncId) (fn : Func) (hf : Tryz.pinned.checked.prog.funcNamed "filigree/filigreelaw07.NamesChecks" = some f) (hfn : Tryz.pinned.checked.prog.funcs[f]? = some fn) :
   true = Tryz.pinned.checked.prog.looks [] ∧ ∀ (j : Nat) t, fn.params[j]? = some t → Tryz.pinned.checked.prog.wantsStandIn t = false := by
 obtain rfl : f = 3 := Option.some.inj ((show Tryz.prog.funcNamed "filigree/filigreelaw07.NamesChecks" = some 3 by kernel_rfl).symm.trans hf) |>.symm
 obtain rfl : fn = Tryz.f3 := (Option.some.inj (Tryz.func3.symm.trans hfn)).symm
 refine ⟨by kernel_rfl, fun j t ht => ?_⟩
 rw [Tryz.params3] at ht
 have hm := Array.mem_of_getElem? ht
 simp only [List.mem_toArray, List.mem_cons, List.not_mem_nil, or_false] at hm
 rcases hm with rfl
 · exact (show Tryz.prog.wantsStandIn 24 = false by kernel_rfl)
theorem cardUpto : Rows.NamesChecksUptoCardSaid :=
 Claim7.holds_tied_plain_at .later [] _ _ _ _ saidUpto (fun _ h => by cases h) (by kernel_rfl) (fun _ h => by cases h) namesChecksUpto_row_tie rfl ⟨rfl, rfl⟩ (by kernel_rfl) rfl plain (by kernel_rfl)
end Go.Proofs.YtjoglnjpgkobeaaGreatDoor.namesChecks
