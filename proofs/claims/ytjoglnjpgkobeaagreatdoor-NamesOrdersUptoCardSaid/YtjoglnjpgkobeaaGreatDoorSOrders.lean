import Derived.Test.YtjoglnjpgkobeaaGreatDoorProg
import Derived.Test.YtjoglnjpgkobeaaGreatDoorCards
import Derived.Test.YtjoglnjpgkobeaaGreatDoorTie
import Derived.Test.YtjoglnjpgkobeaaGreatDoorS33
import Derived.Test.YtjoglnjpgkobeaaGreatDoorSOrders1
import Derived.Test.YtjoglnjpgkobeaaGreatDoorS20
set_option linter.all false
set_option linter.unusedVariables false
set_option linter.unusedSimpArgs false
namespace Go.Proofs.YtjoglnjpgkobeaaGreatDoor
open Go Go.RowKit
attribute [local go_sem] run_store_one
theorem sstr_if {w : World} {c : Int} {l : List ByteArray} {v : Value} (h1 : c = 0→SStr w l v) (h2 : c≠0→v = .slice none 0 0) : SStr w (if c = 0 then l else []) v:=by
 by_cases h : c = 0
 · rw [if_pos h]; exact h1 h
 · rw [if_neg h,h2 h]; exact ⟨_,_,rfl,Nat.le_refl _,fun k hk => by cases hk⟩
set_option maxRecDepth 20000 in
set_option maxHeartbeats 8000000 in
theorem lawNOrders_any (B : Nat) (f : List Mdl) (top : ByteArray) (w : World) (vf : Value) (hT : Tabs w) (hB : B≤w.heap.size) (hS : Sl (RM w B) w B 4 f vf) (hsz : msize sizeM f≤10000000) (hvx : ∀ m,m ∈ f→VM m) (hst : top.size≤100000000) :
   Calls Tryz.prog 5 #[.agg #[vf],.string top] w fun e w' => e = .returned (.bool true)∧Ext w w':=by
 have HS:=hide hS
 have HTab:=hide hT
 have hln:=length_le_msize sizeM f sizeM_pos
 obtain ⟨a,cap,rfl,hcap,hrow⟩:=hS
 obtain ⟨W1,e1,hV1,hx1,-,a0⟩:=boxL1 w (.slice a f.length cap) 24
 have hB1 : B≤W1.heap.size:=Nat.le_trans hB hx1.size
 have GL:=hide (show ECalls Tryz.prog 8 #[] W1 (.bool true) from fun w' hw => live7_any w' (HTab.out.ext (hx1.trans hw)))
 have GF:=hide (show ECalls Tryz.prog 9 #[.agg #[.slice a f.length cap]] W1 (.bool (yes (fewP (msize sizeM f) (mdeep deepM f)))) from fun w' hw => few7_any B f w' _ (HS.out.extRM (hx1.trans hw) hB) (Nat.le_trans hB1 hw.size) (by omega))
 have HSX:=hide (fun (w' : World) (hw : Ext w w') => And.intro (HTab.out.ext hw) (And.intro (HS.out.extRM hw hB) (Nat.le_trans hB hw.size)))
 have GA:=hide (fun (w' : World) (hw : Ext w w') => orderN_any B f w' _ (HSX.out w' hw).1 (HSX.out w' hw).2.1 (HSX.out w' hw).2.2 hsz hvx)
 have GC:=hide (fun (w' : World) (hw : Ext w w') => below_any B f top w' _ (HSX.out w' hw).1 (HSX.out w' hw).2.1 (HSX.out w' hw).2.2 hsz hvx)
 have GB:=hide (fun (h2 : msize sizeM f≤2000) (w' : World) (hw : Ext w w') => rorderK_any B f w' _ (HSX.out w' hw).2.1 (HSX.out w' hw).2.2 (by omega) hvx)
 have GD:=hide (fun (h2 : msize sizeM f≤2000) (w' : World) (hw : Ext w w') => rbelow_any B f top w' _ (HSX.out w' hw).2.1 (HSX.out w' hw).2.2 (by omega) hvx)
 have Q01:=hide hx1
 clear hcap hrow hx1 hT hvx
 cases hb1 : yes (fewP (msize sizeM f) (mdeep deepM f)) with
 | false =>
   rw [hb1] at GF
   clear GA GB GC GD
   go_enter Tryz.func5,Tryz.ntmps5
   go_wp2_with (first
     | (go_at_call 8; refine (GL.out.at_ _).mono ?_; rintro _ _ ⟨rfl,e,rfl⟩)
     | (go_at_call 9; with_reducible refine (GF.out.at_ _).mono ?_; rintro _ _ ⟨rfl,e,rfl⟩))
   go_ret
   exact ⟨rfl,Q01.out.trans (Later.ext _)⟩
 | true =>
   rw [hb1] at GF
   have hfew:=(yes_iff.1 hb1).1
   have GB:=hide (GB.out hfew)
   have GD:=hide (GD.out hfew)
   clear hb1
   by_cases ht2 : (100 : Int) < (top.size : Int)
   · clear GA GB GC GD
     go_enter Tryz.func5,Tryz.ntmps5
     go_wp2_with (first
       | (go_at_call 8; refine (GL.out.at_ _).mono ?_; rintro _ _ ⟨rfl,e,rfl⟩)
       | (go_at_call 9; with_reducible refine (GF.out.at_ _).mono ?_; rintro _ _ ⟨rfl,e,rfl⟩))
     go_ret
     exact ⟨rfl,Q01.out.trans (Later.ext _)⟩
   have HOL:=hide (show (orderF f).length≤1000000000 from by
     have:=(orderF_end f).1.le
     omega)
   have HBL:=hide (show (belowN f top).length≤1000000000 from Nat.le_trans (below_sub f top).length_le HOL.out)
   obtain ⟨c,hc⟩ : ∃ c,c = checkN f:=⟨_,rfl⟩
   have HBE:=hide (show (if c = 0 then if (findM f top).isSome then 0 else 71 else c) = belowE f top by
     unfold belowE
     rw [hc]
     by_cases h : checkN f = 0
     · rw [if_pos h,if_neg (show ¬ (checkN f≠0) from fun h' => h' h)]
     · rw [if_neg h,if_pos h])
   rw [← hc] at GA GB GC
   clear hc
   obtain ⟨d,hd⟩ : ∃ d,d = belowE f top:=⟨_,rfl⟩
   have HBE:=hide (HBE.out.trans hd.symm)
   rw [← hd] at GD
   clear hd
   go_enter Tryz.func5,Tryz.ntmps5
   go_wp2_with (first
     | (go_at_call 8; refine (GL.out.at_ _).mono ?_; rintro _ _ ⟨rfl,e,rfl⟩)
     | (go_at_call 9; with_reducible refine (GF.out.at_ _).mono ?_; rintro _ _ ⟨rfl,e,rfl⟩))
   go_at_call 18
   refine (GA.out _ (Q01.out.trans (Later.ext _))).mono ?_
   rintro _ w2 ⟨v2,rfl,hx2,hok,hno⟩
   have X2:=hide ((Q01.out.trans (Later.ext _)).trans hx2)
   have S2:=hide (sstr_if (fun h => SStr.of_row (hok h)) hno)
   have c2:=cellL a0 ((Later.ext _).trans hx2) ⟨w2,Ext.refl _⟩
   have A2:=hide (cellL a0 ((Later.ext _).trans hx2))
   clear hx2 hok hno GA a0
   go_wp2_with fail
   go_at_call 19
   refine (GB.out _ X2.out).mono ?_
   rintro _ w3 ⟨v3,rfl,hx3,hok,hno⟩
   have X3:=hide (X2.out.trans hx3)
   have S3:=hide (sstr_if hok hno)
   have S2:=hide (S2.out.ext hx3)
   have A3:=hide (cellL A2.out hx3)
   have c3:=A3.out ⟨w3,Ext.refl _⟩
   clear hx3 hok hno GB c2
   go_wp2_with fail
   go_at_call 20
   refine (GC.out _ X3.out).mono ?_
   rintro _ w4 ⟨v4,c',rfl,hx4,hc',hok,hno⟩
   obtain rfl : c' = d:=hc'.trans HBE.out
   have X4:=hide (X3.out.trans hx4)
   have S4:=hide (sstr_if (fun h => SStr.of_row (hok h)) hno)
   have S2:=hide (S2.out.ext hx4)
   have S3:=hide (S3.out.ext hx4)
   have A4:=hide (cellL A3.out hx4)
   have c4:=A4.out ⟨w4,Ext.refl _⟩
   clear hx4 hok hno GC c3 hc'
   go_wp2_with fail
   go_at_call 21
   refine (GD.out _ X4.out).mono ?_
   rintro _ w5 ⟨v5,rfl,hx5,S5⟩
   have X5:=hide (X4.out.trans hx5)
   have S2:=hide (S2.out.ext hx5)
   have S3:=hide (S3.out.ext hx5)
   have S4:=hide (S4.out.ext hx5)
   have KT:=hide (refTexts_any _ _ w5 v2 v3 S2.out S3.out (by split <;> first | exact HOL.out | simp) (by split <;> first | exact HOL.out | simp))
   rw [yes_iff.2 rfl] at KT
   have S5:=hide S5
   clear hx5 GD c4
   go_wp2_with fail
   go_at_call 15
   refine KT.out.mono ?_
   rintro _ w6 ⟨rfl,hx6⟩
   have X6:=hide (X5.out.trans hx6)
   have KT:=hide (refTexts_any _ _ w6 v4 v5 (S4.out.ext hx6) (S5.out.ext hx6) (by split <;> first | exact HBL.out | simp) (by split <;> first | exact HBL.out | simp))
   rw [yes_iff.2 rfl] at KT
   clear hx6
   go_wp2_with fail
   go_at_call 15
   refine KT.out.mono ?_
   rintro _ w7 ⟨rfl,hx7⟩
   have X7:=hide (X6.out.trans hx7)
   clear hx7
   go_wp2_with fail
   go_ret
   exact ⟨rfl,X7.out⟩
end Go.Proofs.YtjoglnjpgkobeaaGreatDoor
namespace Go.Proofs.YtjoglnjpgkobeaaGreatDoor.namesOrders
open Go Go.ChangeShapes Go.WideShapes Go.ChangeAt Go.RowKit
set_option maxRecDepth 100000 in
theorem contract (H : Type) (enc : TypeId × Value→H) (W : World) (base : Nat) (args : Array Value) (ds gs : List (DataW H)) (before : List MemPlace)
   (hval : ∀ (j : Nat) t v,Tryz.f5.params[j]? = some t→args[j]? = some v→Value.okWide Tryz.prog W .any base t v)
   (hW : DataW.Whole enc Tryz.prog Tryz.f5.params.toList Rows.namesOrdersSpec.vars false W args.toList ds gs before) (hb : Rows.uptoSmall H (ds++gs) = true) (hL : laidMetH Tryz.prog Rows.namesOrdersUptoRow.laid W) (hsh : W.ShapedOpen Tryz.prog) :
   Calls Tryz.prog 5 args W fun e W' => ∃ v,e = .returned v∧Rows.namesOrdersSpec.post enc Tryz.prog Tryz.f5 false true false false W args v W':=by
 have hT : Tabs W:=tabs_of hL hsh
 have hW':=hW
 obtain ⟨p,q,hA0,hV,rfl,-,-⟩:=hW
 have hA : DataW.TrodAll enc Tryz.prog W 0 (fun _ => true) true Tryz.f5.params.toList args.toList ds p:=hA0
 rw [Tryz.params5] at hA
 have hval':=hval
 rw [Tryz.params5] at hval'
 obtain ⟨a0,vs0,d0,ds0,p0,q0,hargs,rfl,rfl,h0,r0⟩:=trodAll_cons hA
 obtain ⟨a1,vs1,d1,ds1,p1,q1,rfl,rfl,rfl,h1,r1⟩:=trodAll_cons r0
 obtain ⟨rfl,rfl,rfl⟩:=trodAll_nil r1
 obtain rfl : args = #[a0,a1]:=by cases args; simp_all
 obtain ⟨rfl,rfl⟩:=trodVars_none hV
 have hb':=small_all hb
 simp only [List.append_nil,Rows.uptoBulkAll] at hb'
 obtain ⟨f0,v0,rfl,s0,w0,z0⟩:=open_file hval' 0 rfl rfl h0 (by omega)
 obtain ⟨x1,rfl,z1⟩:=open_str hval' 1 rfl rfl h1 (by omega)
 refine (lawNOrders_any W.heap.size f0 x1 W v0 hT (Nat.le_refl _) s0 (by omega) w0 (by omega)).mono fun e W' he => ?_
 obtain ⟨rfl,hx⟩:=he
 exact ⟨_,rfl,post_true Tryz.underlying4 laidOut mapsIn full (s:=Rows.namesOrdersSpec) (ds:=[d0,d1]) (gs:=[]) rfl rfl (by rw [Tryz.params5]; decide) hW' rfl hx⟩
theorem reads (os : Os) {H : Type} (enc : TypeId × Value→H) : ∃ places,DataW.whole enc Tryz.prog ((laidWorld os).forCall (fun _ _ => 0) ⟨#[],#[zFile,(.string ⟨#[]⟩)],[]⟩).memory Tryz.f5.params.toList Rows.namesOrdersSpec.vars false (#[zFile,(.string ⟨#[]⟩)] : Array Value).toList 8 = some ([zFileD,(.lit (.string []))],[],places) :=
 ⟨[],by kernel_rfl⟩
set_option maxRecDepth 100000 in
theorem lifted (os : Os) (started : os.Started) (H : Type) (enc : TypeId × Value→H) (F : Stop.Interp) :
   ReturnsInHanded {} Tryz.checked os 5 .any ((Rows.OpenSpec.upto Rows.namesOrdersSpec).preRow enc Tryz.prog Tryz.f5 Rows.namesOrdersUptoRow.domain false Rows.namesOrdersUptoRow.laid) (((Rows.OpenSpec.upto Rows.namesOrdersSpec).at F).post enc Tryz.prog Tryz.f5 false true false false):=by
 obtain ⟨places,hx⟩:=reads os enc
 refine returnsInHanded_of_row (C:=Tryz.checked) (s:=Rows.OpenSpec.upto Rows.namesOrdersSpec) ownNone started (by kernel_rfl) Tryz.func5
   (witness_row_at (enc:=enc) (C:=Tryz.checked) false (laidWorld os) #[zFile,(.string ⟨#[]⟩)] rfl (by kernel_rfl) (by kernel_rfl) (by kernel_rfl)
     (OpenSpec.preRow_of_cond 8 hx (by kernel_rfl) (fun k hk => by cases hk; kernel_rfl) (by kernel_rfl) (laid_met os _))) ?_
 intro W base args ds gs before hval hW _ hcond _ hL hsh _
 exact contract H enc W base args ds gs before hval hW (hcond _ rfl) hL hsh
theorem saidUpto : Rows.NamesOrdersUptoSaid :=
 OpenClaim.holds_of_cond 5 Tryz.f5 rfl rfl rfl rfl rfl rfl rfl ⟨rfl,rfl,rfl,rfl,rfl⟩ rfl rfl rfl rfl rfl (by kernel_rfl) Tryz.func5 (by kernel_rfl)
   (of_decide_eq_true (by kernel_rfl)) (by unfold Func.isWrapper; first | (rw [if_pos (by decide +kernel)]; kernel_rfl) | (rw [if_neg (by decide +kernel)]; exact ⟨rfl,rfl⟩))
   (fun os started H enc _ F => by rw [OpenClaim.pre_eq_preRow]; exact lifted os started H enc F)
theorem plain (f : FuncId) (fn : Func) (hf : Tryz.pinned.checked.prog.funcNamed "filigree/filigreelaw07.NamesOrders" = some f) (hfn : Tryz.pinned.checked.prog.funcs[f]? = some fn) :
   true = Tryz.pinned.checked.prog.looks []∧∀ (j : Nat) t,fn.params[j]? = some t→Tryz.pinned.checked.prog.wantsStandIn t = false:=by
 obtain rfl : f = 5 := Option.some.inj ((show Tryz.prog.funcNamed "filigree/filigreelaw07.NamesOrders" = some 5 by kernel_rfl).symm.trans hf) |>.symm
 obtain rfl : fn = Tryz.f5:=(Option.some.inj (Tryz.func5.symm.trans hfn)).symm
 refine ⟨by kernel_rfl,fun j t ht => ?_⟩
 rw [Tryz.params5] at ht
 have hm:=Array.mem_of_getElem? ht
 simp only [List.mem_toArray,List.mem_cons,List.not_mem_nil,or_false] at hm
 rcases hm with rfl | rfl
 · exact (show Tryz.prog.wantsStandIn 24 = false by kernel_rfl)
 · exact (show Tryz.prog.wantsStandIn 9 = false by kernel_rfl)
theorem cardUpto : Rows.NamesOrdersUptoCardSaid :=
 Claim7.holds_tied_plain_at .later [] _ _ _ _ saidUpto (fun _ h => by cases h) (by kernel_rfl) (fun _ h => by cases h) namesOrdersUpto_row_tie rfl ⟨rfl,rfl⟩ (by kernel_rfl) rfl plain (by kernel_rfl)
end Go.Proofs.YtjoglnjpgkobeaaGreatDoor.namesOrders
