import Derived.Test.YtlfmlodanoolhaaGreatDoorCards
import Derived.Test.YtlfmlodanoolhaaGreatDoorTie
import Derived.Test.YtlfmlodanoolhaaGreatDoorE52
set_option linter.all false
set_option maxRecDepth 200000
set_option maxHeartbeats 32000000
namespace Go.Proofs.YtlfmlodanoolhaaGreatDoor
open Go Go.RowKit Go.Proofs.Tryz
attribute [local go_sem] z0f
theorem k6s{w:World}{B:Nat}{l:List Int}{v:Value}(h:Sl RZ w B 1 l v):∃a cap,v=.slice a l.length cap∧∀k (hk:k<l.length),∃b o,a=some ⟨b,o,none⟩∧w.cell? ⟨b,o+k,none⟩=some (.int .i64 l[k]):=by
 obtain⟨a,cap,rfl,-,hr⟩:=h;refine⟨a,cap,rfl,fun k hk=>?_⟩;obtain⟨b,o,cs,ha,-,-,hC,-,hR⟩:=hr k hk;have hR':cs=[.int .i64 l[k]]:=hR;subst hR';have:=hC 0 _ rfl;exact⟨b,o,ha,by simpa using this⟩
theorem q6w(B:Nat)(l:List Sg)(s:ByteArray)(kd:Int)(w:World)(vs vp vc:Value)(hT:Tabs w)(htab:TabP w)(hB:B≤w.heap.size)(hS:Sl RSg w B 4 l vs)(op:vp.oneCell'=true)(oc:vc.oneCell'=true)(hsz:l.length≤2000000):
 Calls Tryz.prog 5 #[.agg #[vs,vp,vc],.string s,.int .i64 kd] w fun e w'=>e=.returned (.bool true)∧Ext w w':=by
 have HS:=Hd hS;have HT:=Hd hT;have HTB:=Hd htab;obtain⟨a,cap,rfl,-⟩:=q6q hS;obtain⟨W1,hW1,hx1,hb1⟩:=k1n w (.slice a l.length cap) vp vc 50;have hV1:=hW1.symm;have X1:=Hd hx1;have HB1:=Hd hb1;clear hT htab hS hW1 hx1 hb1;go_enter func5,ntmps5;go_wp2_with fail
 go_at_call 11;refine(j9f W1 (HT.o.ext X1.o) (TabP.ext HTB.o X1.o)).mono ?_;rintro _ w2 ⟨rfl,hx2⟩;have X2:=Hd (X1.o.trans hx2);have HB2:=Hd (HB1.o.ext hx2);obtain⟨c0,c1,c2⟩:=HB2.o.get3;clear hx2 hV1;by_cases hlen:(600:Int)<(l.length:Int)
 ·go_wp2_with fail
  go_ret;exact⟨rfl,X2.o⟩
 have hdl:decide ((600:Int)<(l.length:Int))=false:=decide_eq_false hlen;go_wp2_with fail
 go_at_call 22;refine(j0c B l s w2 _ _ _ (HS.o.extG X2.o hB) op oc (y1k hB X2.o.size) (by omega)).mono ?_;rintro _ w3 ⟨fi,fb,rfl,hfg,hx3⟩;have HFG:=Hd hfg;have X3:=Hd (X2.o.trans hx3);have HB3:=Hd (HB2.o.ext hx3);clear hx3 hfg c0 c1 c2 HB2;obtain⟨c0,c1,c2⟩:=HB3.o.get3;go_wp2_with fail
 go_at_call 23;refine(j5b B l s w3 _ _ _ (HS.o.extG X3.o hB) op oc (y1k hB X3.o.size) (by omega)).mono ?_;rintro _ w4 ⟨gi,gb,rfl,hfg,hx4⟩;obtain⟨rfl,rfl⟩:=FindG.one HFG.o hfg;have X4:=Hd (X3.o.trans hx4);have HB4:=Hd (HB3.o.ext hx4);clear hx4 hfg c0 c1 c2 HB3 HFG;obtain⟨c0,c1,c2⟩:=HB4.o.get3;go_wp2_with fail
 go_at_call 24;refine(q6e B l kd w4 _ _ _ (HS.o.extG X4.o hB) op oc (y1k hB X4.o.size) (by omega)).mono ?_;rintro _ w5 ⟨v5,rfl,hs5,hx5⟩;have X5:=Hd (X4.o.trans hx5);have HB5:=Hd (HB4.o.ext hx5);have HS5:=Hd hs5;obtain⟨a5,k5,rfl,-⟩:=k6s hs5;clear hx5 hs5 c0 c1 c2 HB4;obtain⟨c0,c1,c2⟩:=HB5.o.get3;go_wp2_with fail
 go_at_call 25;refine(j5a B l kd w5 _ _ _ (HS.o.extG X5.o hB) op oc (y1k hB X5.o.size) (by omega)).mono ?_;rintro _ w6 ⟨v6,rfl,hs6,hx6⟩;have X6:=Hd (X5.o.trans hx6);have hq5:Sl RZ w6 w6.heap.size 1 (z2e kd 0 l) (.slice a5 (z2e kd 0 l).length k5):=HS5.o.keep (fun p hp=>hx6.cell (by omega)) hx6.size (fun _ _ _ h=>h);obtain⟨a6,k6,rfl,hr6⟩:=k6s hs6;obtain⟨a5',k5',he5,hr5⟩:=k6s hq5;injection he5 with he1 he2 he3;subst he1 he3;have HR5:=Hd hr5;have HR6:=Hd hr6;have hkl:=z8v kd l 0;generalize z2e kd 0 l=ks at*;clear hx6 hs6 hq5 hr5 hr6 c0 c1 c2 HS5 he2;go_wp2_with fail
 go_loopw [14] (fun i wr=>∃k:Nat,k≤ks.length∧i=.int .i64 k∧Ext w6 wr) (fun i _=>ks.length - (intOf i).toNat)
 case atStart=>exact⟨0,y1p _,rfl,y1g _⟩
 case round=>
  obtain⟨k,hk,rfl,hx⟩:=hrel;have HX:=Hd hx;by_cases hlt:k<ks.length
  ·obtain⟨b,o,rfl,hC⟩:=HR5.o k hlt;obtain⟨b2,o2,rfl,hC2⟩:=HR6.o k hlt;have d0:=cellAt (hx.at_ hC);have d1:=cellAt (hx.at_ hC2);obtain⟨z,hz⟩:∃z,z=ks[k]:=⟨_,rfl⟩;rw[←hz] at d0 d1;clear hC hC2 hz hx;go_wp2_with fail
   refine z0m 9 (W:=wr) (Ext) (eqG [.slice (some ⟨b,o,none⟩) ks.length k5,.int .i64 k,.pointer (some ⟨b,o+k,none⟩),.int .i64 z,.slice (some ⟨b2,o2,none⟩) ks.length k6,.int .i64 k,.pointer (some ⟨b2,o2+k,none⟩),.int .i64 z,.bool false]) (fun _ _=>False) (fun _=>true) (by kernel_rfl) (z0s) (by kernel_rfl) (by kernel_rfl) ?_ (y1g _) (fun i v w w' h hx=>z7l h hx) ?_ (fun A ch w hd hp=>hp.elim) ?_
   ·exact⟨rfl,rfl,rfl,rfl,rfl,rfl,rfl,rfl,rfl,trivial⟩
   ·refine⟨?_,?_,?_,?_,?_,?_,?_,?_,?_,trivial⟩
    all_goals
     intro A wa hxa hd h0;obtain⟨ea,rfl⟩:=y1h hxa;try (have q0:=z0d hd 0 52 (by decide) rfl;simp[eqG] at q0)
     try (have q1:=z0d hd 1 53 (by decide) rfl;simp[eqG] at q1)
     try (have q2:=z0d hd 2 54 (by decide) rfl;simp[eqG] at q2)
     try (have q4:=z0d hd 4 56 (by decide) rfl;simp[eqG] at q4)
     try (have q5:=z0d hd 5 57 (by decide) rfl;simp[eqG] at q5)
     try (have q6:=z0d hd 6 58 (by decide) rfl;simp[eqG] at q6)
     try (have q3:=z0d hd 3 55 (by decide) rfl;simp[eqG] at q3)
     try (have q7:=z0d hd 7 59 (by decide) rfl;simp[eqG] at q7)
     have r12:=z0c h0 12 (by kernel_rfl);simp at r12;have r14:=z0c h0 14 (by kernel_rfl);simp at r14;have r13:=z0c h0 13 (by kernel_rfl);simp at r13;clear hd h0;go_simp;first|exact⟨_,rfl,y1g _,rfl⟩|exact⟨y1g _,rfl⟩|exact rfl|exact⟨_,rfl,rfl⟩|exact y1g _
   ·intro A wa hk;obtain⟨f,rfl,hxa,hdn,hrs⟩:=hk.fin (n:=72) rfl;obtain⟨ea,rfl⟩:=y1h hxa;have k0:=hrs 0 (by kernel_rfl);have k1:=hrs 1 (by kernel_rfl);have k2:=hrs 2 (by kernel_rfl);have k3:=hrs 3 (by kernel_rfl);have k4:=hrs 4 (by kernel_rfl);have k5:=hrs 5 (by kernel_rfl);have k6:=hrs 6 (by kernel_rfl);have k7:=hrs 7 (by kernel_rfl);have k8:=hrs 8 (by kernel_rfl);have k9:=hrs 9 (by kernel_rfl);have k10:=hrs 10 (by kernel_rfl);have k11:=hrs 11 (by kernel_rfl);have k12:=hrs 12 (by kernel_rfl);have k13:=hrs 13 (by kernel_rfl);have k14:=hrs 14 (by kernel_rfl);have k15:=hrs 15 (by kernel_rfl);have k16:=hrs 16 (by kernel_rfl);have k17:=hrs 17 (by kernel_rfl);have k18:=hrs 18 (by kernel_rfl);have k19:=hrs 19 (by kernel_rfl);have k20:=hrs 20 (by kernel_rfl);have k21:=hrs 21 (by kernel_rfl);have k22:=hrs 22 (by kernel_rfl);have k23:=hrs 23 (by kernel_rfl);have k24:=hrs 24 (by kernel_rfl);have k25:=hrs 25 (by kernel_rfl);have k26:=hrs 26 (by kernel_rfl);have k27:=hrs 27 (by kernel_rfl);have k28:=hrs 28 (by kernel_rfl);have k29:=hrs 29 (by kernel_rfl);have k30:=hrs 30 (by kernel_rfl);have k31:=hrs 31 (by kernel_rfl);have k32:=hrs 32 (by kernel_rfl);have k33:=hrs 33 (by kernel_rfl);have k34:=hrs 34 (by kernel_rfl);have k35:=hrs 35 (by kernel_rfl);have k36:=hrs 36 (by kernel_rfl);have k37:=hrs 37 (by kernel_rfl);have k38:=hrs 38 (by kernel_rfl);have k39:=hrs 39 (by kernel_rfl);have k40:=hrs 40 (by kernel_rfl);have k41:=hrs 41 (by kernel_rfl);have k42:=hrs 42 (by kernel_rfl);have k43:=hrs 43 (by kernel_rfl);have k44:=hrs 44 (by kernel_rfl);have k45:=hrs 45 (by kernel_rfl);have k46:=hrs 46 (by kernel_rfl);have k47:=hrs 47 (by kernel_rfl);have k48:=hrs 48 (by kernel_rfl);have k49:=hrs 49 (by kernel_rfl);have k50:=hrs 50 (by kernel_rfl);have k51:=hrs 51 (by kernel_rfl);have k61:=hrs 61 (by kernel_rfl);have k62:=hrs 62 (by kernel_rfl);have k63:=hrs 63 (by kernel_rfl);have k64:=hrs 64 (by kernel_rfl);have k65:=hrs 65 (by kernel_rfl);have k66:=hrs 66 (by kernel_rfl);have k67:=hrs 67 (by kernel_rfl);have k68:=hrs 68 (by kernel_rfl);have k69:=hrs 69 (by kernel_rfl);have k70:=hrs 70 (by kernel_rfl);have k71:=hrs 71 (by kernel_rfl);have k60:f 60=.bool false:=hdn 8 60 rfl rfl;clear hdn hrs;simp at k0 k1 k2 k3 k4 k5 k6 k7 k8 k9 k10 k11 k12 k13 k14 k15 k16 k17 k18 k19 k20 k21 k22 k23 k24 k25 k26 k27 k28 k29 k30 k31 k32 k33 k34 k35 k36 k37 k38 k39 k40 k41 k42 k43 k44 k45 k46 k47 k48 k49 k50 k51 k61 k62 k63 k64 k65 k66 k67 k68 k69 k70 k71;simp only[List.drop_succ_cons,List.drop_zero];simp[List.range,List.range.loop,k0,k1,k2,k3,k4,k5,k6,k7,k8,k9,k10,k11,k12,k13,k14,k15,k16,k17,k18,k19,k20,k21,k22,k23,k24,k25,k26,k27,k28,k29,k30,k31,k32,k33,k34,k35,k36,k37,k38,k39,k40,k41,k42,k43,k44,k45,k46,k47,k48,k49,k50,k51,k61,k62,k63,k64,k65,k66,k67,k68,k69,k70,k71,k60];clear k0 k1 k2 k3 k4 k5 k6 k7 k8 k9 k10 k11 k12 k13 k14 k15 k16 k17 k18 k19 k20 k21 k22 k23 k24 k25 k26 k27 k28 k29 k30 k31 k32 k33 k34 k35 k36 k37 k38 k39 k40 k41 k42 k43 k44 k45 k46 k47 k48 k49 k50 k51 k61 k62 k63 k64 k65 k66 k67 k68 k69 k70 k71 k60;have HX2:=Hd (HX.o.trans ea.ext);go_wp2_with fail
    go_roundw;case rel=>exact⟨k+1,by omega,by go_num,HX2.o⟩
    case measure=>simp[intOf];omega
  ·clear hx;have X7:=Hd (X6.o.trans HX.o);go_wp2_with fail
   go_ret;exact⟨rfl,X7.o⟩
end Go.Proofs.YtlfmlodanoolhaaGreatDoor
namespace Go.Proofs.YtlfmlodanoolhaaGreatDoor.elabFinds
open Go Go.ChangeShapes Go.WideShapes Go.ChangeAt Go.RowKit Go.Proofs.Tryz
theorem contract(H:Type)(enc:TypeId×Value→H)(W:World)(base:Nat)(args:Array Value)(ds gs:List (DataW H))(before:List MemPlace)
 (hval:∀(j:Nat) t v,Tryz.f5.params[j]? =some t→args[j]? =some v→Value.okWide Tryz.prog W .any base t v)
 (hW:DataW.Whole enc Tryz.prog Tryz.f5.params.toList Rows.elabFindsSpec.vars false W args.toList ds gs before) (hb:Rows.uptoSmall H (ds++gs)=true) (hL:laidMetH Tryz.prog Rows.elabFindsUptoRow.laid W) (hsh:W.ShapedOpen Tryz.prog):
 Calls Tryz.prog 5 args W fun e W'=>∃v,e=.returned v∧Rows.elabFindsSpec.post enc Tryz.prog Tryz.f5 false true false false W args v W':=by
 obtain⟨hT,hTB⟩:=k2j hL hsh;have hW':=hW;obtain⟨p,q,hA0,hV,rfl,-,-⟩:=hW;have hA:DataW.TrodAll enc Tryz.prog W 0 (fun _=>true) true Tryz.f5.params.toList args.toList ds p:=hA0;rw[Tryz.params5] at hA;have hval':=hval;rw[Tryz.params5] at hval';obtain⟨a0,vs0,d0,ds0,p0,q0,hargs,rfl,rfl,h0,r0⟩:=trodAll_cons hA;obtain⟨a1,vs1,d1,ds1,p1,q1,rfl,rfl,rfl,h1,r1⟩:=trodAll_cons r0;obtain⟨a2,vs2,d2,ds2,p2,q2,rfl,rfl,rfl,h2,r2⟩:=trodAll_cons r1;obtain⟨rfl,rfl,rfl⟩:=trodAll_nil r2;obtain rfl:args=#[a0,a1,a2]:=by cases args;simp_all
 obtain⟨rfl,rfl⟩:=trodVars_none hV;have hb':=j7v hb;simp only[List.append_nil,Rows.uptoBulkAll] at hb';obtain⟨l0,vs0,vp0,vc0,rfl,s0,op0,oc0,z0⟩:=j8t hval' 0 rfl rfl h0 (by omega);obtain⟨x1,rfl,z1⟩:=k3c hval' 1 rfl rfl h1 (by omega);obtain⟨x2,rfl,-⟩:=k3d hval' 2 rfl rfl h2;refine(q6w W.heap.size l0 x1 x2 W vs0 vp0 vc0 hT hTB (y1j _) s0 op0 oc0 (by omega)).mono fun e W' he=>?_
 obtain⟨rfl,hx⟩:=he;exact⟨_,rfl,j8n underlying4 k7l k9c full (s:=Rows.elabFindsSpec) (ds:=[d0,d1,d2]) (gs:=[]) rfl rfl (by rw[Tryz.params5];decide) hW' rfl hx⟩
theorem reads(os:Os){H:Type}(enc:TypeId×Value→H):∃places,DataW.whole enc Tryz.prog ((q1r os).forCall (fun _ _=>0) ⟨#[],#[k6b,(.string ⟨#[]⟩),.int .i64 0],[]⟩).memory Tryz.f5.params.toList Rows.elabFindsSpec.vars false (#[k6b,(.string ⟨#[]⟩),.int .i64 0]:Array Value).toList 8=some ([k8q,(.lit (.string [])),.lit (.int .i64 0)],[],places):=
 ⟨[],by kernel_rfl⟩
theorem lifted(os:Os)(started:os.Started)(H:Type)(enc:TypeId×Value→H)(F:Stop.Interp):
 ReturnsInHanded {} Tryz.checked os 5 .any ((Rows.OpenSpec.upto Rows.elabFindsSpec).preRow enc Tryz.prog Tryz.f5 Rows.elabFindsUptoRow.domain false Rows.elabFindsUptoRow.laid) (((Rows.OpenSpec.upto Rows.elabFindsSpec).at F).post enc Tryz.prog Tryz.f5 false true false false):=by
 obtain⟨places,hx⟩:=reads os enc
 refine returnsInHanded_of_row (C:=Tryz.checked) (s:=Rows.OpenSpec.upto Rows.elabFindsSpec) k6r started (by kernel_rfl) func5
  (witness_row_at (enc:=enc) (C:=Tryz.checked) false (q1r os) #[k6b,(.string ⟨#[]⟩),.int .i64 0] rfl (by kernel_rfl) (by kernel_rfl) (by kernel_rfl)
    (OpenSpec.preRow_of_cond 8 hx (by kernel_rfl) (fun k hk=>by cases hk;kernel_rfl) (by kernel_rfl) (j9g os _))) ?_
 intro W base args ds gs before hval hW _ hcond _ hL hsh _;exact contract H enc W base args ds gs before hval hW (hcond _ rfl) hL hsh
theorem saidUpto:Rows.ElabFindsUptoSaid:=
 OpenClaim.holds_of_cond 5 Tryz.f5 rfl rfl rfl rfl rfl rfl rfl ⟨rfl,rfl,rfl,rfl,rfl⟩ rfl rfl rfl rfl rfl (by kernel_rfl) func5 (by kernel_rfl)
  (of_decide_eq_true (by kernel_rfl)) (by unfold Func.isWrapper;first|(rw[if_pos (by decide+kernel)];kernel_rfl)|(rw[if_neg (by decide+kernel)];exact⟨rfl,rfl⟩))
  (fun os started H enc _ F=>by rw[OpenClaim.pre_eq_preRow];exact lifted os started H enc F)
theorem plain (f : FuncId) (fn : Func) (hf : Tryz.pinned.checked.prog.funcNamed "filigree/filigreelaw08.ElabFinds" = some f) (hfn : Tryz.pinned.checked.prog.funcs[f]? = some fn) :
 true=Tryz.pinned.checked.prog.looks []∧∀(j:Nat) t,fn.params[j]? =some t→Tryz.pinned.checked.prog.wantsStandIn t=false:=by
 obtain rfl : f = 5 := Option.some.inj ((show Tryz.prog.funcNamed "filigree/filigreelaw08.ElabFinds" = some 5 by kernel_rfl).symm.trans hf) |>.symm
 obtain rfl:fn=Tryz.f5:=(Option.some.inj (func5.symm.trans hfn)).symm;refine⟨by kernel_rfl,fun j t ht=>?_⟩;rw[Tryz.params5] at ht;have hm:=Array.mem_of_getElem? ht;simp only[List.mem_toArray,List.mem_cons,List.not_mem_nil,or_false] at hm;rcases hm with rfl|rfl|rfl
 ·exact(show Tryz.prog.wantsStandIn 50=false by kernel_rfl)
 ·exact(show Tryz.prog.wantsStandIn 9=false by kernel_rfl)
 ·exact(show Tryz.prog.wantsStandIn 3=false by kernel_rfl)
theorem cardUpto:Rows.ElabFindsUptoCardSaid:=
 Claim7.holds_tied_plain_at .later [] _ _ _ _ saidUpto (fun _ h=>by cases h) (by kernel_rfl) (fun _ h=>by cases h) elabFindsUpto_row_tie rfl ⟨rfl,rfl⟩ (by kernel_rfl) rfl plain (by kernel_rfl)
end Go.Proofs.YtlfmlodanoolhaaGreatDoor.elabFinds
