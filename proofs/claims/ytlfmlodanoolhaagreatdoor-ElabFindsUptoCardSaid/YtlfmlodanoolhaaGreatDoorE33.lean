import Derived.Test.YtlfmlodanoolhaaGreatDoorE28
import Derived.Test.YtlfmlodanoolhaaGreatDoorE32
set_option linter.all false
set_option maxRecDepth 200000
set_option maxHeartbeats 32000000
namespace Go.Proofs.YtlfmlodanoolhaaGreatDoor
open Go Go.RowKit Go.Proofs.Tryz
attribute [local go_sem] z0f
def RNm(p:ByteArray×Int)(cs:List Value):Prop:=cs=[.string p.1,.int .i64 p.2]
theorem Sl.extN{w w':World}{B:Nat}{l:List (ByteArray×Int)}{v:Value}(h:Sl RNm w B 2 l v)(hx:Ext w w')(hB:B≤w.heap.size):Sl RNm w' B 2 l v:=
 h.keep (fun p hp=>hx.cell (by omega)) (y1j _) (fun _ _ _ h=>h)
theorem q5s{env:List (ByteArray×Int)}{k:Nat}(h:k<env.length)(s:ByteArray):z3m (env.take (k+1)) s=if env[k].1=s then some env[k].2 else z3m (env.take k) s:=by
 rw[List.take_succ_eq_append_getElem h,q5t]
theorem j1n(B:Nat)(env:List (ByteArray×Int))(s:ByteArray)(w:World)(ve:Value)(hS:Sl RNm w B 2 env ve)(hB:B≤w.heap.size)(hln:env.length≤1000000000):
 Calls Tryz.prog 188 #[ve,.string s] w fun e w'=>e=.returned (.tuple #[.int .i64 ((z3m env s).getD 0),.bool (z3m env s).isSome])∧Ext w w':=by
 obtain⟨a,cap,rfl,hcap,hrow⟩:=hS;clear hcap;go_enter func188,ntmps188;go_wp2_with fail
 go_loopw [6,7,12] (fun v ok i wr=>∃k:Nat,k≤env.length∧i=.int .i64 k∧v=.int .i64 ((z3m (env.take k) s).getD 0)∧ok=.bool (z3m (env.take k) s).isSome∧Ext w wr) (fun _ _ i _=>env.length - (intOf i).toNat)
 case atStart=>exact⟨0,y1p _,rfl,rfl,rfl,y1g _⟩
 case round=>
  obtain⟨k,hk,rfl,rfl,rfl,hx⟩:=hrel;by_cases hlt:k<env.length
  ·obtain⟨b,o,v0,v1,rfl,hbB,hR,hC,o0,o1⟩:=hrow.open2 hlt;simp only[RNm,List.cons.injEq,and_true] at hR;obtain⟨rfl,rfl⟩:=hR;obtain⟨d0,d1⟩:=(hC.ext hx).get2;have hst:=Hd (q5s hlt s);obtain⟨W1,hW1,hx1,hb1⟩:=q7l wr (.string env[k].1) (.int .i64 env[k].2) 85;have hV1:=hW1.symm;obtain⟨c0,c1⟩:=hb1.get2;have HX:=Hd (hx.trans hx1);clear hC hrow hx hx1 hb1 hW1;by_cases he:env[k].1=s
   ·have hst2:=Hd (hst.o.trans (if_pos he));generalize env[k]=q at*;obtain⟨qn,qv⟩:=q;simp only at he c0 c1 hV1 d0 d1;subst he;go_wp2_with fail
    go_roundw;case rel=>exact⟨k+1,by omega,by go_num,by rw[hst2.o];rfl,by rw[hst2.o];rfl,HX.o⟩
    case measure=>simp[intOf];omega
   ·have hst2:=Hd (hst.o.trans (if_neg he));generalize env[k]=q at*;obtain⟨qn,qv⟩:=q;simp only at he c0 c1 hV1 d0 d1;have hne:=q1c he;clear he;go_wp2_with fail
    go_roundw;case rel=>exact⟨k+1,by omega,by go_num,by rw[hst2.o],by rw[hst2.o],HX.o⟩
    case measure=>simp[intOf];omega
  ·have hkl:k=env.length:=by omega
   subst hkl;rw[List.take_length];go_wp2_with fail
   go_ret2;exact⟨rfl,hx⟩
theorem EnvM.put{w:World}{m:Nat}{env:ByteArray→Option Int}(h:EnvM w m env)(s:ByteArray)(z:Int):
 ∃o,(Instr.mapUpdate 93 (.map (some m)) (.string s) (.int .i64 z)).run Tryz.prog w=.ok () (z4f w m o)∧EnvM (z4f w m o) m (fun t=>if s=t then some z else env t):=by
 obtain⟨L,h1,h2,h3⟩:=h;obtain⟨o,hr,hm⟩:=h1.update underlying93 underlying9 (k:=.string s) trivial h2 (.int .i64 z);refine⟨o,hr,_,hm,z1l h2 trivial,fun t=>?_⟩;rw[z7i];show _=Option.map (Value.int .i64) (if s=t then some z else env t);by_cases ht:s=t
 ·rw[if_pos (congrArg Value.string ht),if_pos ht];rfl
 ·rw[if_neg (fun e=>ht (Value.string.inj e)),if_neg ht,h3]
theorem EnvM.new(w:World):EnvM (w.alloc (.map #[] 0)) w.heap.size (fun _=>none):=⟨[],MV.new w,(fun p hp=>nomatch hp),fun s=>rfl⟩
noncomputable def z3f(env:List (ByteArray×Int))(x:X):Int×Int:=if z7s x=0 then z1x (z3m env) x else(0,1)
noncomputable def q5c(env:List (ByteArray×Int))(x:X):Int×Int:=if(z3f env x).2=0∧((z3f env x).1<1∨64<(z3f env x).1) then(0,83) else z3f env x
noncomputable def k5u(env:List (ByteArray×Int))(x:X):(Int×Int)×Int:=if x.op=1∧z7s x=0 then((x.w,x.v),0) else((0,(z3f env x).1),(z3f env x).2)
theorem q4e(B:Nat)(env:List (ByteArray×Int))(x:X)(w:World)(ve:Value)(cs:List Value)(hT:Tabs w)(hR:RX w B x cs)(hS:Sl RNm w B 2 env ve)(hB:B≤w.heap.size)(hsz:z0l x≤1000000000)(hv:VX x)(hln:env.length≤1000000000):
 Calls Tryz.prog 103 #[.agg cs.toArray,ve] w fun e w'=>e=.returned (z5f (z3f env x))∧Ext w w':=by
 have HR:=Hd hR;have HT:=Hd hT;obtain⟨x5,rfl,hS5⟩:=RX_iff.1 hR;have o5:=hS5.oneCell;obtain⟨a,cap,rfl,hcap,hrow⟩:=hS;obtain⟨W1,e1,hV1,hx1,hs1,c0,c1,c2,c3,c4,c5⟩:=z6b w (.int .i64 x.op) (.string x.name) (.int .i64 x.n) (.int .i64 x.w) (.int .u64 x.v) x5 40;have hB1:B≤W1.heap.size:=y1k hB hx1.size;have KC:=Hd (show ECalls Tryz.prog 145 #[.agg #[.int .i64 x.op,.string x.name,.int .i64 x.n,.int .i64 x.w,.int .u64 x.v,x5]] W1 (.int .i64 (z7s x)) from fun w' hw=>q6j B x w' _ (HT.o.ext (hx1.trans hw)) (HR.o.ext (hx1.trans hw) hB) (y1k hB1 hw.size) hsz hv);have Q01:=Hd hx1;have HROW:=Hd hrow;clear hT hR hS5 hx1 hcap hrow hsz;by_cases hc:z7s x=0
 ·rw[hc] at KC;have hev:z3f env x=z1x (z3m env) x:=if_pos hc;have KE:=Hd (fun(m:Nat) (w':World) (hw:Ext w w') (hE:EnvM w' m (z3m env))=>j9o B m (z3m env) x ((checkX_zero.1 hc).2.2) hv w' _ (HR.o.ext hw hB) (y1k hB hw.size) hE);rw[hev];clear hev hc hv;obtain⟨pr,hpr⟩:∃pr,pr=z1x (z3m env) x:=⟨_,rfl⟩;rw[←hpr] at KE⊢;clear hpr;have hmm:=@run_makeMap Tryz.prog;go_enter func103,ntmps103;go_wp2_with (go_at_call 145;refine(KC.o.at_ _).mono ?_;rintro _ _ ⟨rfl,e,rfl⟩)
  go_loopw [15] (fun i wr=>∃k:Nat,k≤env.length∧i=.int .i64 k∧EnvM wr e.w.heap.size (z3m (env.take k))∧Ext W1 wr) (fun i _=>env.length - (intOf i).toNat)
  case atStart=>exact⟨0,y1p _,rfl,EnvM.new _,e.ext.alloc _⟩
  case round=>
   obtain⟨k,hk,rfl,hE,hx⟩:=hrel;by_cases hlt:k<env.length
   ·obtain⟨b,o,v0,v1,rfl,hbB,hRn,hC,o0,o1⟩:=HROW.o.open2 hlt;simp only[RNm,List.cons.injEq,and_true] at hRn;obtain⟨rfl,rfl⟩:=hRn;obtain⟨d0,d1⟩:=(hC.ext (Q01.o.trans hx)).get2;have hst:=Hd (fun s=>q5s hlt s);obtain⟨W2,hW2,hx2,hb2⟩:=q7l wr (.string env[k].1) (.int .i64 env[k].2) 85;obtain⟨f0,f1⟩:=hb2.get2;obtain⟨ob,hup,hE3⟩:=(hE.ext hx2).put env[k].1 env[k].2;obtain⟨W3,hW3⟩:∃W3,W3=z4f W2 e.w.heap.size ob:=⟨_,rfl⟩;rw[←hW3] at hup hE3;have hx13:Ext W1 W3:=by rw[hW3];exact Below.trans (hx.trans hx2) (z0u e.ext.size (hx.trans hx2).size)
    have hV2:=hW2.symm;have FIN:=Hd (y1x hE3 hx13);clear hC hx hx2 hb2 hW2 hE hE3 hx13 hW3;generalize env[k]=q at*;obtain⟨qn,qv⟩:=q;simp only at hst hup hV2 d0 d1 f0 f1 FIN;go_wp2_with fail
    go_roundw;case rel=>exact⟨k+1,by omega,by go_num,by have:=FIN.o.1;rwa[show(fun t=>if qn=t then some qv else z3m (env.take k) t)=z3m (env.take (k+1)) from(funext hst.o).symm] at this,FIN.o.2⟩
    case measure=>simp[intOf];omega
   ·have hkl:k=env.length:=by omega
    subst hkl;rw[List.take_length] at hE;have KE:=Hd (KE.o _ _ (Q01.o.trans hx) hE);have HX:=Hd hx;obtain⟨g0,g1,g2,g3,g4,g5⟩:=y1x (c0 ⟨wr,hx⟩) (y1x (c1 ⟨wr,hx⟩) (y1x (c2 ⟨wr,hx⟩) (y1x (c3 ⟨wr,hx⟩) (y1x (c4 ⟨wr,hx⟩) (c5 ⟨wr,hx⟩)))));simp only at g0 g1 g2 g3 g4 g5;clear hE hx;unfold z5f at*;go_wp2_with (go_at_call 146;refine KE.o.mono ?_;rintro _ w9 ⟨rfl,h9⟩;have H9:=Hd h9;clear h9)
    go_ret2;exact⟨rfl,(Q01.o.trans HX.o).trans H9.o⟩
 ·have hev:z3f env x=(0,1):=if_neg hc;rw[hev];generalize z7s x=tx at*;have hc':((tx:Int)==0)=false:=by simpa using hc
  have hc2:((tx:Int) !=0)=true:=by simpa using hc
  clear hc hev hv;unfold z5f;go_enter func103,ntmps103;go_wp2_with (go_at_call 145;refine(KC.o.at_ _).mono ?_;rintro _ _ ⟨rfl,e,rfl⟩)
  go_ret2;exact⟨rfl,Q01.o.trans (y1i _)⟩
theorem j5q(B:Nat)(env:List (ByteArray×Int))(x:X)(w:World)(ve:Value)(cs:List Value)(hT:Tabs w)(hR:RX w B x cs)(hS:Sl RNm w B 2 env ve)(hB:B≤w.heap.size)(hsz:z0l x≤1000000000)(hv:VX x)(hln:env.length≤1000000000):
 Calls Tryz.prog 105 #[.agg cs.toArray,ve] w fun e w'=>e=.returned (z5f (q5c env x))∧Ext w w':=by
 have HR:=Hd hR;have HT:=Hd hT;have HS:=Hd hS;obtain⟨x5,rfl,hS5⟩:=RX_iff.1 hR;have o5:=hS5.oneCell;have oe:=hS.oneCell;obtain⟨W1,e1,hV1,hx1,hs1,c0,c1,c2,c3,c4,c5⟩:=z6b w (.int .i64 x.op) (.string x.name) (.int .i64 x.n) (.int .i64 x.w) (.int .u64 x.v) x5 40;have hB1:B≤W1.heap.size:=y1k hB hx1.size;have KE:=Hd (show ECalls Tryz.prog 103 #[.agg #[.int .i64 x.op,.string x.name,.int .i64 x.n,.int .i64 x.w,.int .u64 x.v,x5],ve] W1 (z5f (z3f env x)) from fun w' hw=>q4e B env x w' ve _ (HT.o.ext (hx1.trans hw)) (HR.o.ext (hx1.trans hw) hB) (HS.o.extN (hx1.trans hw) hB) (y1k hB1 hw.size) hsz hv hln);have Q01:=Hd hx1;have hwd:q5c env x=if(z3f env x).2=0∧((z3f env x).1<1∨64<(z3f env x).1) then(0,83) else z3f env x:=rfl
 rw[hwd];clear hT hR hS hS5 hx1 hsz HR HT HS hwd;generalize z3f env x=r at*;obtain⟨r1,r2⟩:=r;unfold z5f at*;simp only at KE⊢;by_cases h2:r2=0
 ·by_cases h1:r1<1
  ·rw[if_pos ⟨h2,.inl h1⟩];subst h2;go_enter func105,ntmps105;go_wp2_with (go_at_call 103;refine(KE.o.at_ _).mono ?_;rintro _ _ ⟨rfl,e,rfl⟩)
   go_ret2;exact⟨rfl,Q01.o.trans (y1i _)⟩
  ·by_cases h3:64<r1
   ·rw[if_pos ⟨h2,.inr h3⟩];subst h2;have h1':decide (r1<1)=false:=by simpa using h1
    clear h1;go_enter func105,ntmps105;go_wp2_with (go_at_call 103;refine(KE.o.at_ _).mono ?_;rintro _ _ ⟨rfl,e,rfl⟩)
    go_ret2;exact⟨rfl,Q01.o.trans (y1i _)⟩
   ·rw[if_neg (by omega)];subst h2;have h1':decide (r1<1)=false:=by simpa using h1
    have h3':decide (64<r1)=false:=by simpa using h3
    clear h1 h3;go_enter func105,ntmps105;go_wp2_with (go_at_call 103;refine(KE.o.at_ _).mono ?_;rintro _ _ ⟨rfl,e,rfl⟩)
    go_ret2;exact⟨rfl,Q01.o.trans (y1i _)⟩
 ·rw[if_neg (fun h=>h2 h.1)];have h2':((r2:Int)==0)=false:=by simpa using h2
  clear h2;go_enter func105,ntmps105;go_wp2_with (go_at_call 103;refine(KE.o.at_ _).mono ?_;rintro _ _ ⟨rfl,e,rfl⟩)
  go_ret2;exact⟨rfl,Q01.o.trans (y1i _)⟩
theorem j1p(B:Nat)(env:List (ByteArray×Int))(x:X)(w:World)(ve:Value)(cs:List Value)(hT:Tabs w)(hR:RX w B x cs)(hS:Sl RNm w B 2 env ve)(hB:B≤w.heap.size)(hsz:z0l x≤1000000000)(hv:VX x)(hln:env.length≤1000000000):
 Calls Tryz.prog 147 #[.agg cs.toArray,ve] w fun e w'=>e=.returned (.tuple #[.agg #[.int .i64 (k5u env x).1.1,.int .u64 (k5u env x).1.2],.int .i64 (k5u env x).2])∧Ext w w':=by
 have HR:=Hd hR;have HT:=Hd hT;have HS:=Hd hS;obtain⟨x5,rfl,hS5⟩:=RX_iff.1 hR;have o5:=hS5.oneCell;have oe:=hS.oneCell;obtain⟨W1,e1,hV1,hx1,hs1,c0,c1,c2,c3,c4,c5⟩:=z6b w (.int .i64 x.op) (.string x.name) (.int .i64 x.n) (.int .i64 x.w) (.int .u64 x.v) x5 40;obtain⟨W2,hW2,hx2,hb2⟩:=q7l e1.w (.int .i64 0) (.int .u64 0) 161;obtain⟨e2,he2⟩:=y1h (y1g W2);have hV2:=hW2.symm.trans he2;have q12:=e1.ext.trans hx2;have q02:=hx1.trans q12;have hg:w.heap.size≤e1.w.heap.size:=y1k hx1.size e1.ext.size;have hB2:B≤W2.heap.size:=y1k hB q02.size;have KC:=Hd (show ECalls Tryz.prog 145 #[.agg #[.int .i64 x.op,.string x.name,.int .i64 x.n,.int .i64 x.w,.int .u64 x.v,x5]] W2 (.int .i64 (z7s x)) from fun w' hw=>q6j B x w' _ (HT.o.ext (q02.trans hw)) (HR.o.ext (q02.trans hw) hB) (y1k hB2 hw.size) hsz hv);have KE:=Hd (show ECalls Tryz.prog 103 #[.agg #[.int .i64 x.op,.string x.name,.int .i64 x.n,.int .i64 x.w,.int .u64 x.v,x5],ve] W2 (z5f (z3f env x)) from fun w' hw=>q4e B env x w' ve _ (HT.o.ext (q02.trans hw)) (HR.o.ext (q02.trans hw) hB) (HS.o.extN (q02.trans hw) hB) (y1k hB2 hw.size) hsz hv hln);have c0:=z0k c0 q12;have c1:=z0k c1 q12;have c2:=z0k c2 q12;have c3:=z0k c3 q12;have c4:=z0k c4 q12;have c5:=z0k c5 q12;have Q02:=Hd q02;have HB2:=Hd hb2;have hbd:0≤(z3f env x).1∧(z3f env x).1≤2147483647:=by
  unfold z3f;split
  ·exact q7d
  ·exact⟨by decide,by decide⟩
 have hnum:k5u env x=if x.op=1∧z7s x=0 then((x.w,x.v),0) else((0,(z3f env x).1),(z3f env x).2):=rfl
 rw[hnum];clear hT hR hS hS5 hx1 hsz HR HT HS hnum hv hW2 he2 hx2 hb2 q12 q02;generalize z3f env x=r at*;obtain⟨r1,r2⟩:=r;unfold z5f at*;simp only at KE hbd⊢;obtain⟨hbd0,hbd1⟩:=hbd;by_cases h1:x.op=1
 ·by_cases hc:z7s x=0
  ·rw[if_pos ⟨h1,hc⟩];rw[hc] at KC;generalize x.op=op at*;subst h1;clear hc;go_enter func147,ntmps147;go_wp2_with fail
   refine(KC.o.at_ _).mono ?_;rintro _ _ ⟨rfl,e,rfl⟩;have hbe:=HB2.o.ext e.ext;obtain⟨d0,d1⟩:=hbe.get2;obtain⟨f0,f1⟩:=hbe.free2;obtain⟨Wz,hWz⟩:∃Wz,Wz=(e.w.setCell ⟨e1.w.heap.size,0,none⟩ (.int .i64 x.w)).setCell ⟨e1.w.heap.size,1,none⟩ (.int .u64 x.v):=⟨_,rfl⟩;have hbz:=hbe.store2 (.int .i64 x.w) (.int .u64 x.v);rw[←hWz] at hbz;obtain⟨z0,z1⟩:=hbz.get2;have HFIN:=Hd (show Ext w Wz by rw[hWz];exact((Q02.o.trans e.ext).setCell hg _).setCell hg _);have hVz:=hWz.symm;clear hbe hbz hWz;go_wp2_with fail
   refine bodyPost_ret (v:=.tuple #[.agg #[.int .i64 x.w,.int .u64 x.v],.int .i64 0]) ?_ rfl ⟨rfl,HFIN.o⟩;simp[results,results147,go_sem,z0,z1]
  ·rw[if_neg (fun h=>hc h.2)];generalize x.op=op at*;subst h1;generalize z7s x=tx at*;have hc':((tx:Int)==0)=false:=by simpa using hc
   clear hc;go_enter func147,ntmps147;go_wp2_with (go_at_call 145;refine(KC.o.at_ _).mono ?_;rintro _ _ ⟨rfl,e,rfl⟩)
   refine(KE.o.at_ _).mono ?_;rintro _ _ ⟨rfl,e,rfl⟩;have hbe:=HB2.o.ext e.ext;obtain⟨d0,d1⟩:=hbe.get2;obtain⟨f0,f1⟩:=hbe.free2;obtain⟨Wz,hWz⟩:∃Wz,Wz=(e.w.setCell ⟨e1.w.heap.size,0,none⟩ (.int .i64 0)).setCell ⟨e1.w.heap.size,1,none⟩ (.int .u64 r1):=⟨_,rfl⟩;have hbz:=hbe.store2 (.int .i64 0) (.int .u64 r1);rw[←hWz] at hbz;obtain⟨z0,z1⟩:=hbz.get2;have HFIN:=Hd (show Ext w Wz by rw[hWz];exact((Q02.o.trans e.ext).setCell hg _).setCell hg _);have hVz:=hWz.symm;clear hbe hbz hWz;go_wp2_with fail
   refine bodyPost_ret (v:=.tuple #[.agg #[.int .i64 0,.int .u64 r1],.int .i64 r2]) ?_ rfl ⟨rfl,HFIN.o⟩;simp[results,results147,go_sem,z0,z1]
 ·rw[if_neg (fun h=>h1 h.1)];have h1':((x.op:Int)==1)=false:=by simpa using h1
  clear h1;go_enter func147,ntmps147;go_wp2_with fail
  refine(KE.o.at_ _).mono ?_;rintro _ _ ⟨rfl,e,rfl⟩;have hbe:=HB2.o.ext e.ext;obtain⟨d0,d1⟩:=hbe.get2;obtain⟨f0,f1⟩:=hbe.free2;obtain⟨Wz,hWz⟩:∃Wz,Wz=(e.w.setCell ⟨e1.w.heap.size,0,none⟩ (.int .i64 0)).setCell ⟨e1.w.heap.size,1,none⟩ (.int .u64 r1):=⟨_,rfl⟩;have hbz:=hbe.store2 (.int .i64 0) (.int .u64 r1);rw[←hWz] at hbz;obtain⟨z0,z1⟩:=hbz.get2;have HFIN:=Hd (show Ext w Wz by rw[hWz];exact((Q02.o.trans e.ext).setCell hg _).setCell hg _);have hVz:=hWz.symm;clear hbe hbz hWz;go_wp2_with fail
  refine bodyPost_ret (v:=.tuple #[.agg #[.int .i64 0,.int .u64 r1],.int .i64 r2]) ?_ rfl ⟨rfl,HFIN.o⟩;simp[results,results147,go_sem,z0,z1]
end Go.Proofs.YtlfmlodanoolhaaGreatDoor
