import Derived.Test.YtlfmlodanoolhaaGreatDoorE37
set_option linter.all false
set_option maxRecDepth 200000
set_option maxHeartbeats 32000000
namespace Go.Proofs.YtlfmlodanoolhaaGreatDoor
open Go Go.RowKit Go.Proofs.Tryz
attribute [local go_sem] z0f
def q7q(W:World)(q:Nat)(T:TypeId)(vals:List Value)(i:Nat)(v:Value)(w:World):Prop:=if i=q then∃g d0 d1,v=.pointer (some ⟨g,0,none⟩)∧W.heap.size≤g∧Blk w g T [d0,d1] else v=vals.getD i undef
def y0u(W:World)(T:TypeId)(b0 b1:Value)(v:Value)(w:World):Prop:=∃g,v=.pointer (some ⟨g,0,none⟩)∧W.heap.size≤g∧Blk w g T [b0,b1]
theorem k3g{W:World}{q:Nat}{T:TypeId}{vals:List Value}{i:Nat}{v:Value}{w w':World}(h:q7q W q T vals i v w)(hx:Ext w w'):q7q W q T vals i v w':=by
 unfold q7q at h⊢;split
 ·rename_i hi
  rw[if_pos hi] at h;obtain⟨g,d0,d1,h1,h2,h3⟩:=h;exact⟨g,d0,d1,h1,h2,h3.ext hx⟩
 ·rename_i hi
  rw[if_neg hi] at h;exact h
theorem k3f{W:World}{T:TypeId}{b0 b1:Value}{v:Value}{w w':World}(h:y0u W T b0 b1 v w)(hx:Ext w w'):y0u W T b0 b1 v w':=by
 obtain⟨g,h1,h2,h3⟩:=h;exact⟨g,h1,h2,h3.ext hx⟩
theorem q5m{W:World}{q:Nat}{T:TypeId}{vals:List Value}{i:Nat}{v:Value}{w:World}{g0:Nat}(u0 u1:Value)(h:q7q W q T vals i v w):q7q W q T vals i v ((w.setCell ⟨g0,0,none⟩ u0).setCell ⟨g0,1,none⟩ u1):=by
 unfold q7q at h⊢;split
 ·rename_i hi
  rw[if_pos hi] at h;obtain⟨g,d0,d1,h1,h2,h3⟩:=h;by_cases hg:g=g0
  ·subst hg;exact⟨g,u0,u1,h1,h2,h3.store2 u0 u1⟩
  ·exact⟨g,d0,d1,h1,h2,(h3.far hg _).far hg _⟩
 ·rename_i hi
  rw[if_neg hi] at h;exact h
theorem q3z(W0:World)(B:Nat)(x:X)(cs:List Value)(sb mp:Nat)(ve:Value)(s:Sc)(w:World)(hc:Cx W0 B w)(hX:XOk W0 B x cs)(h:ScI w sb mp ve s)(hln:s.env.length≤1000000):
 z9b Tryz.prog 106 #[.pointer (some ⟨sb,0,none⟩),.agg cs.toArray] w (k2c s x) (fun b v w'=>v=.agg #[.int .i64 b.1,.int .u64 b.2]∧Ext w w') (Ext w):=by
 have HC:=Hd hc;have HX:=Hd hX;have HS:=Hd h;obtain⟨x5,rfl,h5⟩:=RX_iff.1 hX.rx;have o5:=h5.oneCell;obtain⟨W1,hW1,hx1,hb1⟩:=z6v w (.int .i64 x.op) (.string x.name) (.int .i64 x.n) (.int .i64 x.w) (.int .u64 x.v) x5 40;obtain⟨W2,hW2,hx2,hb2⟩:=q7l W1 (.int .i64 0) (.int .u64 0) 161;have hV1:=hW1.symm;have hx12:=hx1.trans hx2;have X2:=Hd hx12;have HB2:=Hd hb2;obtain⟨c0,c1,c2,c3,c4,c5⟩:=(hb1.ext hx2).later6;obtain⟨e2',he2⟩:=y1h (W:=W2) (w:=W2) (y1g _);have hV2:=hW2.symm.trans he2;clear he2;have KE:=Hd (fun(w':World) (hw:Ext W2 w')=>j1p w'.heap.size s.env x w' ve _ (HC.o.tabs.ext (HC.o.ext.trans (X2.o.trans hw))) (HX.o.at_ (HC.o.later (X2.o.trans hw))) ((SlT.keep HS.o.env (.inr (.inr rfl)) (X2.o.trans hw).kp (fun _ _ _ h=>h)).sl) (y1j _) HX.o.size HX.o.vx (by omega));obtain⟨r,hr⟩:∃r,r=k5u s.env x:=⟨_,rfl⟩;have HD:=Hd (show k2c s x=if r.2=0 then .ok r.1 else .error r.2 by rw[hr];rfl);rw[←hr] at KE;obtain⟨⟨n1,n2⟩,e2⟩:=r;have y0:∀e:Later W2,e.w.cell? ⟨sb,0,none⟩=some ve:=cellAt (hx12.at_ (h.blk.cell 0));have ov:=h.env.oneCell;have hlt1:W1.heap.size<W2.heap.size:=hb2.lt;have hgw:w.heap.size≤W1.heap.size:=hx1.size;clear hr hW1 hW2 hx1 hx2 hx12 hb1 hb2 h5 hX hc h;go_enter func106,ntmps106;go_wp2_with fail
 refine z6d (W:=W2) (q7q W2 9 161 [.agg #[.int .i64 x.op,.string x.name,.int .i64 x.n,.int .i64 x.w,.int .u64 x.v,x5],.pointer (some ⟨sb,0,none⟩),.pointer (some ⟨sb,0,none⟩),.pointer (some ⟨sb,0,none⟩),ve,.tuple #[.agg #[.int .i64 n1,.int .u64 n2],.int .i64 e2],.tuple #[.agg #[.int .i64 n1,.int .u64 n2],.int .i64 e2],.agg #[.int .i64 n1,.int .u64 n2],.int .i64 e2,undef,undef,.int .i64 e2]) (y0u W2 161 (.int .i64 n1) (.int .u64 n2)) 10 9 5 (by kernel_rfl) (by kernel_rfl) (by kernel_rfl) (by decide) (by decide) ?_ (y1i _) (fun i v w w' h hx=>k3g h hx) (fun v w w' h hx=>k3f h hx) ?_ ?_
 ·simp[GuardsMet,q7q]
 ·refine⟨?_,?_,?_,?_,?_,?_,?_,?_,?_,?_,?_,?_,trivial⟩
  ·intro A wa hxa hd h0;obtain⟨ea,rfl⟩:=y1h hxa;have r3:=z0c h0 3 (by kernel_rfl);simp at r3;clear hd h0;go_simp;first|exact⟨_,rfl,y1g _,rfl⟩|exact⟨y1g _,rfl⟩|exact rfl|exact⟨_,rfl,rfl⟩
  ·intro A wa hxa hd h0;obtain⟨ea,rfl⟩:=y1h hxa;have r0:=z0c h0 0 (by kernel_rfl);simp at r0;clear hd h0;go_simp;first|exact⟨_,rfl,y1g _,rfl⟩|exact⟨y1g _,rfl⟩|exact rfl|exact⟨_,rfl,rfl⟩
  ·intro A wa hxa hd h0;obtain⟨ea,rfl⟩:=y1h hxa;have q1:=z0d hd 1 9 (by kernel_rfl) rfl;simp[q7q] at q1;clear hd h0;go_simp;first|exact⟨_,rfl,y1g _,rfl⟩|exact⟨y1g _,rfl⟩|exact rfl|exact⟨_,rfl,rfl⟩
  ·intro A wa hxa hd h0;obtain⟨ea,rfl⟩:=y1h hxa;have q2:=z0d hd 2 10 (by kernel_rfl) rfl;simp[q7q] at q2;clear hd h0;go_simp;first|exact⟨_,rfl,y1g _,rfl⟩|exact⟨y1g _,rfl⟩|exact rfl|exact⟨_,rfl,rfl⟩
  ·intro A wa hxa hd h0;obtain⟨ea,rfl⟩:=y1h hxa;have q3:=z0d hd 3 11 (by kernel_rfl) rfl;simp[q7q] at q3;clear hd h0;go_simp;first|exact⟨_,rfl,y1g _,rfl⟩|exact⟨y1g _,rfl⟩|exact rfl|exact⟨_,rfl,rfl⟩
  ·intro A wa hxa hd h0;obtain⟨ea,rfl⟩:=y1h hxa;have q0:=z0d hd 0 8 (by kernel_rfl) rfl;simp[q7q] at q0;have q4:=z0d hd 4 12 (by kernel_rfl) rfl;simp[q7q] at q4;clear hd h0;go_simp;refine(KE.o ea.w ea.ext).mono ?_;rintro e w2 ⟨rfl,hx⟩;go_simp;first|exact⟨_,rfl,hx,rfl⟩|exact⟨hx,rfl⟩|exact⟨_,rfl,rfl⟩
  ·intro A wa hxa hd h0;obtain⟨ea,rfl⟩:=y1h hxa;have q5:=z0d hd 5 13 (by kernel_rfl) rfl;simp[q7q] at q5;clear hd h0;go_simp;first|exact⟨_,rfl,y1g _,rfl⟩|exact⟨y1g _,rfl⟩|exact rfl|exact⟨_,rfl,rfl⟩
  ·intro A wa hxa hd h0;obtain⟨ea,rfl⟩:=y1h hxa;have q6:=z0d hd 6 7 (by kernel_rfl) rfl;simp[q7q] at q6;clear hd h0;go_simp;first|exact⟨_,rfl,y1g _,rfl⟩|exact⟨y1g _,rfl⟩|exact rfl|exact⟨_,rfl,rfl⟩
  ·intro A wa hxa hd h0;obtain⟨ea,rfl⟩:=y1h hxa;have q6:=z0d hd 6 7 (by kernel_rfl) rfl;simp[q7q] at q6;clear hd h0;go_simp;first|exact⟨_,rfl,y1g _,rfl⟩|exact⟨y1g _,rfl⟩|exact rfl|exact⟨_,rfl,rfl⟩
  ·intro A wa hxa hd h0;obtain⟨ea,rfl⟩:=y1h hxa;clear hd h0;obtain⟨W4,hW4,hx4,hb4⟩:=q7l ea.w (.int .i64 0) (.int .u64 0) 161;have hV4:=hW4.symm;have HG:=Hd (y1x hx4 hb4);have HZ:=Hd ea.ext.size;clear hW4 hx4 hb4;go_simp;exact⟨_,rfl,HG.o.1,_,_,_,rfl,HZ.o,HG.o.2⟩
  ·intro A wa hxa hd h0;obtain⟨ea,rfl⟩:=y1h hxa;obtain⟨g,d0,d1,q9,hge,hbk⟩:=z0d hd 9 5 (by kernel_rfl) rfl;simp at q9;have q7:=z0d hd 7 14 (by kernel_rfl) rfl;simp[q7q] at q7;clear hd h0;obtain⟨z0,z1⟩:=hbk.get2;obtain⟨f0,f1⟩:=hbk.free2;have HG:=Hd (y1x hge hbk);clear hge hbk;go_simp;first|exact⟨(ea.ext.setCell HG.o.1 _).setCell HG.o.1 _,fun j u h=>q5m _ _ h,_,rfl,HG.o.1,HG.o.2.store2 _ _⟩|exact⟨(ea.ext.setCell HG.o.1 _).setCell HG.o.1 _,fun j u h=>q5m _ _ h,rfl,_,rfl,HG.o.1,HG.o.2.store2 _ _⟩
  ·intro A wa hxa hd h0;obtain⟨ea,rfl⟩:=y1h hxa;have q8:=z0d hd 8 15 (by kernel_rfl) rfl;simp[q7q] at q8;clear hd h0;go_simp;first|exact⟨_,rfl,y1g _,rfl⟩|exact⟨y1g _,rfl⟩|exact rfl|exact⟨_,rfl,rfl⟩
 intro A wa hk hG;obtain⟨hxa,hsz,hdf,hdn,hrs⟩:=hk;obtain⟨ea,rfl⟩:=y1h hxa;obtain⟨g,k5,hge,hbk⟩:=hG;simp at k5;have k4:=z0c hrs 4 (by kernel_rfl);simp at k4;have k6:A.tmps.getD 6 undef=.int .i64 e2:=hdn 11 6 rfl rfl;simp at k6;clear hdn hrs;rw[z4x hsz hdf];obtain⟨fZ,hfZ,hfY⟩:=tmpsF A;simp only[hfZ,hfY] at k5 k4 k6⊢;simp[List.range,List.range.loop,k5,k4,k6];clear k5 k4 k6 hsz hdf;clear hfZ hfY;have HBK:=Hd hbk;have HXE:=Hd (X2.o.trans ea.ext);have HB2:=Hd (HB2.o.ext ea.ext);obtain⟨g0,g1⟩:=hbk.get2;obtain⟨z0,z1⟩:=HB2.o.get2;obtain⟨f0,f1⟩:=HB2.o.free2;clear hbk;by_cases he:e2=0
 ·subst he;have K:=Hd (j1z ea.w);have HR:=Hd (show k2c s x=.ok (n1,n2) from HD.o.trans (if_pos rfl));obtain⟨W9,hW9⟩:∃W9,W9=(ea.w.setCell ⟨W1.heap.size,0,none⟩ (.int .i64 n1)).setCell ⟨W1.heap.size,1,none⟩ (.int .u64 n2):=⟨_,rfl⟩;have hb9:Blk W9 W1.heap.size 161 [.int .i64 n1,.int .u64 n2]:=by rw[hW9];exact HB2.o.store2 _ _
  have HX9:=Hd (show Ext w W9 by rw[hW9];exact(HXE.o.setCell hgw _).setCell hgw _);have hV9:=hW9.symm;obtain⟨j0,j1⟩:=hb9.get2;clear hb9 hW9;go_wp2_with fail
  go_at_call 67;refine K.o.mono ?_;rintro _ _ ⟨rfl,rfl⟩;go_wp2_with fail
  refine bodyPost_ret (v:=.agg #[.int .i64 n1,.int .u64 n2]) ?_ rfl (.ok HR.o ⟨rfl,HX9.o⟩);simp[results,results106,go_sem,j0,j1]
 ·have K:=Hd (q0n e2 he ea.w);have HR:=Hd (show k2c s x=.error e2 from HD.o.trans (if_neg he));go_wp2_with fail
  go_at_call 67;refine K.o.mono ?_;rintro _ w9 ⟨rfl,rfl⟩;exact⟨rfl,.no HR.o HXE.o⟩
theorem MkI.ext{w w':World}{N0 mb:Nat}{vf vs vp vc:Value}{m:Mk}(h:MkI w N0 mb vf vs vp vc m)(hx:Ext w w'):MkI w' N0 mb vf vs vp vc m:=
 ⟨h.blk.ext hx,h.sig.later hx,h.prc.ext_imp hx (RPc.keep hx.kp),h.chk.ext_imp hx (RCk.keep hx.kp),h.base⟩
theorem ScI.ext{w w':World}{sb mp:Nat}{ve:Value}{s:Sc}(h:ScI w sb mp ve s)(hx:Ext w w'):ScI w' sb mp ve s:=
 ⟨h.blk.ext hx,h.env.keep (.inr (.inr rfl)) hx.kp (fun _ _ _ h=>h),h.map.ext hx⟩
structure Good(sg:List Sg)(s:Sc):Prop where
 at_:∀nm a,s.sigs nm=some a→0≤a∧a<sg.length
 w:∀g,g∈sg→1≤g.w∧g.w≤64
 env:s.env.length≤1000000
 const:∀p,p∈s.env→z1j p.2
theorem q3b{sg:List Sg}{k:Nat}(h:k<sg.length):z9s sg (k:Int)=sg[k]:=by
 unfold z9s;simp[List.getD_eq_getElem?_getD,List.getElem?_eq_getElem h]
theorem z2m{l:List X}{k:Nat}(h:k<l.length):xAt l k=l[k]:=by
 unfold xAt;simp[List.getD_eq_getElem?_getD,List.getElem?_eq_getElem h]
theorem XOk.part{W0:World}{B:Nat}{x:X}{cs:List Value}(h:XOk W0 B x cs){y:X}(hy:y∈x.l){c:List Value}(hc:RX W0 B y c):XOk W0 B y c:=
 ⟨hc,by
  have:=z0g z0l x.l y hy;have h1:=h.size;rw[z3u] at h1;omega,(VX_iff.1 h.vx).2.2.2 y hy⟩
theorem j3m{sg:List Sg}{s:Sc}{nm:ByteArray}{a:Int}(hg:Good sg s)(h:z6n s nm=.ok a):∃k:Nat,a=k∧k<sg.length:=by
 unfold z6n at h;cases hs:s.sigs nm with
 |none=>rw[hs] at h;cases h
 |some b=>
  rw[hs] at h;injection h with h;subst h;obtain⟨h1,h2⟩:=hg.at_ nm b hs;exact⟨b.toNat,by omega,by omega⟩
theorem q2f(W0:World)(B N0 mb sb mp:Nat)(vf vs vp vc ve:Value)(m:Mk)(s:Sc)(x:X)(cs:List Value)(w:World)(hc:Cx W0 B w)(hX:XOk W0 B x cs)(h:MkI w N0 mb vf vs vp vc m)(hs:ScI w sb mp ve s)(hg:Good m.d.sigs s)(hl:x.op≠2→0<x.l.length):
 z9b Tryz.prog 183 #[.pointer (some ⟨mb,0,none⟩),.pointer (some ⟨sb,0,none⟩),.agg cs.toArray] w (z5q m.d.sigs s x) (fun r v w'=>v=.tuple #[.int .i64 r.1,.int .i64 r.2.1,.int .i64 r.2.2]∧Ext w w') (Ext w):=by
 have HC:=Hd hc;have HX:=Hd hX;have HM:=Hd h;have HS:=Hd hs;have HG:=Hd hg;obtain⟨sa,sc,rfl⟩:=h.sig.form;obtain⟨x5,rfl,h5⟩:=RX_iff.1 hX.rx;obtain⟨la,lc,rfl,hlc,hlr⟩:=h5;have HLR:=Hd hlr;obtain⟨W1,e1,hV1,hx1,hs1,c0,c1,c2,c3,c4,c5⟩:=z6b w (.int .i64 x.op) (.string x.name) (.int .i64 x.n) (.int .i64 x.w) (.int .u64 x.v) (.slice la x.l.length lc) 40;have X1:=Hd hx1;have KK:=Hd (fun(w':World) (hw:Ext w w')=>q8y sb mp ve s x.name w' (HS.o.ext hw));have KE:=Hd (fun(k:Nat) (hk:k<x.l.length) (c:List Value) (hcc:RX W0 B x.l[k] c) (w':World) (hw:Ext w w')=>z4p W0 B x.l[k] c sb mp ve s w' (HC.o.later hw) (HX.o.part (y1l hk) hcc) (HS.o.ext hw) HG.o.env);have SR:=Hd (h.sig.slT (by decide));have y1:=cellAt (hx1.at_ (h.blk.cell 1));clear hlr hx1 hs1 hX hc h hs hg;go_enter func183,ntmps183;go_wp2_with fail
 go_at_call 190;refine(KK.o _ (X1.o.trans (y1i _))).mono ?_;rintro e w1 (⟨a,v,hr1,rfl,rfl,rfl⟩|⟨c,hr1,rfl,rfl⟩);rotate_left
 ·have HR:=Hd (show z5q m.d.sigs s x=.error c by unfold z5q;rw[hr1];rfl);exact⟨rfl,.no HR.o (X1.o.trans (y1i _))⟩
 obtain⟨k,rfl,hk⟩:=j3m HG.o hr1;have hgw:=HG.o.w _ (y1l hk);obtain⟨z0,zc,hzv,hzc,hzr⟩:=SR.o;injection hzv with hz1 hz2 hz3;subst hz1;obtain⟨b,o,gs,rfl,ht,hgl,hC,h1,hR⟩:=hzr k hk;have hR':gs=_:=hR;subst hR';have hk0:(0:Int)≤(k:Int):=by omega
 have hk1:(k:Int)<(m.d.sigs.length:Int):=by omega
 have yw:=cellAt (X1.o.at_ (hC 1 _ rfl));have hD1:=Hd (fun(wd:Int) (hwd:wd=m.d.sigs[k].w)=>(by rw[hwd,q3b hk]:(z9s m.d.sigs (k:Int)).w=wd));obtain⟨wd,hwd⟩:∃wd,wd=m.d.sigs[k].w:=⟨_,rfl⟩;have HW:=Hd (hD1.o wd hwd);rw[←hwd] at hgw yw;clear hwd hD1 hzr hC h1 hR ht hz2 hz3;by_cases hop:x.op=2
 ·have HR:=Hd (show z5q m.d.sigs s x=.ok ((k:Int),wd - 1,0) by
   unfold z5q;rw[hr1];show(if x.op=2 then _ else _)=_;rw[if_pos hop];show(do let _←z0o (0≤(z9s m.d.sigs (k:Int)).w - 1∧(z9s m.d.sigs (k:Int)).w - 1<(z9s m.d.sigs (k:Int)).w) 84;pure ((k:Int),(z9s m.d.sigs (k:Int)).w - 1,(0:Int)):Rs _)=_;rw[HW.o];unfold z0o;rw[if_pos (by omega)]
   rfl)
  have K:=Hd (fun w'=>z1q 84 w');have hop':(x.op !=2)=false:=by rw[hop];rfl
  have hw1:(0:Int)≤wd - 1:=by omega
  have hw2:wd - 1<wd:=by omega
  clear hr1;go_wp2_with fail
  go_at_call 35;refine(K.o _).mono ?_;rintro _ _ ⟨rfl,rfl⟩;go_wp2_with fail
  refine bodyPost_ret (v:=.tuple #[.int .i64 (k:Int),.int .i64 (wd - 1),.int .i64 0]) ?_ rfl (.ok HR.o ⟨rfl,X1.o.trans (y1i _)⟩);simp[results,results183,go_sem]
 ·have hop':(x.op !=2)=true:=bne_iff_ne.2 hop;have hln:=hl hop;obtain⟨b0,o0,t0,hla,hb0,hl0,hC0,ho0,hR0⟩:=HLR.o 0 hln;subst hla;have HX0:=Hd (z2m (k:=0) hln);have hlast:x.l.length - 1<x.l.length:=by omega
  have HXL:=Hd (z2m (k:=x.l.length - 1) hlast);simp only[Nat.zero_mul,Nat.add_zero] at hC0;obtain⟨bl,ol,tl,hlal,hbl,hll,hCl,hol,hRl⟩:=HLR.o (x.l.length - 1) hlast;injection hlal with hlal;injection hlal with hlal1 hlal2;subst hlal1;subst hlal2;have KE0:=Hd (KE.o 0 hln t0 hR0);have KE1:=Hd (KE.o (x.l.length - 1) hlast tl hRl);obtain⟨x50,rfl,h50⟩:=RX_iff.1 hR0;obtain⟨x5l,rfl,h5l⟩:=RX_iff.1 hRl;obtain⟨d0,d1,d2,d3,d4,d5⟩:=(hC0.ext (HC.o.ext.trans X1.o)).later6;obtain⟨f0,f1,f2,f3,f4,f5⟩:=(hCl.ext (HC.o.ext.trans X1.o)).later6;have u0:=h50.oneCell;have u1:=h5l.oneCell;have hlen9:x.l.length≤1000000000:=by
   have h1:=z0b z0l x.l z1n;have h2:=HX.o.size;rw[z3u] at h2;omega
  have hlc:((x.l.length:Int) - 1)=((x.l.length - 1:Nat):Int):=by omega
  have hl0:(0:Int)≤((x.l.length - 1:Nat):Int):=by omega
  have hl1:((x.l.length - 1:Nat):Int)<(x.l.length:Int):=by omega
  have hl2:(0:Int)<(x.l.length:Int):=Int.ofNat_lt.2 hln;have hlw:wrap64 ((x.l.length - 1:Nat):Int)=((x.l.length - 1:Nat):Int):=IntWalk.wrap64_in _ ⟨by omega,by omega⟩;have HB:=Hd (show z5q m.d.sigs s x=(do let hi←z1p s x.l[0];let lo←z1p s (x.l[x.l.length - 1]'hlast);let _←z0o (0≤lo∧lo≤hi∧hi<wd) 84;return((k:Int),hi,lo)) from by
   unfold z5q;rw[hr1];show(if x.op=2 then _ else _)=_;rw[if_neg hop,HX0.o,HXL.o,HW.o])
  clear hr1 hop hC0 hCl hR0 hRl hb0 hbl hol ho0 h50 h5l hll HX0 HXL HW KE HLR;generalize x.l[0]=xa at*;generalize x.l[x.l.length - 1]'hlast=xb at*;go_wp2_with fail
  go_at_call 71;refine(KE0.o _ (X1.o.trans (y1i _))).mono ?_;rintro e w2 (⟨hi,v,hr2,rfl,rfl,hx2⟩|⟨c,hr2,rfl,hx2⟩);rotate_left
  ·have HR:=Hd (show z5q m.d.sigs s x=.error c by rw[HB.o,hr2];rfl);exact⟨rfl,.no HR.o ((X1.o.trans (y1i _)).trans hx2)⟩
  obtain⟨e2,rfl⟩:=y1h ((y1i e1).trans hx2);clear hx2;go_wp2_with fail
  go_at_call 71;refine(KE1.o _ (X1.o.trans (y1i _))).mono ?_;rintro e w3 (⟨lo,v,hr3,rfl,rfl,hx3⟩|⟨c,hr3,rfl,hx3⟩);rotate_left
  ·have HR:=Hd (show z5q m.d.sigs s x=.error c by rw[HB.o,hr2];show(do let lo←z1p s xb;_:Rs _)=_;rw[hr3];rfl);exact⟨rfl,.no HR.o ((X1.o.trans (y1i _)).trans hx3)⟩
  obtain⟨e3,rfl⟩:=y1h ((y1i e2).trans hx3);clear hx3;have HB:=Hd (show z5q m.d.sigs s x=(do let _←z0o (0≤lo∧lo≤hi∧hi<wd) 84;return((k:Int),hi,lo)) from by
   rw[HB.o,hr2];show(do let lo←z1p s xb;_:Rs _)=_;rw[hr3]
   rfl)
  clear hr2 hr3 KE0 KE1;by_cases hall:0≤lo∧lo≤hi∧hi<wd
  ·have HR:=Hd (show z5q m.d.sigs s x=.ok ((k:Int),hi,lo) by rw[HB.o];unfold z0o;rw[if_pos hall];rfl);have K:=Hd (fun w'=>z1q 84 w');obtain⟨g1,g2,g3⟩:=hall;go_wp2_with fail
   go_at_call 35;refine(K.o _).mono ?_;rintro _ _ ⟨rfl,rfl⟩;go_wp2_with fail
   refine bodyPost_ret (v:=.tuple #[.int .i64 (k:Int),.int .i64 hi,.int .i64 lo]) ?_ rfl (.ok HR.o ⟨rfl,X1.o.trans (y1i _)⟩);simp[results,results183,go_sem]
  ·have HR:=Hd (show z5q m.d.sigs s x=.error 84 by rw[HB.o];unfold z0o;rw[if_neg hall];rfl);have K:=Hd (fun w'=>z2h 84 (by decide) w');by_cases g1:0≤lo
   rotate_left
   ·clear hall;go_wp2_with fail
    go_at_call 35;refine(K.o _).mono ?_;rintro _ _ ⟨rfl,rfl⟩;exact⟨rfl,.no HR.o (X1.o.trans (y1i _))⟩
   by_cases g2:lo≤hi
   rotate_left
   ·clear hall;go_wp2_with fail
    go_at_call 35;refine(K.o _).mono ?_;rintro _ _ ⟨rfl,rfl⟩;exact⟨rfl,.no HR.o (X1.o.trans (y1i _))⟩
   have g3:¬hi<wd:=fun h=>hall ⟨g1,g2,h⟩
   have g4:decide (hi<wd)=false:=decide_eq_false g3;clear hall;go_wp2_with fail
   go_at_call 35;refine(K.o _).mono ?_;rintro _ _ ⟨rfl,rfl⟩;exact⟨rfl,.no HR.o (X1.o.trans (y1i _))⟩
theorem q9g(b:Bool):MapKept.IsKey .bool (.bool b):=trivial
theorem k8f{sg:List Sg}{s:Sc}{x:X}{r:Int×Int×Int}(hg:Good sg s)(h:z5q sg s x=.ok r):∃k:Nat,r.1=k∧k<sg.length:=by
 unfold z5q at h;cases hk:z6n s x.name with
 |error e=>rw[hk] at h;cases h
 |ok a=>
  rw[hk] at h;obtain⟨k,rfl,hlt⟩:=j3m hg hk;refine⟨k,?_,hlt⟩;simp only[bind,Except.bind,pure,Except.pure] at h;split at h
  ·unfold z0o at h;split at h
   ·cases h
   ·rename_i hu
    split at hu<;>cases hu<;>(injection h with h;rw[←h])
  ·split at h
   ·cases h
   ·split at h
    ·cases h
    ·unfold z0o at h;split at h
     ·cases h
     ·injection h with h;rw[←h]
theorem j1y{w:World}{m g:Nat}{o:Obj}{t:TypeId}{cs:List Value}(h:Blk w g t cs)(hne:g≠m):Blk (z4f w m o) g t cs:=(q7k o).blk h hne
theorem q3r(W0:World)(B N0 mb sb mp:Nat)(vf vs vp vc ve:Value)(m:Mk)(s:Sc)(clk:Bool)(x:X)(cs:List Value)(w:World)(hc:Cx W0 B w)(hX:XOk W0 B x cs)(h:MkI w N0 mb vf vs vp vc m)(hs:ScI w sb mp ve s)(hg:Good m.d.sigs s)(hl:x.op=3∨x.op=4→0<x.l.length):
 z9b Tryz.prog 148 #[.pointer (some ⟨mb,0,none⟩),.pointer (some ⟨sb,0,none⟩),.agg cs.toArray,.bool clk] w (z2t m.d.sigs s clk x)
  (fun r v w'=>v=.agg #[.int .i64 1,.int .i64 r.1,.int .i64 r.2.1,.int .i64 r.2.2,.slice none 0 0,.slice none 0 0]∧Ext w w') (Ext w):=by
 have HC:=Hd hc;have HX:=Hd hX;have HM:=Hd h;have HS:=Hd hs;have HG:=Hd hg;obtain⟨sa,sc,rfl⟩:=h.sig.form;obtain⟨x5,rfl,h5⟩:=RX_iff.1 hX.rx;have o5:=h5.oneCell;obtain⟨W1,hW1,hx1,hb1⟩:=z6v w (.int .i64 x.op) (.string x.name) (.int .i64 x.n) (.int .i64 x.w) (.int .u64 x.v) x5 40;obtain⟨W2,hW2,hx2,hb2⟩:=z6v W1 (.int .i64 0) (.int .i64 0) (.int .i64 0) (.int .i64 0) (.slice none 0 0) (.slice none 0 0) 73;have hV1:=hW1.symm;have hx12:=hx1.trans hx2;have X2:=Hd hx12;have HB2:=Hd hb2;have hgw:w.heap.size≤W1.heap.size:=hx1.size;have hlt12:W1.heap.size<W2.heap.size:=hb2.lt;obtain⟨c0,c1,c2,c3,c4,c5⟩:=(hb1.ext hx2).later6;obtain⟨e2,he2⟩:=y1h (W:=W2) (w:=W2) (y1g _);have hV2:=hW2.symm.trans he2;clear he2 hW1 hW2 hx1 hx2 hb1 hb2;by_cases hop:x.op=2∨x.op=3∨x.op=4
 rotate_left
 ·have h2:(x.op==2)=false:=beq_eq_false_iff_ne.2 fun e=>hop (.inl e)
  have h3:(x.op==3)=false:=beq_eq_false_iff_ne.2 fun e=>hop (.inr (.inl e))
  have h4:(x.op==4)=false:=beq_eq_false_iff_ne.2 fun e=>hop (.inr (.inr e))
  have HR:=Hd (show z2t m.d.sigs s clk x=.error 85 by unfold z2t z0o;rw[if_neg hop];rfl);have K:=Hd (fun w'=>q0n 85 (by decide) w');clear hop h hs hg hc hX h5 hl;go_enter func148,ntmps148;go_wp2_with fail
  go_at_call 67;refine(K.o _).mono ?_;rintro _ _ ⟨rfl,rfl⟩;exact⟨rfl,.no HR.o (X2.o.trans (y1i _))⟩
 have KB:=Hd (fun(w':World) (hw:Ext w w')=>q2f W0 B N0 mb sb mp vf _ vp vc ve m s x _ w' (HC.o.later hw) HX.o (HM.o.ext hw) (HS.o.ext hw) HG.o (fun hne=>hl (hop.resolve_left hne)));have SR:=Hd (h.sig.slT (by decide));have y1:=cellAt (hx12.at_ (h.blk.cell 1));have HD:=Hd (show z2t m.d.sigs s clk x=(do let r←z5q m.d.sigs s x;let _←z0o (z7p clk (z9s m.d.sigs r.1).kind=true) 85;return r) from by
  unfold z2t;rw[show z0o (x.op=2∨x.op=3∨x.op=4) 85=.ok () from by unfold z0o;rw[if_pos hop]]
  rfl)
 clear h hs hg hc hX h5 hl hx12;have ut:Tryz.prog.underlying 234=some (.map 4 77):=underlying234;have uk:Tryz.prog.underlying 4=some .bool:=underlying4;have hz:∀w:World,(zeroValue 77).run Tryz.prog w=.ok (.slice none 0 0) w:=fun _=>by kernel_rfl
 have HUT:=Hd (y1x ut (y1x uk hz));clear ut uk hz;obtain⟨q,hq⟩:∃q,q=x.op:=⟨_,rfl⟩;rw[←hq] at hop c0 hV1;have HQ:=Hd hq;rw[←hq];clear hq;have hq0:q=2∨q=3∨q=4:=hop;rcases hop with rfl|rfl|rfl
 all_goals
  have hmm:=@run_makeMap Tryz.prog;go_enter func148,ntmps148;go_wp2_with fail
  go_at_call 183;rw[HQ.o];refine(KB.o _ (X2.o.trans (y1i _))).mono ?_;rintro e w3 (⟨r,v,hr1,rfl,rfl,hx3⟩|⟨c,hr1,rfl,hx3⟩);rotate_left
  ·have HR:=Hd (show z2t m.d.sigs s clk x=.error c by rw[HD.o,hr1];rfl);exact⟨rfl,.no HR.o ((X2.o.trans (y1i _)).trans hx3)⟩
  obtain⟨e3,rfl⟩:=y1h ((y1i e2).trans hx3);obtain⟨k,hk1,hk⟩:=k8f HG.o hr1;obtain⟨r1,r2,r3⟩:=r;obtain rfl:r1=k:=hk1;have HD:=Hd (show z2t m.d.sigs s clk x=(do let _←z0o (z7p clk (z9s m.d.sigs (k:Int)).kind=true) 85;return((k:Int),r2,r3)) from by rw[HD.o,hr1];rfl);obtain⟨z0,zc,hzv,hzc,hzr⟩:=SR.o;injection hzv with hz1 hz2 hz3;subst hz1;obtain⟨b,o,gs,rfl,ht,hgl,hC,h1,hR⟩:=hzr k hk;have hR':gs=_:=hR;subst hR';have hk0:(0:Int)≤(k:Int):=by omega
  have hk1:(k:Int)<(m.d.sigs.length:Int):=by omega
  have yw:=cellAt (X2.o.at_ (hC 2 _ rfl));rw[q3b hk] at HD;obtain⟨kd,hkd⟩:∃kd,kd=m.d.sigs[k].kind:=⟨_,rfl⟩;rw[←hkd] at HD yw;obtain⟨W5,hW5⟩:∃W5,W5=e3.w.alloc (.map #[] 0):=⟨_,rfl⟩;have m5:MV W5 e3.w.heap.size []:=by rw[hW5];exact MV.new _
  have x5':Ext e3.w W5:=by rw[hW5];exact y1v _ _
  obtain⟨W6,hW6,x6,hb6⟩:=q7l W5 (.int .i64 3) (.int .i64 2) 3;have k0:∀p,p∈([]:List (Value×Value))→MapKept.IsKey .bool p.1:=fun p hp=>by cases hp
  obtain⟨o1,u1,m7⟩:=(m5.ext x6).update HUT.o.1 HUT.o.2.1 (q9g false) k0 (.slice (some ⟨W5.heap.size,0,none⟩) 2 2);have k7:=z1l (v:=.slice (some ⟨W5.heap.size,0,none⟩) 2 2) k0 (q9g false);obtain⟨W7,hW7⟩:∃W7,W7=z4f W6 e3.w.heap.size o1:=⟨_,rfl⟩;rw[←hW7] at u1 m7;have hb7:Blk W7 W5.heap.size 3 [.int .i64 3,.int .i64 2]:=by rw[hW7];exact j1y hb6 (by have:=m5.lt;omega)
  obtain⟨W8,hW8,x8,hb8⟩:=z4w W7 (.int .i64 4) 3;obtain⟨o2,u2,m9⟩:=(m7.ext x8).update HUT.o.1 HUT.o.2.1 (q9g true) k7 (.slice (some ⟨W7.heap.size,0,none⟩) 1 1);have k9:=z1l (v:=.slice (some ⟨W7.heap.size,0,none⟩) 1 1) k7 (q9g true);obtain⟨W9,hW9⟩:∃W9,W9=z4f W8 e3.w.heap.size o2:=⟨_,rfl⟩;rw[←hW9] at u2 m9;have hlk:=m9.lookup HUT.o.1 HUT.o.2.1 (q9g clk) k9 (HUT.o.2.2 W9) false;have s6:e3.w.heap.size<W6.heap.size:=y1m m5.lt x6.size;have s7:W7.heap.size=W6.heap.size:=by rw[hW7];simp[z4f]
  have hb97:Blk W9 W5.heap.size 3 [.int .i64 3,.int .i64 2]:=by rw[hW9];exact j1y (hb7.ext x8) (by have:=m5.lt;omega)
  have hb98:Blk W9 W7.heap.size 3 [.int .i64 4]:=by rw[hW9];exact j1y hb8 (by omega)
  have x9:Ext e3.w W9:=by
   have h7:Ext e3.w W7:=by rw[hW7];exact(q7k o1).ext (x5'.trans x6) (fun k e=>Nat.le_of_eq e.symm)
   rw[hW9];exact(q7k o2).ext (h7.trans x8) (fun k e=>Nat.le_of_eq e.symm)
  obtain⟨e9,he9⟩:=y1h ((y1i e3).trans x9);have hV5:=hW5.symm;have hV6:=hW6.symm;have hV8:=hW8.symm;have yk:=yw e9;rw[←he9] at yk;have y19:=y1 e9;rw[←he9] at y19;have HXW:=Hd (X2.o.trans ((y1i e3).trans x9));have HB9:=Hd (HB2.o.ext ((y1i e3).trans x9));obtain⟨j0,j1,j2,j3,j4,j5⟩:=HB9.o.get6;obtain⟨f0,f1,f2,f3,f4,f5⟩:=HB9.o.free6;obtain⟨W10,hW10⟩:∃W10,W10=(((((W9.setCell ⟨W1.heap.size,0,none⟩ (.int .i64 1)).setCell ⟨W1.heap.size,1,none⟩ (.int .i64 k)).setCell ⟨W1.heap.size,2,none⟩ (.int .i64 r2)).setCell ⟨W1.heap.size,3,none⟩ (.int .i64 r3)).setCell ⟨W1.heap.size,4,none⟩ (.slice none 0 0)).setCell ⟨W1.heap.size,5,none⟩ (.slice none 0 0):=⟨_,rfl⟩;have hb10:Blk W10 W1.heap.size 73 [.int .i64 1,.int .i64 k,.int .i64 r2,.int .i64 r3,.slice none 0 0,.slice none 0 0]:=by rw[hW10];exact HB9.o.store6 _ _ _ _ _ _
  have HX10:=Hd (show Ext w W10 by rw[hW10];exact(((((HXW.o.setCell hgw _).setCell hgw _).setCell hgw _).setCell hgw _).setCell hgw _).setCell hgw _);have hV10:=hW10.symm;obtain⟨n0,n1,n2,n3,n4,n5⟩:=hb10.get6;clear hx3 hr1 hzr hC h1 hR ht hz2 hz3 hkd hgl hk hW5 m5 x5' hW6 x6 k0 m7 k7 hW7 hb6 hb7 hW8 x8 hb8 m9 k9 hW9 s6 s7 x9 he9 hW10 hb10 yw;cases clk
  ·have hgv:(z6p (z8t (z8t [] (.bool false) (.slice (some ⟨W5.heap.size,0,none⟩) 2 2)) (.bool true) (.slice (some ⟨W7.heap.size,0,none⟩) 1 1)) (.bool false)).getD (.slice none 0 0)=.slice (some ⟨W5.heap.size,0,none⟩) 2 2:=by
    rw[z7i,if_neg (by simp),z7i,if_pos rfl];rfl
   simp only[Bool.false_eq_true,if_false,hgv] at hlk;have KC:=Hd (Tryz.slices_Contains_int W5.heap.size 0 2 2 [3,2] kd W9 (by simp) (by decide) (fun j hj=>by
    match j,hj with
    |0,_=>exact hb97.cell 0
    |1,_=>exact hb97.cell 1))
   by_cases hkk:kd=3∨kd=2
   ·have hct:(([3,2]:List Int).take 2).contains kd=true:=by rcases hkk with rfl|rfl<;>decide
    rw[hct] at KC;have HR:=Hd (show z2t m.d.sigs s false x=.ok ((k:Int),r2,r3) by rw[HD.o];unfold z0o;rw[if_pos (show z7p false kd=true by rcases hkk with rfl|rfl<;>rfl)];rfl);have K:=Hd (z1q 85 W9);clear hkk hgv hct hb97 hb98 HD;go_wp2_with fail
    go_at_call 184;refine KC.o.mono ?_;rintro _ W9 ⟨rfl,rfl⟩;go_wp2_with fail
    go_at_call 35;refine K.o.mono ?_;rintro _ W9 ⟨rfl,rfl⟩;go_wp2_with fail
    refine bodyPost_ret (v:=.agg #[.int .i64 1,.int .i64 (k:Int),.int .i64 r2,.int .i64 r3,.slice none 0 0,.slice none 0 0]) ?_ rfl (.ok HR.o ⟨rfl,HX10.o⟩);simp[results,results148,go_sem,n0,n1,n2,n3,n4,n5]
   ·have hct:(([3,2]:List Int).take 2).contains kd=false:=by
     cases hh:(([3,2]:List Int).take 2).contains kd with
     |false=>rfl
     |true=>exact absurd (by simpa using hh) hkk
    rw[hct] at KC;have HR:=Hd (show z2t m.d.sigs s false x=.error 85 by rw[HD.o];unfold z0o;rw[if_neg (show¬z7p false kd=true from fun h=>hkk (by simpa [z7p] using h))];rfl);have K:=Hd (z2h 85 (by decide) W9);clear hkk hgv hct hb97 hb98 HD;go_wp2_with fail
    go_at_call 184;refine KC.o.mono ?_;rintro _ W9 ⟨rfl,rfl⟩;go_wp2_with fail
    go_at_call 35;refine K.o.mono ?_;rintro _ W9 ⟨rfl,rfl⟩;exact⟨rfl,.no HR.o HXW.o⟩
  ·have hgv:(z6p (z8t (z8t [] (.bool false) (.slice (some ⟨W5.heap.size,0,none⟩) 2 2)) (.bool true) (.slice (some ⟨W7.heap.size,0,none⟩) 1 1)) (.bool true)).getD (.slice none 0 0)=.slice (some ⟨W7.heap.size,0,none⟩) 1 1:=by
    rw[z7i,if_pos rfl];rfl
   simp only[Bool.false_eq_true,if_false,hgv] at hlk;have KC:=Hd (Tryz.slices_Contains_int W7.heap.size 0 1 1 [4] kd W9 (by simp) (by decide) (fun j hj=>by
    match j,hj with
    |0,_=>exact hb98.cell 0))
   by_cases hkk:kd=4
   ·have hct:(([4]:List Int).take 1).contains kd=true:=by rw[hkk];decide
    rw[hct] at KC;have HR:=Hd (show z2t m.d.sigs s true x=.ok ((k:Int),r2,r3) by rw[HD.o];unfold z0o;rw[if_pos (show z7p true kd=true by rw[hkk];rfl)];rfl);have K:=Hd (z1q 85 W9);clear hkk hgv hct hb97 hb98 HD;go_wp2_with fail
    go_at_call 184;refine KC.o.mono ?_;rintro _ W9 ⟨rfl,rfl⟩;go_wp2_with fail
    go_at_call 35;refine K.o.mono ?_;rintro _ W9 ⟨rfl,rfl⟩;go_wp2_with fail
    refine bodyPost_ret (v:=.agg #[.int .i64 1,.int .i64 (k:Int),.int .i64 r2,.int .i64 r3,.slice none 0 0,.slice none 0 0]) ?_ rfl (.ok HR.o ⟨rfl,HX10.o⟩);simp[results,results148,go_sem,n0,n1,n2,n3,n4,n5]
   ·have hct:(([4]:List Int).take 1).contains kd=false:=by
     cases hh:(([4]:List Int).take 1).contains kd with
     |false=>rfl
     |true=>exact absurd (by simpa using hh) hkk
    rw[hct] at KC;have HR:=Hd (show z2t m.d.sigs s true x=.error 85 by rw[HD.o];unfold z0o;rw[if_neg (show¬z7p true kd=true from fun h=>hkk (by simpa [z7p] using h))];rfl);have K:=Hd (z2h 85 (by decide) W9);clear hkk hgv hct hb97 hb98 HD;go_wp2_with fail
    go_at_call 184;refine KC.o.mono ?_;rintro _ W9 ⟨rfl,rfl⟩;go_wp2_with fail
    go_at_call 35;refine K.o.mono ?_;rintro _ W9 ⟨rfl,rfl⟩;exact⟨rfl,.no HR.o HXW.o⟩
end Go.Proofs.YtlfmlodanoolhaaGreatDoor
namespace Go.Proofs.YtlfmlodanoolhaaGreatDoor
open Go Go.RowKit Go.Proofs.Tryz
def SlY{α:Type}(Y:Nat→Prop)(T:TypeId)(R:α→List Value→Prop)(w:World)(sz:Nat)(l:List α)(v:Value):Prop:=
 ∃a cap,v=.slice a l.length cap∧l.length≤cap∧∀k,(h:k<l.length)→∃b o cs,a=some ⟨b,o,none⟩∧Y b∧Tag w b T∧cs.length=sz∧Cells w b (o+k*sz) cs∧(∀v,v∈cs→v.oneCell'=true)∧R l[k] cs
theorem SlY.slT{α:Type}{Y:Nat→Prop}{T:TypeId}{R R':α→List Value→Prop}{w:World}{sz:Nat}{l:List α}{v:Value}(h:SlY Y T R w sz l v)(hR:∀y,y∈l→∀cs,R y cs→R' y cs):SlT T R' w sz l v:=by
 obtain⟨a,cap,hv,hc,hr⟩:=h;refine⟨a,cap,hv,hc,fun k hlt=>?_⟩;obtain⟨b,o,cs,ha,hy,ht,hl,hC,h1,hR1⟩:=hr k hlt;exact⟨b,o,cs,ha,ht,hl,hC,h1,hR _ (y1l hlt) _ hR1⟩
theorem SlY.turn{α:Type}{X Y Y':Nat→Prop}{T:TypeId}{R R':α→List Value→Prop}{w w':World}{sz:Nat}{l:List α}{v:Value}(h:SlY Y T R w sz l v)(hg:Chg X w w')(hX:∀b,Tag w b T→Y b→¬X b∧Y' b)(hR:∀y,y∈l→∀cs,R y cs→R' y cs):SlY Y' T R' w' sz l v:=by
 obtain⟨a,cap,hv,hc,hr⟩:=h;refine⟨a,cap,hv,hc,fun k hlt=>?_⟩;obtain⟨b,o,cs,ha,hy,ht,hl,hC,h1,hR1⟩:=hr k hlt;have hb:=hX b ht hy;have he:=hg.block b ht.lt hb.1;exact⟨b,o,cs,ha,hb.2,ht.of_eq he,hl,fun j u hu=>(y2b (a:=⟨b,o+k*sz+j,none⟩) he).trans (hC j u hu),h1,hR _ (y1l hlt) _ hR1⟩
theorem SlY.nil{α:Type}{Y:Nat→Prop}{T:TypeId}{R:α→List Value→Prop}{w:World}{sz:Nat}:SlY Y T R w sz [] (.slice none 0 0):=⟨none,0,rfl,y1j _,fun k hk=>absurd hk (by simp)⟩
theorem SlY.oneCell{α:Type}{Y:Nat→Prop}{T:TypeId}{R:α→List Value→Prop}{w:World}{sz:Nat}{l:List α}{v:Value}(h:SlY Y T R w sz l v):v.oneCell'=true:=by
 obtain⟨a,cap,rfl,_,_⟩:=h;rfl
theorem SlY.form{α:Type}{Y:Nat→Prop}{T:TypeId}{R:α→List Value→Prop}{w:World}{sz:Nat}{l:List α}{v:Value}(h:SlY Y T R w sz l v):∃a cap,v=.slice a l.length cap:=by
 obtain⟨a,cap,hv,_,_⟩:=h;exact⟨a,cap,hv⟩
def RE9(Y:Nat→Prop)(w:World):DE→List Value→Prop
 |.mk op wd v sig hi lo n l,cs=>∃a cap,cs=[.int .i64 op,.int .i64 wd,.int .u64 v,.int .i64 sig,.int .i64 hi,.int .i64 lo,.int .i64 n,.slice a l.length cap]∧l.length≤cap∧
   ∀k,(h:k<l.length)→∃b o c,a=some ⟨b,o,none⟩∧Y b∧Tag w b 60∧c.length=8∧Cells w b (o+k*8) c∧(∀v,v∈c→v.oneCell'=true)∧RE9 Y w l[k] c
termination_by x=>SizeOf.sizeOf x
decreasing_by
 have:=List.sizeOf_lt_of_mem (y1l h);simp only[DE.mk.sizeOf_spec];omega
theorem RE9_iff{Y:Nat→Prop}{w:World}{x:DE}{cs:List Value}:
 RE9 Y w x cs↔∃v,cs=[.int .i64 x.op,.int .i64 x.w,.int .u64 x.v,.int .i64 x.sig,.int .i64 x.hi,.int .i64 x.lo,.int .i64 x.n,v]∧SlY Y 60 (RE9 Y w) w 8 x.l v:=by
 obtain⟨op,wd,v,sig,hi,lo,n,l⟩:=x;rw[RE9];constructor
 ·rintro⟨a,cap,h1,h2,h3⟩;exact⟨_,h1,a,cap,rfl,h2,h3⟩
 ·rintro⟨_,h1,a,cap,rfl,h2,h3⟩;exact⟨a,cap,h1,h2,h3⟩
theorem RE9.re8{Y:Nat→Prop}{w:World}(x:DE):∀cs,RE9 Y w x cs→RE8 w x cs:=by
 induction x using DE.ind with
 |h x ih=>
  intro cs h;obtain⟨v,rfl,hr⟩:=RE9_iff.1 h;exact RE8_iff.2 ⟨v,rfl,hr.slT ih⟩
theorem RE9.turn{X Y Y':Nat→Prop}{w w':World}(hg:Chg X w w')(hX:∀b,Tag w b 60→Y b→¬X b∧Y' b)(x:DE):∀cs,RE9 Y w x cs→RE9 Y' w' x cs:=by
 induction x using DE.ind with
 |h x ih=>
  intro cs h;obtain⟨v,rfl,hr⟩:=RE9_iff.1 h;exact RE9_iff.2 ⟨v,rfl,hr.turn hg hX ih⟩
theorem RE9.ext{Y:Nat→Prop}{w w':World}(hx:Ext w w'){x:DE}{cs:List Value}(h:RE9 Y w x cs):RE9 Y w' x cs:=
 RE9.turn (hx.chg (X:=fun _=>False)) (fun b _ hy=>⟨id,hy⟩) x cs h
theorem RE9.imp{Y Y':Nat→Prop}{w:World}(hY:∀b,b<w.heap.size→Y b→Y' b){x:DE}{cs:List Value}(h:RE9 Y w x cs):RE9 Y' w x cs:=
 RE9.turn (y1u (fun _=>False) w) (fun b hb hy=>⟨id,hY b hb.lt hy⟩) x cs h
theorem RE9.leaf{Y:Nat→Prop}{w:World}(op wd v sig hi lo n:Int):RE9 Y w (.mk op wd v sig hi lo n []) [.int .i64 op,.int .i64 wd,.int .u64 v,.int .i64 sig,.int .i64 hi,.int .i64 lo,.int .i64 n,.slice none 0 0]:=
 RE9_iff.2 ⟨_,rfl,SlY.nil⟩
theorem RE9.one{Y:Nat→Prop}{w:World}{x:DE}{cs:List Value}(h:RE9 Y w x cs):∀u,u∈cs→u.oneCell'=true:=(RE9.re8 x cs h).one
theorem RE9.len{Y:Nat→Prop}{w:World}{x:DE}{cs:List Value}(h:RE9 Y w x cs):cs.length=8:=(RE9.re8 x cs h).len
structure OwnE(N:Nat)(l:List DE)(v:Value)(w:World):Prop where
 ex:∃xs,w.ownsRow N 60 8 v l.length xs∧Fl (RE9 (fun b=>N≤b∧v.ownBlock≠some b) w) 8 l xs
theorem OwnE.none_{N:Nat}{w:World}:OwnE N [] (.slice none 0 0) w:=⟨[],World.ownsRow_nil _ _ _ _,Fl.nil⟩
theorem OwnE.ownL{N:Nat}{l:List DE}{v:Value}{w:World}(h:OwnE N l v w):OwnL (RE9 (fun b=>N≤b∧v.ownBlock≠some b) w) N 60 8 l v w:=⟨h.ex⟩
theorem OwnE.later{N:Nat}{l:List DE}{v:Value}{w w':World}(h:OwnE N l v w)(hx:Ext w w'):OwnE N l v w':=by
 obtain⟨xs,h1,h2⟩:=(h.ownL.later hx).ex;exact⟨xs,h1,h2.imp fun x cs hr=>hr.ext hx⟩
theorem OwnE.form{N:Nat}{l:List DE}{v:Value}{w:World}(h:OwnE N l v w):∃a cap,v=.slice a l.length cap:=h.ownL.form
theorem OwnE.lt{N:Nat}{l:List DE}{v:Value}{w:World}(h:OwnE N l v w):∀g,v.ownBlock=some g→N≤g∧g<w.heap.size:=h.ownL.lt
theorem OwnE.slY{N:Nat}{l:List DE}{v:Value}{w:World}(h:OwnE N l v w):SlY (fun b=>N≤b) 60 (RE9 (fun b=>N≤b) w) w 8 l v:=by
 have hl:=h.lt;obtain⟨a,cap,hv,hc,hr⟩:=h.ownL.slT (by decide);refine⟨a,cap,hv,hc,fun k hlt=>?_⟩;obtain⟨b,o,cs,ha,ht,hcl,hC,h1,hR1⟩:=hr k hlt;refine⟨b,o,cs,ha,(hl b ?_).1,ht,hcl,hC,h1,hR1.imp fun b _ hb=>hb.1⟩;rw[hv,ha];rfl
theorem OwnE.chg{N:Nat}{X:Nat→Prop}{l:List DE}{v:Value}{w w':World}(h:OwnE N l v w)(hg:Chg X w w')(hX:∀b,X b→b<N):OwnE N l v w':=by
 obtain⟨xs,h1,h2⟩:=h.ex;refine⟨xs,?_,h2.imp fun x cs=>RE9.turn hg (fun b _ hb=>⟨fun hx=>absurd (hX b hx) (by omega),hb⟩) x cs⟩;refine⟨h1.1,?_⟩;rcases h1.2 with hc|⟨g,cap,cur,e1,e2,e3,e4⟩
 ·exact .inl hc
 ·have hgl:g<w.heap.size:=(y1n.1 e3).1;exact .inr ⟨g,cap,cur,e1,e2,(hg.block g hgl (fun hx=>absurd (hX g hx) (by omega))).trans e3,e4⟩
theorem z5r{P:Program}{w:World}{ops:Array Oper}{rest:List Oper}{o:Oper}{a:Act}{Q:Exit→Act→World→Prop}(hgd:o.guard=none)(s x:Operand)(t:TypeId)
 (ho:o.op=.call {callee:=.builtin .append,args:=#[s,x],argTypes:=#[t,t]})
 (N:Nat) (z:Value) (bytes:Nat) (hi:(P.info? 60).map (fun i=>(i.zero,i.size,i.bytes))=some (some z,8,bytes)) (ht:P.underlying t=some (.slice 60))
 (hzs:z.cells.size=8) (hb:bytes≤1000)
 (l:List DE) (y:DE) (v:Value) (hs:a.eval s=v) (hown:OwnE N l v w)
 (B:Nat) (c:Nat) (ys:List Value) (hx:a.eval x=.slice (some ⟨B,0,none⟩) 1 c) (hr:Blk w B 60 ys) (hy:RE9 (fun b=>N≤b∧v.ownBlock≠some b) w y ys)
 (hn:l.length≤1000000000) (hbase:N≤w.heap.size)
 (h:∀v' w',OwnE N (l++[y]) v' w'→w.grownBy w' v.ownBlock→(∀g,v.ownBlock=some g→N≤g)→wpList P ops Q rest (a.put o.dst v') w'):wpList P ops Q (o::rest) a w:=by
 obtain⟨xs,h1,h2⟩:=hown.ex;obtain⟨ti,hti,htz,hts,htb⟩:=info_parts hi;have hfl:Flat w 8 (some ⟨B,0,none⟩) 1 ys:=⟨by rw[hy.len],fun u hu=>hy.one u hu,fun _=>⟨B,0,rfl,fun j u hu=>by
  have:=hr.cells j u hu;simpa using this⟩⟩
 have hlt:=hown.lt;refine z1b hgd s x t ho N _ ti z 8 bytes ht hti htz hts htb hzs (by decide) hb v l.length xs hs h1 (some ⟨B,0,none⟩) 1 c ys hx hfl hn (by decide) hbase ?_;intro v' w' hown' hg hf;have hc:Chg (fun b=>v.ownBlock=some b) w w':=⟨hg.os,hg.tape,hg.output,hg.size,fun k hk hx=>hg.block k hk fun e=>hx e.symm⟩;have hT:∀x cs,RE9 (fun b=>N≤b∧v.ownBlock≠some b) w x cs→RE9 (fun b=>N≤b∧v'.ownBlock≠some b) w' x cs:=fun x cs=>
  RE9.turn hc (fun b hb hy=>⟨hy.2,hy.1,fun e=>by
   rcases hf b e with h|h
   ·exact hy.2 h
   ·have:=hb.lt;omega⟩) x cs
 exact h v' w' ⟨xs++ys,by rw[List.length_append];exact hown',(h2.imp hT).append (Fl.one_ hy.len hy.one (hT _ _ hy))⟩ hg fun g hg=>(hlt g hg).1
end Go.Proofs.YtlfmlodanoolhaaGreatDoor
namespace Go.Proofs.YtlfmlodanoolhaaGreatDoor
open Go Go.RowKit Go.Proofs.Tryz
attribute [local go_sem] z0f
def z9g(acc:List DE)(n:Int):List (Rs (DE×Int))→Rs (List DE×Int)
 |[]=>.ok (acc,n)
 |r::rs=>do
  let y←r
  z9g (acc++[y.1]) (min (n+y.2) 65537) rs
theorem j8p(rs:List (Rs (DE×Int))):∀acc n,z9g acc n rs=(do let z←z4g rs n;return(acc++z.1,z.2)):=by
 induction rs with
 |nil=>intro acc n;simp[z9g,z4g,bind,Except.bind,pure,Except.pure]
 |cons r rs ih=>
  intro acc n;cases r with
  |error e=>rfl
  |ok y=>
   simp only[z9g,z4g,bind,Except.bind,pure,Except.pure];rw[ih];cases z4g rs (min (n+y.2) 65537) with
   |error e=>rfl
   |ok z=>simp[bind,Except.bind,pure,Except.pure]
theorem k7o:(Tryz.prog.info? 60).map (fun i=>(i.zero,i.size,i.bytes))=some (some (.agg #[.int .i64 0,.int .i64 0,.int .u64 0,.int .i64 0,.int .i64 0,.int .i64 0,.int .i64 0,.slice none 0 0]),8,80):=by kernel_rfl
def z5n(w:World)(r:DE×Int)(v:Value)(w':World):Prop:=∃c,v=.agg (c++[.int .i64 r.2]).toArray∧RE9 (fun b=>w.heap.size≤b) w' r.1 c∧Ext w w'∧0≤r.2∧r.2≤65537
theorem q3w(W0:World)(B:Nat)(vm vs:Value)(E:X→Rs (DE×Int))(op wd v sig hi lo n:Int)(l:List X)(vl:Value)(w:World)(hS:Sl (RX W0 B) W0 B 6 l vl)(hB:B≤W0.heap.size)(hx0:Ext W0 w)(hln:l.length≤1000000000)
 (hf:∀x,x∈l→∀(w':World) (cs:List Value),Ext w w'→RX W0 B x cs→z9b Tryz.prog 150 #[vm,vs,.agg cs.toArray] w' (E x) (z5n w') (Ext w')):
 z9b Tryz.prog 189 #[vm,vs,.agg #[.int .i64 op,.int .i64 wd,.int .u64 v,.int .i64 sig,.int .i64 hi,.int .i64 lo,.int .i64 n,.slice none 0 0],vl] w (do let z←z4g (l.map E) 1;return(DE.mk op wd v sig hi lo n z.1,z.2)) (z5n w) (Ext w):=by
 have HF:=Hd hf;obtain⟨a,cap,rfl,hcap,hrow⟩:=hS;have HW:=Hd hrow;obtain⟨W1,hW1,hx1,hb1⟩:=q7r w (.int .i64 op) (.int .i64 wd) (.int .u64 v) (.int .i64 sig) (.int .i64 hi) (.int .i64 lo) (.int .i64 n) (.slice none 0 0) 60;obtain⟨W2,hW2,hx2,hb2⟩:=q0y W1 (.int .i64 0) (.int .i64 0) (.int .u64 0) (.int .i64 0) (.int .i64 0) (.int .i64 0) (.int .i64 0) (.slice none 0 0) (.int .i64 0) 203;have hV1:=hW1.symm;have hV2:=hW2.symm;have X12:=Hd (hx1.trans hx2);have HBE:=Hd (hb1.ext hx2);have HBM:=Hd hb2;have hlt1:w.heap.size<W1.heap.size:=hb1.lt;have hlt2:W1.heap.size<W2.heap.size:=hb2.lt;have HR0:=Hd (show(do let z←z4g (l.map E) 1;return(DE.mk op wd v sig hi lo n z.1,z.2):Rs (DE×Int))=(do let z←z9g [] 1 (l.map E);return(DE.mk op wd v sig hi lo n z.1,z.2)) by
  rw[j8p];cases z4g (l.map E) 1 with
  |error e=>rfl
  |ok z=>simp[bind,Except.bind,pure,Except.pure])
 rw[HR0.o];obtain⟨R,hR⟩:∃R,R=z9g [] 1 (l.map E):=⟨_,rfl⟩;rw[←hR];have HZ0:=Hd (y1x (OwnE.none_:OwnE W2.heap.size [] (.slice none 0 0) W2) (show R=z9g [] 1 ((l.map E).drop 0) by rw[List.drop_zero];exact hR));clear hR HR0 hW1 hW2 hx1 hx2 hb1 hb2 hrow hf;go_enter func189,ntmps189;go_wp2_with fail
 clear hV1 hV2
 go_loopw [9,15] (fun nn i wr=>∃(k:Nat) (acc:List DE) (z:Int) (v7:Value),k≤l.length∧i=.int .i64 k∧nn=.int .i64 z∧1≤z∧z≤65537∧Ext w wr∧W2.heap.size≤wr.heap.size∧acc.length=k∧
  Blk wr w.heap.size 60 [.int .i64 op,.int .i64 wd,.int .u64 v,.int .i64 sig,.int .i64 hi,.int .i64 lo,.int .i64 n,v7]∧
  Blk wr W1.heap.size 203 [.int .i64 0,.int .i64 0,.int .u64 0,.int .i64 0,.int .i64 0,.int .i64 0,.int .i64 0,.slice none 0 0,.int .i64 0]∧OwnE W2.heap.size acc v7 wr∧R=z9g acc z ((l.map E).drop k)) (fun _ i _=>l.length - (intOf i).toNat)
 case atStart=>exact⟨0,[],1,_,y1p _,rfl,rfl,by decide,by decide,X12.o,y1j _,rfl,HBE.o,HBM.o,HZ0.o.1,HZ0.o.2⟩
 case round=>
  obtain⟨k,acc,z,v7,hk,rfl,rfl,hz1,hz2,hx,hsz,rfl,hbe,hbm,hown,hR⟩:=hrel;clear HZ0 HBE HBM;have HX:=Hd hx;have HOW:=Hd hown;have HE:=Hd hbe;have HM:=Hd hbm;obtain⟨sa,sc,rfl⟩:=hown.form;by_cases hlt:acc.length<l.length
  ·rw[List.drop_eq_getElem_cons (by rw[List.length_map];exact hlt),List.getElem_map] at hR;have HF1:=Hd (fun(w':World) (cs:List Value) (h1:Ext w w') (h2:RX W0 B l[acc.length] cs)=>HF.o l[acc.length] (y1l hlt) w' cs h1 h2);obtain⟨b,o,v0,v1,v2,v3,v4,v5,rfl,hbB,hRx,hC,o0,o1,o2,o3,o4,o5⟩:=HW.o.open6 hlt;obtain⟨d0,d1,d2,d3,d4,d5⟩:=(hC.ext (hx0.trans hx)).get6;generalize l[acc.length]=x at*;have HRx:=Hd hRx;have HRR:=Hd hR;obtain⟨W3,e3,hV3,hx3,hs3,p0,p1,p2,p3,p4,p5⟩:=z6b wr v0 v1 v2 v3 v4 v5 40;have HX3:=Hd (hx3.trans e3.ext);clear hC hRx hR hx hown hbe hbm;go_wp2_with fail
   go_at_call 150;refine(HF1.o e3.w _ (HX.o.trans HX3.o) HRx.o).mono ?_;rintro e w4 (⟨y,u,hr,rfl,c,rfl,hre,hx4,hn0,hn1⟩|⟨cc,hr,rfl,hx4⟩);rotate_left
   ·exact⟨rfl,.no (by rw[HRR.o,z9g,hr];rfl) ((HX.o.trans HX3.o).trans hx4)⟩
   obtain⟨vy,rfl,hsy⟩:=RE9_iff.1 hre;obtain⟨ya,yc,rfl⟩:=hsy.form;obtain⟨W5,e5,hV5,hx5,hs5,q0,q1,q2,q3,q4,q5,q6,q7,q8⟩:=k1m w4 (.int .i64 y.1.op) (.int .i64 y.1.w) (.int .u64 y.1.v) (.int .i64 y.1.sig) (.int .i64 y.1.hi) (.int .i64 y.1.lo) (.int .i64 y.1.n) (.slice ya y.1.l.length yc) (.int .i64 y.2) 203;have HX5:=Hd ((HX3.o.trans hx4).trans (hx5.trans e5.ext));obtain⟨W6,hW6,hx6,hb6⟩:=q7r e5.w (.int .i64 y.1.op) (.int .i64 y.1.w) (.int .u64 y.1.v) (.int .i64 y.1.sig) (.int .i64 y.1.hi) (.int .i64 y.1.lo) (.int .i64 y.1.n) (.slice ya y.1.l.length yc) 60;have hV6:=hW6.symm;have HX6:=Hd (HX5.o.trans hx6);have HB6:=Hd hb6
   have HY:=Hd (show RE9 (fun b=>W2.heap.size≤b∧(Value.slice sa acc.length sc).ownBlock≠some b) W6 y.1 [.int .i64 y.1.op,.int .i64 y.1.w,.int .u64 y.1.v,.int .i64 y.1.sig,.int .i64 y.1.hi,.int .i64 y.1.lo,.int .i64 y.1.n,.slice ya y.1.l.length yc] from
    (hre.imp (fun b _ hb=>⟨y1k (y1k hsz HX3.o.size) hb,fun e=>by
      have h1:=(HOW.o.lt b e).2;have h2:=HX3.o.size;omega⟩)).ext (hx5.trans (e5.ext.trans hx6)))
   have HO6:=Hd (HOW.o.later HX6.o);have HE6:=Hd (HE.o.ext HX6.o);have HM6:=Hd (HM.o.ext HX6.o);have r7:=(HE.o.ext HX5.o).cell 7;simp only[List.getElem?_cons_succ,List.getElem?_cons_zero] at r7;have HX56:=Hd hx6;have HQ4:=Hd (y1k hsz (y1k HX3.o.size hx4.size));have HQ5:=Hd (y1k HX3.o.size hx4.size);have HQ8:=Hd ((Ext.chg (X:=fun _=>False) hx6).cell (q8 e5) id);have HN:=Hd (y1x hn0 hn1);have hbw:W2.heap.size≤W6.heap.size:=y1k hsz HX6.o.size;clear hW6 hx6 hb6 hre hsy hx4 hx5 hx3 hV3 d0 d1 d2 d3 d4 d5 p0 p1 p2 p3 p4 p5;obtain⟨gq,hgq⟩:∃gq,gq=w4.heap.size:=⟨_,rfl⟩
   go_wp2_with (first
    |(at_builtin;go_loud (
      refine z5r rfl _ _ 58 rfl W2.heap.size _ 80 k7o underlying58 rfl (by decide) acc y.1 (.slice sa acc.length sc) rfl HO6.o e5.w.heap.size 1 _ rfl HB6.o HY.o (by omega) hbw ?_;intro v2 w2 hown2 hg2 hge2;obtain⟨a2,k2,hv2⟩:=hown2.form;rw[show(acc++[y.1]).length=acc.length+1 from by simp] at hv2;subst hv2;have hgn:∀g,g<W2.heap.size→some g≠(Value.slice sa acc.length sc).ownBlock:=fun g hg e=>absurd (hge2 g e.symm) (by omega)
      have hbe2:Blk w2 w.heap.size 60 [.int .i64 op,.int .i64 wd,.int .u64 v,.int .i64 sig,.int .i64 hi,.int .i64 lo,.int .i64 n,.slice sa acc.length sc]:=(hg2.block _ HE6.o.lt (hgn _ (by omega))).trans HE6.o;have hbm2:=(hg2.block _ HM6.o.lt (hgn _ hlt2)).trans HM6.o;obtain⟨W7,hW7⟩:∃W7,W7=w2.setCell ⟨w.heap.size,7,none⟩ (.slice a2 (acc.length+1) k2):=⟨_,rfl⟩;have hV7:=hW7.symm;have t7:=hbe2.cell 7;have f7:=hbe2.frozen 7;simp only[List.getElem?_cons_succ,List.getElem?_cons_zero] at t7;have hc7:Chg (fun b=>b=w.heap.size) w2 W7:=by rw[hW7];exact y1y (X:=fun b=>b=w.heap.size) (y1u _ w2) (p:=⟨w.heap.size,7,none⟩) rfl _
      have HBE7:=Hd (show Blk W7 w.heap.size 60 [.int .i64 op,.int .i64 wd,.int .u64 v,.int .i64 sig,.int .i64 hi,.int .i64 lo,.int .i64 n,.slice a2 (acc.length+1) k2] by rw[hW7];simpa using hbe2.set_ 7 (.slice a2 (acc.length+1) k2));have HBM7:=Hd (hc7.blk hbm2 (by omega));have HOW7:=Hd (hown2.chg hc7 (fun b hb=>by omega));have HX7:=Hd (show Ext w W7 from by
       have h1:Chg (fun b=>w.heap.size≤b) w w2:=((HX.o.trans HX6.o).chg).trans ((Chg.grown (y1u (fun b=>W2.heap.size≤b) W6) hg2 (fun g hg _=>hge2 g hg)).mono (fun b _ hb=>by omega));exact(h1.trans (hc7.mono (fun b _ hb=>by omega))).ext (y1g w) (fun b hb=>hb))
      have hs7:W2.heap.size≤W7.heap.size:=y1k hbw (y1k hg2.size hc7.size);have hgc:∀j:Nat,W7.cell? ⟨w4.heap.size,j,none⟩=W6.cell? ⟨w4.heap.size,j,none⟩:=fun j=>by
       have hq1:w4.heap.size<W6.heap.size:=y1m (by omega:w4.heap.size<W5.heap.size) (y1k e5.ext.size HX56.o.size);have hq2:W2.heap.size≤w4.heap.size:=HQ4.o;exact y2b (a:=⟨w4.heap.size,j,none⟩) ((hc7.block _ (y1m hq1 hg2.size) (by omega)).trans (hg2.block _ hq1 (fun e=>absurd (HOW.o.lt _ e.symm).2 (by have:=HQ5.o;omega))))
      have u8:W7.cell? ⟨w4.heap.size,8,none⟩=some (.int .i64 y.2):=(hgc 8).trans HQ8.o
      clear hown2 hg2 hge2 hgn hbe2 hbm2 hW7 hc7 hgc)))
   have HN2:=HN.o;go_roundw;case rel=>
    refine⟨acc.length+1,acc++[y.1],min (z+y.2) 65537,_,by omega,by go_num,rfl,by omega,by omega,HX7.o,hs7,by simp,HBE7.o,HBM7.o,HOW7.o,?_⟩;rw[HRR.o,z9g,hr];rfl
   case measure=>simp[intOf];omega
  ·have hd:(l.map E).drop acc.length=[]:=by rw[List.drop_eq_nil_iff,List.length_map];omega
   rw[hd] at hR;have HRR:=Hd (show(do let z←R;return(DE.mk op wd v sig hi lo n z.1,z.2):Rs (DE×Int))=.ok (DE.mk op wd v sig hi lo n acc,z) by rw[hR];rfl);obtain⟨m0,m1,m2,m3,m4,m5,m6,m7⟩:=hbe.get8;obtain⟨g0,g1,g2,g3,g4,g5,g6,g7,g8⟩:=hbm.get9;obtain⟨f0,f1,f2,f3,f4,f5,f6,f7,f8⟩:=hbm.free9;obtain⟨W9,hW9⟩:∃W9,W9=((((((((wr.setCell ⟨W1.heap.size,0,none⟩ (.int .i64 op)).setCell ⟨W1.heap.size,1,none⟩ (.int .i64 wd)).setCell ⟨W1.heap.size,2,none⟩ (.int .u64 v)).setCell ⟨W1.heap.size,3,none⟩ (.int .i64 sig)).setCell ⟨W1.heap.size,4,none⟩ (.int .i64 hi)).setCell ⟨W1.heap.size,5,none⟩ (.int .i64 lo)).setCell ⟨W1.heap.size,6,none⟩ (.int .i64 n)).setCell ⟨W1.heap.size,7,none⟩ (.slice sa acc.length sc)).setCell ⟨W1.heap.size,8,none⟩ (.int .i64 z):=⟨_,rfl⟩;have hV9:=hW9.symm;have hb9:Blk W9 W1.heap.size 203 [.int .i64 op,.int .i64 wd,.int .u64 v,.int .i64 sig,.int .i64 hi,.int .i64 lo,.int .i64 n,.slice sa acc.length sc,.int .i64 z]:=by rw[hW9];exact hbm.store9 _ _ _ _ _ _ _ _ _
   have hgw:w.heap.size≤W1.heap.size:=Nat.le_of_lt hlt1;have HX9:=Hd (show Ext w W9 by rw[hW9];exact((((((((hx.setCell hgw _).setCell hgw _).setCell hgw _).setCell hgw _).setCell hgw _).setCell hgw _).setCell hgw _).setCell hgw _).setCell hgw _);have HC9:=Hd (show Chg (fun b=>b=W1.heap.size) wr W9 by
    rw[hW9];exact((((((((y1y (X:=fun b=>b=W1.heap.size) (y1u _ wr) (p:=⟨W1.heap.size,0,none⟩) rfl _).setCell (p:=⟨W1.heap.size,1,none⟩) rfl _).setCell (p:=⟨W1.heap.size,2,none⟩) rfl _).setCell (p:=⟨W1.heap.size,3,none⟩) rfl _).setCell (p:=⟨W1.heap.size,4,none⟩) rfl _).setCell (p:=⟨W1.heap.size,5,none⟩) rfl _).setCell (p:=⟨W1.heap.size,6,none⟩) rfl _).setCell (p:=⟨W1.heap.size,7,none⟩) rfl _).setCell (p:=⟨W1.heap.size,8,none⟩) rfl _)
   have HO9:=Hd (HOW.o.chg HC9.o (fun b hb=>by omega));obtain⟨j0,j1,j2,j3,j4,j5,j6,j7,j8⟩:=hb9.get9;clear hW9 hb9 hbe hbm hown hd hR;go_wp2_with fail
   refine bodyPost_ret (v:=.agg #[.int .i64 op,.int .i64 wd,.int .u64 v,.int .i64 sig,.int .i64 hi,.int .i64 lo,.int .i64 n,.slice sa acc.length sc,.int .i64 z]) ?_ rfl (.ok HRR.o ⟨[.int .i64 op,.int .i64 wd,.int .u64 v,.int .i64 sig,.int .i64 hi,.int .i64 lo,.int .i64 n,.slice sa acc.length sc],rfl,?_,HX9.o,by omega,hz2⟩)
   ·simp[results,results189,go_sem,j0,j1,j2,j3,j4,j5,j6,j7,j8]
   ·have h9:=HO9.o.slY;exact RE9.imp (fun b _ hb=>by omega) (RE9_iff.2 ⟨_,rfl,h9⟩)
theorem q8u(g:Nat)(n:Int)(u:FrameMode)(w:World)(h:w.cell? ⟨g,8,none⟩=some (.int .i64 n))(hn:n≤65536):
 CallsD Tryz.prog 187 #[.pointer (some ⟨g,0,none⟩)] u w fun e u' w'=>u'=u∧e=.returned z1w∧w'=w:=by
 have K:=Hd (z1q 2 w)
 go_enter_d func187,ntmps187
 go_wp2_with fail
 go_at_call 35;refine K.o.mono ?_;rintro _ w ⟨rfl,rfl⟩;go_wp2_with fail
 go_end0
 exact⟨rfl,rfl⟩
theorem k3s(g:Nat)(n:Int)(u:FrameMode)(w:World)(h:w.cell? ⟨g,8,none⟩=some (.int .i64 n))(hn:¬n≤65536):
 CallsD Tryz.prog 187 #[.pointer (some ⟨g,0,none⟩)] u w fun e u' w'=>u'=u∧e=.panicked (z2c 2)∧w'=w:=by
 have K:=Hd (z2h 2 (by decide) w)
 go_enter_d func187,ntmps187
 go_wp2_with fail
 go_at_call 35;refine K.o.mono ?_;rintro _ w ⟨rfl,rfl⟩;exact⟨rfl,rfl,rfl⟩
theorem z5x{R:Ending→World→Prop}{tmps:Array Value}{g:Nat}{v0 v1 v2 v3 v4 v5 v6 v7:Value}{n:Int}{w:World}(h6:tmps[6]? =some (.pointer (some ⟨g,0,none⟩)))
 (hb:Blk w g 203 [v0,v1,v2,v3,v4,v5,v6,v7,.int .i64 n]) (hyes:n≤65536→R (.returned (.agg #[v0,v1,v2,v3,v4,v5,v6,v7,.int .i64 n])) w) (hno:¬n≤65536→R (.panicked (z2c 2)) w):
 Leaves Tryz.prog Tryz.f150 tmps R [{target:=.fn (.func 187) #[.pointer (some ⟨g,0,none⟩)],args:=#[]}] .returning w:=by
 refine leaves_cons (f:=187) (args:=#[.pointer (some ⟨g,0,none⟩)]) (by simp) (by simp[go_sem]) ?_;have h8:w.cell? ⟨g,8,none⟩=some (.int .i64 n):=by
  have:=hb.cell 8;simpa using this
 obtain⟨j0,j1,j2,j3,j4,j5,j6,j7,j8⟩:=hb.get9;by_cases hn:n≤65536
 ·refine(q8u g n .returning w h8 hn).mono ?_;rintro e u' w' ⟨rfl,rfl,rfl⟩;have hy:=hyes hn;simp[Leaves,settle,results,results150,go_sem,h6,j0,j1,j2,j3,j4,j5,j6,j7,j8,hy]
 ·refine(k3s g n .returning w h8 hn).mono ?_;rintro e u' w' ⟨rfl,rfl,rfl⟩;have hy:=hno hn;simp[Leaves,settle,raised,z2c,results,results150,go_sem] at hy⊢;exact hy
theorem z3c{R:Ending→World→Prop}{tmps:Array Value}{g:Nat}{n c:Int}{w:World}
 (h8:w.cell? ⟨g,8,none⟩=some (.int .i64 n)) (hn:n≤65536) (hy:R (.panicked (z2c c)) w):
 Leaves Tryz.prog Tryz.f150 tmps R [{target:=.fn (.func 187) #[.pointer (some ⟨g,0,none⟩)],args:=#[]}] (.panicking (z2c c)) w:=by
 refine leaves_cons (f:=187) (args:=#[.pointer (some ⟨g,0,none⟩)]) (by simp) (by simp[go_sem]) ?_;refine(q8u g n _ w h8 hn).mono ?_;rintro e u' w' ⟨rfl,rfl,rfl⟩;simp[Leaves,settle,z2c,go_sem] at hy⊢;exact hy
theorem k0t(W0:World)(B:Nat)(vm vs:Value)(sg:List Sg)(s:Sc)(x:X)(cs:List Value)(w:World)(hX:RX W0 B x cs)(hop:x.op=1):
 z9b Tryz.prog 150 #[vm,vs,.agg cs.toArray] w (z1f sg s x) (z5n w) (Ext w):=by
 obtain⟨x5,rfl,h5⟩:=RX_iff.1 hX;have o5:=h5.oneCell;have HR:=Hd (show z1f sg s x=.ok (q2x x.w x.v,1) by rw[z3j];unfold q0s;rw[if_pos hop]);obtain⟨W1,hW1,hx1,hb1⟩:=z6v w (.int .i64 1) (.string x.name) (.int .i64 x.n) (.int .i64 x.w) (.int .u64 x.v) x5 40;obtain⟨W2,hW2,hx2,hb2⟩:=q0y W1 (.int .i64 0) (.int .i64 0) (.int .u64 0) (.int .i64 0) (.int .i64 0) (.int .i64 0) (.int .i64 0) (.slice none 0 0) (.int .i64 0) 203;have hV1:=hW1.symm;have hV2:=hW2.symm;have hgw:w.heap.size≤W1.heap.size:=hx1.size;obtain⟨c0,c1,c2,c3,c4,c5⟩:=(hb1.ext hx2).get6;obtain⟨g0,g1,g2,g3,g4,g5,g6,g7,g8⟩:=hb2.get9;obtain⟨f0,f1,f2,f3,f4,f5,f6,f7,f8⟩:=hb2.free9;obtain⟨W9,hW9⟩:∃W9,W9=((((((((W2.setCell ⟨W1.heap.size,0,none⟩ (.int .i64 1)).setCell ⟨W1.heap.size,1,none⟩ (.int .i64 x.w)).setCell ⟨W1.heap.size,2,none⟩ (.int .u64 x.v)).setCell ⟨W1.heap.size,3,none⟩ (.int .i64 0)).setCell ⟨W1.heap.size,4,none⟩ (.int .i64 0)).setCell ⟨W1.heap.size,5,none⟩ (.int .i64 0)).setCell ⟨W1.heap.size,6,none⟩ (.int .i64 0)).setCell ⟨W1.heap.size,7,none⟩ (.slice none 0 0)).setCell ⟨W1.heap.size,8,none⟩ (.int .i64 1):=⟨_,rfl⟩;have hV9:=hW9.symm;have HB9:=Hd (show Blk W9 W1.heap.size 203 [.int .i64 1,.int .i64 x.w,.int .u64 x.v,.int .i64 0,.int .i64 0,.int .i64 0,.int .i64 0,.slice none 0 0,.int .i64 1] by rw[hW9];exact hb2.store9 _ _ _ _ _ _ _ _ _);have HX9:=Hd (show Ext w W9 by rw[hW9];exact(((((((((hx1.trans hx2).setCell hgw _).setCell hgw _).setCell hgw _).setCell hgw _).setCell hgw _).setCell hgw _).setCell hgw _).setCell hgw _).setCell hgw _);clear hW1 hW2 hW9 hx1 hx2 hb1 hb2 h5 hX;have hmf:=@hmf_ Tryz.prog;rw[hop];clear hop
 go_enter_defers func150,ntmps150
 go_wp2_with fail
 refine z5x rfl HB9.o (fun _=>?_) (fun h=>absurd (by decide) h);exact .ok HR.o ⟨[.int .i64 1,.int .i64 x.w,.int .u64 x.v,.int .i64 0,.int .i64 0,.int .i64 0,.int .i64 0,.slice none 0 0],rfl,RE9.leaf _ _ _ _ _ _ _,HX9.o,(show(0:Int)≤1 by decide),(show(1:Int)≤65537 by decide)⟩
theorem k0r(W0:World)(B N0 mb sb mp:Nat)(vf vs vp vc ve:Value)(m:Mk)(s:Sc)(x:X)(cs:List Value)(w:World)(hc:Cx W0 B w)(hX:XOk W0 B x cs)(h:MkI w N0 mb vf vs vp vc m)(hs:ScI w sb mp ve s)(hg:Good m.d.sigs s)(hop:x.op=3)(hl:0<x.l.length):
 z9b Tryz.prog 150 #[.pointer (some ⟨mb,0,none⟩),.pointer (some ⟨sb,0,none⟩),.agg cs.toArray] w (z1f m.d.sigs s x) (z5n w) (Ext w):=by
 have HC:=Hd hc;have HX:=Hd hX;have HM:=Hd h;have HS:=Hd hs;have HG:=Hd hg;obtain⟨x5,rfl,h5⟩:=RX_iff.1 hX.rx;have o5:=h5.oneCell;have HD:=Hd (show z1f m.d.sigs s x=(do let r←z5q m.d.sigs s x;return(k2l r,1)) by rw[z3j];unfold q0s;rw[if_neg (by omega),if_neg (by omega),if_pos hop]);obtain⟨W1,hW1,hx1,hb1⟩:=z6v w (.int .i64 3) (.string x.name) (.int .i64 x.n) (.int .i64 x.w) (.int .u64 x.v) x5 40;obtain⟨W2,hW2,hx2,hb2⟩:=q0y W1 (.int .i64 0) (.int .i64 0) (.int .u64 0) (.int .i64 0) (.int .i64 0) (.int .i64 0) (.int .i64 0) (.slice none 0 0) (.int .i64 0) 203;have hV1:=hW1.symm;have hgw:w.heap.size≤W1.heap.size:=hx1.size;obtain⟨c0,c1,c2,c3,c4,c5⟩:=(hb1.ext hx2).later6;obtain⟨e2,he2⟩:=y1h (W:=W2) (w:=W2) (y1g _);have hV2:=hW2.symm.trans he2;have X2:=Hd (hx1.trans hx2);have HB2:=Hd hb2;have KB:=Hd (fun(w':World) (hw:Ext w w')=>q2f W0 B N0 mb sb mp vf _ vp vc ve m s x _ w' (HC.o.later hw) HX.o (HM.o.ext hw) (HS.o.ext hw) HG.o (fun _=>hl));rw[hop] at KB;clear he2 hW1 hW2 hx1 hx2 hb1 hb2 h5 hX h hs hg hc;have hmf:=@hmf_ Tryz.prog;rw[hop];clear hop
 go_enter_defers func150,ntmps150
 go_wp2_with fail
 go_at_call 183;refine(KB.o _ (X2.o.trans (y1i _))).mono ?_;rintro e w3 (⟨r,v,hr1,rfl,rfl,hx3⟩|⟨c,hr1,rfl,hx3⟩);rotate_left
 ·have h8:=(HB2.o.ext ((y1i e2).trans hx3)).cell 8;have HN:=Hd (show RunsP (z1f m.d.sigs s x) (z5n w) (Ext w) (.panicked (z2c c)) w3 from .no (by rw[HD.o,hr1];rfl) ((X2.o.trans (y1i _)).trans hx3));exact z3c (by simpa using h8) (by decide) HN.o
 obtain⟨r1,r2,r3⟩:=r;have HR:=Hd (show z1f m.d.sigs s x=.ok (k2l (r1,r2,r3),1) by rw[HD.o,hr1];rfl);have hb3:=HB2.o.ext ((y1i e2).trans hx3);have hx0:=(X2.o.trans (y1i _)).trans hx3;obtain⟨g0,g1,g2,g3,g4,g5,g6,g7,g8⟩:=hb3.get9;obtain⟨f0,f1,f2,f3,f4,f5,f6,f7,f8⟩:=hb3.free9;obtain⟨W9,hW9⟩:∃W9,W9=((((((((w3.setCell ⟨W1.heap.size,0,none⟩ (.int .i64 2)).setCell ⟨W1.heap.size,1,none⟩ (.int .i64 0)).setCell ⟨W1.heap.size,2,none⟩ (.int .u64 0)).setCell ⟨W1.heap.size,3,none⟩ (.int .i64 r1)).setCell ⟨W1.heap.size,4,none⟩ (.int .i64 r2)).setCell ⟨W1.heap.size,5,none⟩ (.int .i64 r3)).setCell ⟨W1.heap.size,6,none⟩ (.int .i64 0)).setCell ⟨W1.heap.size,7,none⟩ (.slice none 0 0)).setCell ⟨W1.heap.size,8,none⟩ (.int .i64 1):=⟨_,rfl⟩;have hV9:=hW9.symm;have HB9:=Hd (show Blk W9 W1.heap.size 203 [.int .i64 2,.int .i64 0,.int .u64 0,.int .i64 r1,.int .i64 r2,.int .i64 r3,.int .i64 0,.slice none 0 0,.int .i64 1] by rw[hW9];exact hb3.store9 _ _ _ _ _ _ _ _ _);have HX9:=Hd (show Ext w W9 by rw[hW9];exact((((((((hx0.setCell hgw _).setCell hgw _).setCell hgw _).setCell hgw _).setCell hgw _).setCell hgw _).setCell hgw _).setCell hgw _).setCell hgw _);clear hx3 hx0 hb3 hW9 hr1 hV1 hV2;go_wp2_with fail
 refine z5x rfl HB9.o (fun _=>?_) (fun h=>absurd (by decide) h);exact .ok HR.o ⟨[.int .i64 2,.int .i64 0,.int .u64 0,.int .i64 r1,.int .i64 r2,.int .i64 r3,.int .i64 0,.slice none 0 0],rfl,RE9.leaf _ _ _ _ _ _ _,HX9.o,(show(0:Int)≤1 by decide),(show(1:Int)≤65537 by decide)⟩
end Go.Proofs.YtlfmlodanoolhaaGreatDoor
