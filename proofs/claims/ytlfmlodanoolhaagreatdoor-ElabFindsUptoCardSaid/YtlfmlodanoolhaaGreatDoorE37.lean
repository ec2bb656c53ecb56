import Derived.Test.YtlfmlodanoolhaaGreatDoorE36
set_option linter.all false
set_option maxRecDepth 200000
set_option maxHeartbeats 32000000
namespace Go.Proofs.YtlfmlodanoolhaaGreatDoor
open Go Go.RowKit Go.Proofs.Tryz
attribute [local go_sem] z0f
def z2c(e:Int):List PanicEntry:=[{v:=.iface 92 (.agg #[.int .i64 e]),recovered:=false}]
def z1w:Value:=.tuple #[]
def eqG(vals:List Value)(i:Nat)(v:Value)(_:World):Prop:=v=vals.getD i undef
theorem z7l{vals:List Value}{i:Nat}{v:Value}{w w':World}(h:eqG vals i v w)(_:Ext w w'):eqG vals i v w':=h
def RunsP{α:Type}(r:Rs α)(K:α→Value→World→Prop)(B:World→Prop)(e:Ending)(w':World):Prop:=(∃a v,r=.ok a∧e=.returned v∧K a v w')∨(∃c,r=.error c∧e=.panicked (z2c c)∧B w')
theorem RunsP.ok{α:Type}{r:Rs α}{K:α→Value→World→Prop}{B:World→Prop}{a:α}{v:Value}{w':World}(h:r=.ok a)(hk:K a v w'):RunsP r K B (.returned v) w':=.inl ⟨a,v,h,rfl,hk⟩
theorem RunsP.no{α:Type}{r:Rs α}{K:α→Value→World→Prop}{B:World→Prop}{c:Int}{w':World}(h:r=.error c)(hb:B w'):RunsP r K B (.panicked (z2c c)) w':=.inr ⟨c,h,rfl,hb⟩
def z9b{α:Type}(P:Program)(f:FuncId)(args:Array Value)(w:World)(r:Rs α)(K:α→Value→World→Prop)(B:World→Prop):Prop:=
 Calls P f args w (RunsP r K B)
theorem j1z(w:World):Calls Tryz.prog 67 #[.int .i64 0] w fun r w'=>r=.returned z1w∧w'=w:=by
 go_enter func67,ntmps67;go_wp2_with fail
 go_end0
 exact⟨rfl,rfl⟩
theorem q0n(e:Int)(he:e≠0)(w:World):Calls Tryz.prog 67 #[.int .i64 e] w fun r w'=>r=.panicked (z2c e)∧w'=w:=by
 have h1:(e !=0)=true:=bne_iff_ne.2 he;go_enter func67,ntmps67;go_wp2_with fail
 exact⟨rfl,rfl,rfl⟩
theorem z1q(e:Int)(w:World):Calls Tryz.prog 35 #[.bool true,.int .i64 e] w fun r w'=>r=.returned z1w∧w'=w:=by
 go_enter func35,ntmps35;go_wp2_with fail
 go_end0
 exact⟨rfl,rfl⟩
theorem z2h(e:Int)(he:e≠0)(w:World):Calls Tryz.prog 35 #[.bool false,.int .i64 e] w fun r w'=>r=.panicked (z2c e)∧w'=w:=by
 have K:=Hd (q0n e he w);go_enter func35,ntmps35;go_wp2_with fail
 go_at_call 67;refine K.o.mono ?_;rintro _ _ ⟨rfl,rfl⟩;exact⟨rfl,rfl,rfl⟩
theorem OwnL.chg{α:Type}{R R':α→List Value→Prop}{base:Nat}{e:TypeId}{sz:Nat}{l:List α}{v:Value}{X Y:World}(h:OwnL R base e sz l v X)(he:∀g,base≤g→Tag X g e→Y.heap[g]? =X.heap[g]?)(hR:∀x cs,R x cs→R' x cs):OwnL R' base e sz l v Y:=by
 obtain⟨xs,⟨h1,h2⟩,h3⟩:=h.ex;refine⟨xs,⟨h1,?_⟩,h3.imp hR⟩;rcases h2 with h2|⟨g,cap,cur,a1,a2,a3,a4⟩
 ·exact .inl h2
 ·exact .inr ⟨g,cap,cur,a1,a2,(he g a2 ⟨_,_,a3⟩).trans a3,a4⟩
theorem FrS.keep{mb:Nat}{w w':World}(h:FrS mb w w'){g:Nat}{T:TypeId}(ht:Tag w g T)(hm:Tag w mb 99)(hT:T≠99):w'.heap[g]? =w.heap[g]? :=
 h.block g ht.lt (fun e=>hT (ht.one (e▸hm)))
theorem MkI.count{w w':World}{N0 mb:Nat}{vf vs vp vc:Value}{m:Mk}(h:MkI w N0 mb vf vs vp vc m)(hf:FrS mb w w')(c:Int)(hb:Blk w' mb 99 [vf,vs,vp,vc,.int .i64 c,.int .i64 m.bits]):MkI w' N0 mb vf vs vp vc {m with count:=c}:=by
 have ht:=h.blk.tag;have hk:=FrS.kp hf ht;exact⟨hb,h.sig.chg (fun g _ hg=>hf.keep hg ht (by decide)) (fun _ _ h=>h),h.prc.chg (fun g _ hg=>hf.keep hg ht (by decide)) (RPc.keep hk),h.chk.chg (fun g _ hg=>hf.keep hg ht (by decide)) (RCk.keep hk),h.base⟩
theorem MkI.turn{w w':World}{N0 mb:Nat}{vf vs vp vc:Value}{m:Mk}(h:MkI w N0 mb vf vs vp vc m)(hf:FrS mb w w')(c b:Int)(hb:Blk w' mb 99 [vf,vs,vp,vc,.int .i64 c,.int .i64 b]):MkI w' N0 mb vf vs vp vc {m with count:=c,bits:=b}:=by
 have ht:=h.blk.tag;have hk:=FrS.kp hf ht;exact⟨hb,h.sig.chg (fun g _ hg=>hf.keep hg ht (by decide)) (fun _ _ h=>h),h.prc.chg (fun g _ hg=>hf.keep hg ht (by decide)) (RPc.keep hk),h.chk.chg (fun g _ hg=>hf.keep hg ht (by decide)) (RCk.keep hk),h.base⟩
theorem z1k(N0 mb:Nat)(vf vs vp vc:Value)(m:Mk)(n:Int)(w:World)(h:MkI w N0 mb vf vs vp vc m)(h0:0≤m.count)(h1:m.count≤65536)(h2:0≤n)(h3:n≤1000000000):
 z9b Tryz.prog 75 #[.pointer (some ⟨mb,0,none⟩),.int .i64 n] w (z7a n m) (fun m' v w'=>v=z1w∧MkI w' N0 mb vf vs vp vc m'∧FrS mb w w') (FrS mb w):=by
 obtain⟨w1,hw1⟩:∃w1,w1=w.setCell ⟨mb,4,none⟩ (.int .i64 (m.count+n)):=⟨_,rfl⟩;have hV:=hw1.symm;have hb1:Blk w1 mb 99 [vf,vs,vp,vc,.int .i64 (m.count+n),.int .i64 m.bits]:=by rw[hw1];simpa using h.blk.set_ 4 (.int .i64 (m.count+n))
 have hf1:FrS mb w w1:=by rw[hw1];exact y1y (X:=fun k=>k=mb) (y1u _ w) (p:=⟨mb,4,none⟩) rfl _
 have HM:=Hd (h.count hf1 (m.count+n) hb1);have HF:=Hd hf1;have y4:=h.blk.cell 4;have z4:=h.blk.frozen 4;have x4:=hb1.cell 4;simp only[List.getElem?_cons_succ,List.getElem?_cons_zero] at y4 x4;clear hw1 hb1 hf1 h;by_cases hc:m.count+n≤65536
 ·have HR:=Hd (show z7a n m=.ok {m with count:=m.count+n} by unfold z7a;rw[if_pos hc]);have K:=Hd (z1q 2 w1);go_enter func75,ntmps75;go_wp2_with (go_at_call 35;refine K.o.mono ?_;rintro _ _ ⟨rfl,rfl⟩)
  go_end0
  exact .ok HR.o ⟨rfl,HM.o,HF.o⟩
 ·have HR:=Hd (show z7a n m=.error 2 by unfold z7a;rw[if_neg hc]);have K:=Hd (z2h 2 (by decide) w1);go_enter func75,ntmps75;go_wp2_with fail
  go_at_call 35;refine K.o.mono ?_;rintro _ _ ⟨rfl,rfl⟩;exact⟨rfl,.no HR.o HF.o⟩
structure Cx(W0:World)(B:Nat)(w:World):Prop where
 tabs:Tabs W0
 hB:B≤W0.heap.size
 ext:Ext W0 w
structure XOk(W0:World)(B:Nat)(x:X)(cs:List Value):Prop where
 rx:RX W0 B x cs
 size:z0l x≤1000000000
 vx:VX x
theorem XOk.at_{W0 w:World}{B:Nat}{x:X}{cs:List Value}(h:XOk W0 B x cs)(c:Cx W0 B w):RX w w.heap.size x cs:=
 (h.rx.ext c.ext c.hB).more (y1k c.hB c.ext.size)
theorem Cx.later{W0 w w':World}{B:Nat}(c:Cx W0 B w)(hx:Ext w w'):Cx W0 B w':=⟨c.tabs,c.hB,c.ext.trans hx⟩
theorem k5r{r:Int×Int}(h:r.2=0):ofK r=.ok r.1:=by unfold ofK;rw[if_pos h]
theorem k5s{r:Int×Int}(h:r.2≠0):ofK r=.error r.2:=by unfold ofK;rw[if_neg h]
theorem q8y(sb mp:Nat)(ve:Value)(s:Sc)(nm:ByteArray)(w:World)(h:ScI w sb mp ve s):
 z9b Tryz.prog 190 #[.pointer (some ⟨sb,0,none⟩),.string nm] w (z6n s nm) (fun a v w'=>v=.int .i64 a∧w'=w) (fun w'=>w'=w):=by
 have y1:=h.blk.cell 1;simp only[List.getElem?_cons_succ,List.getElem?_cons_zero] at y1;have hl:=h.map.look nm;clear h;cases hs:s.sigs nm with
 |some a=>
  rw[hs] at hl;have HR:=Hd (show z6n s nm=.ok a by unfold z6n;rw[hs]);have K:=Hd (z1q 80 w);clear hs;simp at hl;go_enter func190,ntmps190;go_wp2_with (go_at_call 35;refine K.o.mono ?_;rintro _ w ⟨rfl,rfl⟩)
  go_ret;exact .ok HR.o ⟨rfl,rfl⟩
 |none=>
  rw[hs] at hl;have HR:=Hd (show z6n s nm=.error 80 by unfold z6n;rw[hs]);have K:=Hd (z2h 80 (by decide) w);clear hs;simp at hl;go_enter func190,ntmps190;go_wp2_with fail
  go_at_call 35;refine K.o.mono ?_;rintro _ w ⟨rfl,rfl⟩;exact⟨rfl,.no HR.o rfl⟩
theorem z4p(W0:World)(B:Nat)(x:X)(cs:List Value)(sb mp:Nat)(ve:Value)(s:Sc)(w:World)(hc:Cx W0 B w)(hX:XOk W0 B x cs)(h:ScI w sb mp ve s)(hln:s.env.length≤1000000):
 z9b Tryz.prog 71 #[.pointer (some ⟨sb,0,none⟩),.agg cs.toArray] w (z1p s x) (fun a v w'=>v=.int .i64 a∧Ext w w') (Ext w):=by
 have HC:=Hd hc;have HX:=Hd hX;have HS:=Hd h;obtain⟨x5,rfl,h5⟩:=RX_iff.1 hX.rx;have o5:=h5.oneCell;obtain⟨W1,e1',hV1,hx1,hs1,c0,c1,c2,c3,c4,c5⟩:=z6b w (.int .i64 x.op) (.string x.name) (.int .i64 x.n) (.int .i64 x.w) (.int .u64 x.v) x5 40;have X1:=Hd hx1;have KE:=Hd (fun(w':World) (hw:Ext W1 w')=>q4e w'.heap.size s.env x w' ve _ (HC.o.tabs.ext (HC.o.ext.trans (X1.o.trans hw))) (HX.o.at_ (HC.o.later (X1.o.trans hw))) ((SlT.keep HS.o.env (.inr (.inr rfl)) (X1.o.trans hw).kp (fun _ _ _ h=>h)).sl) (y1j _) HX.o.size HX.o.vx (by omega));unfold z5f at KE;obtain⟨r,hr⟩:∃r,r=z3f s.env x:=⟨_,rfl⟩;have HD:=Hd (show z1p s x=ofK r by rw[hr];rfl);rw[←hr] at KE;obtain⟨e1,e2⟩:=r;have d0:=cellAt (hx1.at_ (h.blk.cell 0));have y0:∀e:Later W1,e.w.cell? ⟨sb,0,none⟩=some ve:=d0;have ov:=h.env.oneCell;clear hr d0 hx1 hs1 h5 hX hc h;go_enter func71,ntmps71;go_wp2_with fail
 refine z6e (W:=W1) (eqG [.agg #[.int .i64 x.op,.string x.name,.int .i64 x.n,.int .i64 x.w,.int .u64 x.v,x5],.pointer (some ⟨sb,0,none⟩),.pointer (some ⟨sb,0,none⟩),.pointer (some ⟨sb,0,none⟩),ve,.tuple #[.int .i64 e1,.int .i64 e2],.tuple #[.int .i64 e1,.int .i64 e2],.int .i64 e1,.int .i64 e2,.int .i64 e1,.int .i64 e2]) (fun i=>match i with|_=>true) (by kernel_rfl) (by kernel_rfl) ?_ (y1i _) (fun i v w w' h hx=>z7l h hx) ?_ ?_
 ·simp[GuardsSay,eqG]<;>(intro h;cases h)
 ·refine⟨?_,?_,?_,?_,?_,?_,?_,?_,?_,?_,?_,trivial⟩
  ·intro A wa hxa hd h0;obtain⟨ea,rfl⟩:=y1h hxa;have r3:=z0c h0 3 (by kernel_rfl);simp at r3;clear hd h0;go_simp;first|exact⟨_,rfl,y1g _,rfl⟩|exact⟨y1g _,rfl⟩|exact rfl|exact⟨_,rfl,rfl⟩|exact y1g _
  ·intro A wa hxa hd h0;obtain⟨ea,rfl⟩:=y1h hxa;have r0:=z0c h0 0 (by kernel_rfl);simp at r0;clear hd h0;go_simp;first|exact⟨_,rfl,y1g _,rfl⟩|exact⟨y1g _,rfl⟩|exact rfl|exact⟨_,rfl,rfl⟩|exact y1g _
  ·intro A wa hxa hd h0;obtain⟨ea,rfl⟩:=y1h hxa;have q1:=z0d hd 1 9 (by kernel_rfl) rfl;simp[eqG] at q1;clear hd h0;go_simp;first|exact⟨_,rfl,y1g _,rfl⟩|exact⟨y1g _,rfl⟩|exact rfl|exact⟨_,rfl,rfl⟩|exact y1g _
  ·intro A wa hxa hd h0;obtain⟨ea,rfl⟩:=y1h hxa;have q2:=z0d hd 2 10 (by kernel_rfl) rfl;simp[eqG] at q2;clear hd h0;go_simp;first|exact⟨_,rfl,y1g _,rfl⟩|exact⟨y1g _,rfl⟩|exact rfl|exact⟨_,rfl,rfl⟩|exact y1g _
  ·intro A wa hxa hd h0;obtain⟨ea,rfl⟩:=y1h hxa;have q3:=z0d hd 3 11 (by kernel_rfl) rfl;simp[eqG] at q3;clear hd h0;go_simp;first|exact⟨_,rfl,y1g _,rfl⟩|exact⟨y1g _,rfl⟩|exact rfl|exact⟨_,rfl,rfl⟩|exact y1g _
  ·intro A wa hxa hd h0;obtain⟨ea,rfl⟩:=y1h hxa;have q0:=z0d hd 0 8 (by kernel_rfl) rfl;simp[eqG] at q0;have q4:=z0d hd 4 12 (by kernel_rfl) rfl;simp[eqG] at q4;clear hd h0;go_simp;refine(KE.o ea.w ea.ext).mono ?_;rintro e w2 ⟨rfl,hx⟩;go_simp;first|exact⟨_,rfl,hx,rfl⟩|exact⟨hx,rfl⟩|exact rfl|exact⟨_,rfl,rfl⟩
  ·intro A wa hxa hd h0;obtain⟨ea,rfl⟩:=y1h hxa;have q5:=z0d hd 5 13 (by kernel_rfl) rfl;simp[eqG] at q5;clear hd h0;go_simp;first|exact⟨_,rfl,y1g _,rfl⟩|exact⟨y1g _,rfl⟩|exact rfl|exact⟨_,rfl,rfl⟩|exact y1g _
  ·intro A wa hxa hd h0;obtain⟨ea,rfl⟩:=y1h hxa;have q6:=z0d hd 6 7 (by kernel_rfl) rfl;simp[eqG] at q6;clear hd h0;go_simp;first|exact⟨_,rfl,y1g _,rfl⟩|exact⟨y1g _,rfl⟩|exact rfl|exact⟨_,rfl,rfl⟩|exact y1g _
  ·intro A wa hxa hd h0;obtain⟨ea,rfl⟩:=y1h hxa;have q6:=z0d hd 6 7 (by kernel_rfl) rfl;simp[eqG] at q6;clear hd h0;go_simp;first|exact⟨_,rfl,y1g _,rfl⟩|exact⟨y1g _,rfl⟩|exact rfl|exact⟨_,rfl,rfl⟩|exact y1g _
  ·intro A wa hxa hd h0;obtain⟨ea,rfl⟩:=y1h hxa;have q7:=z0d hd 7 14 (by kernel_rfl) rfl;simp[eqG] at q7;clear hd h0;go_simp;first|exact⟨_,rfl,y1g _,rfl⟩|exact⟨y1g _,rfl⟩|exact rfl|exact⟨_,rfl,rfl⟩|exact y1g _
  ·intro A wa hxa hd h0;obtain⟨ea,rfl⟩:=y1h hxa;have q8:=z0d hd 8 15 (by kernel_rfl) rfl;simp[eqG] at q8;clear hd h0;go_simp;first|exact⟨_,rfl,y1g _,rfl⟩|exact⟨y1g _,rfl⟩|exact rfl|exact⟨_,rfl,rfl⟩|exact y1g _
 ·intro A wa hk;obtain⟨hxa,hsz,hdf,hdn,hrs⟩:=hk;obtain⟨ea,rfl⟩:=y1h hxa;have k5:A.tmps.getD 5 undef=.int .i64 e1:=hdn 9 5 rfl rfl;have k6:A.tmps.getD 6 undef=.int .i64 e2:=hdn 10 6 rfl rfl;clear hdn hrs;rw[z4x hsz hdf];obtain⟨fZ,hfZ,hfY⟩:=tmpsF A;simp only[hfZ,hfY] at k5 k6⊢;simp[List.range,List.range.loop,k5,k6];clear k5 k6 hsz hdf;clear hfZ hfY;have HXE:=Hd (X1.o.trans ea.ext);by_cases he:e2=0
  ·subst he;have K:=Hd (j1z ea.w);have HR:=Hd (HD.o.trans (k5r rfl));go_wp2_with (go_at_call 67;refine K.o.mono ?_;rintro _ w9 ⟨rfl,rfl⟩)
   go_ret;exact .ok HR.o ⟨rfl,HXE.o⟩
  ·have K:=Hd (q0n e2 he ea.w);have HR:=Hd (HD.o.trans (k5s he));go_wp2_with fail
   go_at_call 67;refine K.o.mono ?_;rintro _ w9 ⟨rfl,rfl⟩;exact⟨rfl,.no HR.o HXE.o⟩
theorem z8r(W0:World)(B:Nat)(x:X)(cs:List Value)(sb mp:Nat)(ve:Value)(s:Sc)(w:World)(hc:Cx W0 B w)(hX:XOk W0 B x cs)(h:ScI w sb mp ve s)(hln:s.env.length≤1000000):
 z9b Tryz.prog 74 #[.pointer (some ⟨sb,0,none⟩),.agg cs.toArray] w (z2q s x) (fun a v w'=>v=.int .i64 a∧Ext w w') (Ext w):=by
 have HC:=Hd hc;have HX:=Hd hX;have HS:=Hd h;obtain⟨x5,rfl,h5⟩:=RX_iff.1 hX.rx;have o5:=h5.oneCell;obtain⟨W1,e1',hV1,hx1,hs1,c0,c1,c2,c3,c4,c5⟩:=z6b w (.int .i64 x.op) (.string x.name) (.int .i64 x.n) (.int .i64 x.w) (.int .u64 x.v) x5 40;have X1:=Hd hx1;have KE:=Hd (fun(w':World) (hw:Ext W1 w')=>j5q w'.heap.size s.env x w' ve _ (HC.o.tabs.ext (HC.o.ext.trans (X1.o.trans hw))) (HX.o.at_ (HC.o.later (X1.o.trans hw))) ((SlT.keep HS.o.env (.inr (.inr rfl)) (X1.o.trans hw).kp (fun _ _ _ h=>h)).sl) (y1j _) HX.o.size HX.o.vx (by omega));unfold z5f at KE;obtain⟨r,hr⟩:∃r,r=q5c s.env x:=⟨_,rfl⟩;have HD:=Hd (show z2q s x=ofK r by rw[hr];rfl);rw[←hr] at KE;obtain⟨e1,e2⟩:=r;have d0:=cellAt (hx1.at_ (h.blk.cell 0));have y0:∀e:Later W1,e.w.cell? ⟨sb,0,none⟩=some ve:=d0;have ov:=h.env.oneCell;clear hr d0 hx1 hs1 h5 hX hc h;go_enter func74,ntmps74;go_wp2_with fail
 refine z6e (W:=W1) (eqG [.agg #[.int .i64 x.op,.string x.name,.int .i64 x.n,.int .i64 x.w,.int .u64 x.v,x5],.pointer (some ⟨sb,0,none⟩),.pointer (some ⟨sb,0,none⟩),.pointer (some ⟨sb,0,none⟩),ve,.tuple #[.int .i64 e1,.int .i64 e2],.tuple #[.int .i64 e1,.int .i64 e2],.int .i64 e1,.int .i64 e2,.int .i64 e1,.int .i64 e2]) (fun i=>match i with|_=>true) (by kernel_rfl) (by kernel_rfl) ?_ (y1i _) (fun i v w w' h hx=>z7l h hx) ?_ ?_
 ·simp[GuardsSay,eqG]<;>(intro h;cases h)
 ·refine⟨?_,?_,?_,?_,?_,?_,?_,?_,?_,?_,?_,trivial⟩
  ·intro A wa hxa hd h0;obtain⟨ea,rfl⟩:=y1h hxa;have r3:=z0c h0 3 (by kernel_rfl);simp at r3;clear hd h0;go_simp;first|exact⟨_,rfl,y1g _,rfl⟩|exact⟨y1g _,rfl⟩|exact rfl|exact⟨_,rfl,rfl⟩|exact y1g _
  ·intro A wa hxa hd h0;obtain⟨ea,rfl⟩:=y1h hxa;have r0:=z0c h0 0 (by kernel_rfl);simp at r0;clear hd h0;go_simp;first|exact⟨_,rfl,y1g _,rfl⟩|exact⟨y1g _,rfl⟩|exact rfl|exact⟨_,rfl,rfl⟩|exact y1g _
  ·intro A wa hxa hd h0;obtain⟨ea,rfl⟩:=y1h hxa;have q1:=z0d hd 1 9 (by kernel_rfl) rfl;simp[eqG] at q1;clear hd h0;go_simp;first|exact⟨_,rfl,y1g _,rfl⟩|exact⟨y1g _,rfl⟩|exact rfl|exact⟨_,rfl,rfl⟩|exact y1g _
  ·intro A wa hxa hd h0;obtain⟨ea,rfl⟩:=y1h hxa;have q2:=z0d hd 2 10 (by kernel_rfl) rfl;simp[eqG] at q2;clear hd h0;go_simp;first|exact⟨_,rfl,y1g _,rfl⟩|exact⟨y1g _,rfl⟩|exact rfl|exact⟨_,rfl,rfl⟩|exact y1g _
  ·intro A wa hxa hd h0;obtain⟨ea,rfl⟩:=y1h hxa;have q3:=z0d hd 3 11 (by kernel_rfl) rfl;simp[eqG] at q3;clear hd h0;go_simp;first|exact⟨_,rfl,y1g _,rfl⟩|exact⟨y1g _,rfl⟩|exact rfl|exact⟨_,rfl,rfl⟩|exact y1g _
  ·intro A wa hxa hd h0;obtain⟨ea,rfl⟩:=y1h hxa;have q0:=z0d hd 0 8 (by kernel_rfl) rfl;simp[eqG] at q0;have q4:=z0d hd 4 12 (by kernel_rfl) rfl;simp[eqG] at q4;clear hd h0;go_simp;refine(KE.o ea.w ea.ext).mono ?_;rintro e w2 ⟨rfl,hx⟩;go_simp;first|exact⟨_,rfl,hx,rfl⟩|exact⟨hx,rfl⟩|exact rfl|exact⟨_,rfl,rfl⟩
  ·intro A wa hxa hd h0;obtain⟨ea,rfl⟩:=y1h hxa;have q5:=z0d hd 5 13 (by kernel_rfl) rfl;simp[eqG] at q5;clear hd h0;go_simp;first|exact⟨_,rfl,y1g _,rfl⟩|exact⟨y1g _,rfl⟩|exact rfl|exact⟨_,rfl,rfl⟩|exact y1g _
  ·intro A wa hxa hd h0;obtain⟨ea,rfl⟩:=y1h hxa;have q6:=z0d hd 6 7 (by kernel_rfl) rfl;simp[eqG] at q6;clear hd h0;go_simp;first|exact⟨_,rfl,y1g _,rfl⟩|exact⟨y1g _,rfl⟩|exact rfl|exact⟨_,rfl,rfl⟩|exact y1g _
  ·intro A wa hxa hd h0;obtain⟨ea,rfl⟩:=y1h hxa;have q6:=z0d hd 6 7 (by kernel_rfl) rfl;simp[eqG] at q6;clear hd h0;go_simp;first|exact⟨_,rfl,y1g _,rfl⟩|exact⟨y1g _,rfl⟩|exact rfl|exact⟨_,rfl,rfl⟩|exact y1g _
  ·intro A wa hxa hd h0;obtain⟨ea,rfl⟩:=y1h hxa;have q7:=z0d hd 7 14 (by kernel_rfl) rfl;simp[eqG] at q7;clear hd h0;go_simp;first|exact⟨_,rfl,y1g _,rfl⟩|exact⟨y1g _,rfl⟩|exact rfl|exact⟨_,rfl,rfl⟩|exact y1g _
  ·intro A wa hxa hd h0;obtain⟨ea,rfl⟩:=y1h hxa;have q8:=z0d hd 8 15 (by kernel_rfl) rfl;simp[eqG] at q8;clear hd h0;go_simp;first|exact⟨_,rfl,y1g _,rfl⟩|exact⟨y1g _,rfl⟩|exact rfl|exact⟨_,rfl,rfl⟩|exact y1g _
 ·intro A wa hk;obtain⟨hxa,hsz,hdf,hdn,hrs⟩:=hk;obtain⟨ea,rfl⟩:=y1h hxa;have k5:A.tmps.getD 5 undef=.int .i64 e1:=hdn 9 5 rfl rfl;have k6:A.tmps.getD 6 undef=.int .i64 e2:=hdn 10 6 rfl rfl;clear hdn hrs;rw[z4x hsz hdf];obtain⟨fZ,hfZ,hfY⟩:=tmpsF A;simp only[hfZ,hfY] at k5 k6⊢;simp[List.range,List.range.loop,k5,k6];clear k5 k6 hsz hdf;clear hfZ hfY;have HXE:=Hd (X1.o.trans ea.ext);by_cases he:e2=0
  ·subst he;have K:=Hd (j1z ea.w);have HR:=Hd (HD.o.trans (k5r rfl));go_wp2_with (go_at_call 67;refine K.o.mono ?_;rintro _ w9 ⟨rfl,rfl⟩)
   go_ret;exact .ok HR.o ⟨rfl,HXE.o⟩
  ·have K:=Hd (q0n e2 he ea.w);have HR:=Hd (HD.o.trans (k5s he));go_wp2_with fail
   go_at_call 67;refine K.o.mono ?_;rintro _ w9 ⟨rfl,rfl⟩;exact⟨rfl,.no HR.o HXE.o⟩
theorem j4k(a:Option Addr)(n cap:Nat)(hc:n≤cap)(hn:n≤1000000000)(w:World):
 Calls Tryz.prog 104 #[.slice a n cap] w fun r w'=>r=.returned (.slice a n n)∧w'=w:=by
 have ut:Tryz.prog.underlying 80=some (.slice (Tryz.prog.elem 80)):=by kernel_rfl
 have sz1:∀w:World,(sizeOf (Tryz.prog.elem 80)).run Tryz.prog w=.ok 2 w:=fun _=>by kernel_rfl
 have hrun:∀w:World,(Instr.slice 80 (.slice a n cap) none (some (.int .i64 n)) (some (.int .i64 n))).run Tryz.prog w=.ok (.slice a n n) w:=fun w=>by
  rw[run_slice_hm (ht:=ut) (h:=(n:Int)) (m:=(n:Int)) (h0:=by omega) (h2:=by omega) (h3:=by omega),sz1];simp[Result.andThen,j1d]
 clear ut sz1;go_enter func104,ntmps104;go_wp2_with fail
 go_ret;exact⟨rfl,rfl⟩
theorem j9t:(Tryz.prog.info? 85).map (fun i=>(i.zero,i.size,i.bytes))=some (some (.agg #[.string ⟨#[]⟩,.int .i64 0]),2,24):=by kernel_rfl
theorem z4r(s:Sc)(ve vm:Value)(nm:ByteArray)(v:Int)(w:World)(henv:SlT 85 RNm w 2 s.env ve)(hom:vm.oneCell'=true)(hln:s.env.length≤1000000):
 Calls Tryz.prog 72 #[.agg #[ve,vm,.string s.path],.string nm,.int .i64 v] w fun r w'=>∃ve',r=.returned (.agg #[ve',vm,.string s.path])∧SlT 85 RNm w' 2 (s.env++[(nm,v)]) ve'∧Ext w w':=by
 have HE:=Hd henv;obtain⟨a,cap,rfl,hcap,-⟩:=henv;obtain⟨W1,hW1,hx1,hb1⟩:=k1n w (.slice a s.env.length cap) vm (.string s.path) 126;obtain⟨W2,hW2,hx2,hb2⟩:=k1n W1 (.slice none 0 0) (.map none) (.string ⟨#[]⟩) 126;obtain⟨W3,hW3,hx3,hb3⟩:=q7l W2 (.string nm) (.int .i64 v) 85;have hV1:=hW1.symm;have hV2:=hW2.symm;have hV3:=hW3.symm;have hx23:=hx2.trans hx3;have hx13:=hx1.trans hx23;obtain⟨c0,c1,c2⟩:=(hb1.ext hx2).get3;have KC:=Hd (j4k a s.env.length cap hcap (by omega) W2);obtain⟨a',cap',xs,hv,hfl,hF⟩:=(SlT.keep HE.o (.inr (.inr rfl)) hx13.kp (fun _ _ _ h=>h)).sl.fl;injection hv with hv1 hv2 hv3;subst hv1;obtain⟨ti,hti,htz,hts,htb⟩:=info_parts j9t;have HFL:=Hd hfl;have HF:=Hd hF;have HB3:=Hd hb3.cells;have HB1:=Hd (hb1.ext hx23);have HB2:=Hd (hb2.ext hx3);have hlt1:=hb1.lt;have hlt2:=hb2.lt;have hw1:w.heap.size<W1.heap.size:=hb1.lt;have HX13:=Hd hx13;have hge:w.heap.size≤W1.heap.size:=hx1.size;clear hW1 hW2 hW3 hx1 hx2 hx3 hx23 hx13 hb1 hb2 hb3 hfl hF hv2 hv3;go_enter func72,ntmps72
 go_wp2_with (first
  |(go_at_call 104;refine KC.o.mono ?_;rintro _ W2 ⟨rfl,rfl⟩)
  |(at_builtin;refine z9v rfl _ _ 80 rfl 85 ti _ 2 24 underlying80 hti htz hts htb rfl (by decide) a s.env.length xs rfl HFL.o W2.heap.size 0 1 1 [.string nm,.int .i64 v] rfl rfl HB3.o (by omega) (by omega) (by omega) ?_;intro v5 w5 hown5 hx5
    obtain⟨a5,c5,rfl⟩:=k6k hown5;have hb1:=HB1.o.ext hx5;have hb2:=HB2.o.ext hx5;obtain⟨g0,g1,g2⟩:=hb1.get3;have f0:=hb1.frozen 0;obtain⟨W6,hW6⟩:∃W6,W6=w5.setCell ⟨w.heap.size,0,none⟩ (.slice a5 (s.env.length+1) c5):=⟨_,rfl⟩;have hb16:Blk W6 w.heap.size 126 [.slice a5 (s.env.length+1) c5,vm,.string s.path]:=by rw[hW6];simpa using hb1.set_ 0 (.slice a5 (s.env.length+1) c5)
    have hb26:Blk W6 W1.heap.size 126 [.slice none 0 0,.map none,.string ⟨#[]⟩]:=by rw[hW6];exact hb2.far (show W1.heap.size≠w.heap.size by omega) _
    have hx6:Ext w W6:=by rw[hW6];exact(HX13.o.trans hx5).setCell (y1j _) _
    obtain⟨j0,j1,j2⟩:=hb16.get3;obtain⟨k0,k1,k2⟩:=hb26.free3;obtain⟨y0,y1,y2⟩:=hb26.get3;obtain⟨W7,hW7⟩:∃W7,W7=((W6.setCell ⟨W1.heap.size,0,none⟩ (.slice a5 (s.env.length+1) c5)).setCell ⟨W1.heap.size,1,none⟩ vm).setCell ⟨W1.heap.size,2,none⟩ (.string s.path):=⟨_,rfl⟩;have hb7:Blk W7 W1.heap.size 126 [.slice a5 (s.env.length+1) c5,vm,.string s.path]:=by rw[hW7];exact hb26.store3 _ _ _
    have hx7:Ext w W7:=by rw[hW7];exact((hx6.setCell hge _).setCell hge _).setCell hge _
    obtain⟨m0,m1,m2⟩:=hb7.get3;have H7:=Hd (show SlT 85 RNm W7 2 (s.env++[(nm,v)]) (.slice a5 (s.env.length+1) c5) from by
     have h1:=k8c hown5 HF.o;refine SlT.keep h1 (.inr (.inr rfl)) ?_ (fun _ _ _ h=>h);have hch:Chg (fun b=>b=w.heap.size∨b=W1.heap.size) w5 W7:=by rw[hW7,hW6];exact((((y1u _ w5).setCell (.inl rfl) _).setCell (.inr rfl) _).setCell (.inr rfl) _).setCell (.inr rfl) _
     exact hch.kp (fun b hb _=>hb.elim (fun e=>⟨_,e▸hb1.tag,by unfold j0q;decide⟩) (fun e=>⟨_,e▸hb2.tag,by unfold j0q;decide⟩)))
    have HX7:=Hd hx7;have hV6:=hW6.symm;have hV7:=hW7.symm
    clear hown5 hx5 hb1 hb2 hW6 hW7 hb16 hb26 hx6 hb7 hx7))
 refine bodyPost_ret (v:=.agg #[.slice a5 (s.env.length+1) c5,vm,.string s.path]) ?_ rfl ⟨_,rfl,H7.o,HX7.o⟩;simp[results,results72,go_sem,m0,m1,m2]
theorem q9q:Enters Tryz.prog 157:=⟨fun _ _=>by kernel_rfl⟩
theorem q9r:Enters Tryz.prog 38:=⟨fun _ _=>by kernel_rfl⟩
theorem j2g:Enters Tryz.prog 156:=⟨fun _ _=>by kernel_rfl⟩
theorem j9i(B:Nat)(x:Prt)(w:World)(cs:List Value)(hR:RP w B x cs):
 Calls Tryz.prog 157 #[.agg cs.toArray] w fun e w'=>e=.returned (.int .i64 3)∧Ext w w':=by
 obtain⟨c,rfl,hx⟩:=hR;obtain⟨x5,rfl,h5⟩:=RX_iff.1 hx;have o5:=h5.oneCell;obtain⟨W1,hW1,hx1,hb1⟩:=q7r w (.string x.name) (.bool x.o) (.int .i64 x.w.op) (.string x.w.name) (.int .i64 x.w.n) (.int .i64 x.w.w) (.int .u64 x.w.v) x5 42;have hV1:=hW1.symm;have HX:=Hd hx1;clear hW1 hb1 hx1 h5 hx;go_enter func157,ntmps157;go_wp2_with fail
 go_ret;exact⟨rfl,HX.o⟩
theorem j9j(B:Nat)(x:Prt)(w:World)(cs:List Value)(hR:RP w B x cs):
 Calls Tryz.prog 38 #[.agg cs.toArray] w fun e w'=>e=.returned (.int .i64 (if x.o=true then 2 else 1))∧Ext w w':=by
 obtain⟨c,rfl,hx⟩:=hR;obtain⟨x5,rfl,h5⟩:=RX_iff.1 hx;have o5:=h5.oneCell;obtain⟨xo,hxo⟩:∃b,b=x.o:=⟨_,rfl⟩;rw[←hxo];obtain⟨W1,hW1,hx1,hb1⟩:=q7r w (.string x.name) (.bool xo) (.int .i64 x.w.op) (.string x.w.name) (.int .i64 x.w.n) (.int .i64 x.w.w) (.int .u64 x.w.v) x5 42;have hV1:=hW1.symm;obtain⟨c0,c1,c2,c3,c4,c5,c6,c7⟩:=hb1.get8;have HX:=Hd hx1;clear hW1 hb1 hx1 h5 hx hxo;cases xo with
 |true=>
  go_enter func38,ntmps38;go_wp2_with fail
  go_ret;exact⟨rfl,HX.o⟩
 |false=>
  go_enter func38,ntmps38;go_wp2_with fail
  go_ret;exact⟨rfl,HX.o⟩
def y1f(w:World)(e:Ending)(w':World):Prop:=e=.returned z1w∧Ext w w'
theorem k0z(B:Nat)(x:Bnd)(w:World)(cs:List Value)(hR:RB w B x cs):
 Calls Tryz.prog 156 #[.agg cs.toArray] w (y1f w):=by
 obtain⟨c,rfl,hx⟩:=hR;obtain⟨x5,rfl,h5⟩:=RX_iff.1 hx;have o5:=h5.oneCell;obtain⟨W1,hW1,hx1,hb1⟩:=k5c w (.string x.name) (.int .i64 x.x.op) (.string x.x.name) (.int .i64 x.x.n) (.int .i64 x.x.w) (.int .u64 x.x.v) x5 45;have hV1:=hW1.symm;have HX:=Hd hx1;clear hW1 hb1 hx1 h5 hx;go_enter func156,ntmps156;go_wp2_with fail
 refine bodyPost_ret (v:=z1w) ?_ rfl ⟨rfl,HX.o⟩;simp[results,results156,go_sem,z1w]
end Go.Proofs.YtlfmlodanoolhaaGreatDoor
namespace Go.Proofs.YtlfmlodanoolhaaGreatDoor
open Go Go.RowKit Go.Proofs.Tryz
def zeroXc:List Value:=[.int .i64 0,.string ⟨#[]⟩,.int .i64 0,.int .i64 0,.int .u64 0,.slice none 0 0]
def EnvX(W0:World)(B:Nat)(w:World)(m:Nat)(env:ByteArray→Option X):Prop:=
 ∃L,MV w m L∧(∀p,p∈L→MapKept.IsKey .string p.1)∧∀s:ByteArray,(env s=none→z6p L (.string s)=none)∧∀x,env s=some x→∃cs,z6p L (.string s)=some (.agg cs.toArray)∧XOk W0 B x cs
section
variable {W0 w w' : World} {B m : Nat} {env : ByteArray → Option X}
theorem EnvX.ext(h:EnvX W0 B w m env)(hx:Ext w w'):EnvX W0 B w' m env:=by
 obtain⟨L,h1,h2,h3⟩:=h;exact⟨L,h1.ext hx,h2,h3⟩
theorem EnvX.lt(h:EnvX W0 B w m env):m<w.heap.size:=by
 obtain⟨L,h,-⟩:=h;exact h.lt
theorem EnvX.noTag(h:EnvX W0 B w m env){T:TypeId}(k:Tag w m T):False:=by
 obtain⟨L,h,-⟩:=h;exact h.noTag k
theorem EnvX.of_eq(h:EnvX W0 B w m env)(he:w'.heap[m]? =w.heap[m]?):EnvX W0 B w' m env:=by
 obtain⟨L,⟨es,c,h1,h2⟩,h3⟩:=h;exact⟨L,⟨es,c,he.trans h1,h2⟩,h3⟩
theorem EnvX.new(W0:World)(B:Nat)(w:World):EnvX W0 B (w.alloc (.map #[] 0)) w.heap.size (fun _=>none):=
 ⟨[],MV.new w,(fun p hp=>nomatch hp),fun s=>⟨fun _=>rfl,fun x hx=>nomatch hx⟩⟩
theorem EnvX.look(h:EnvX W0 B w m env)(s:ByteArray)(c:Bool):
 ∃cs,(Instr.lookup 205 (.map (some m)) (.string s) c).run Tryz.prog w=.ok (if c then .tuple #[.agg cs.toArray,.bool (env s).isSome] else .agg cs.toArray) w∧(env s=none→cs=zeroXc)∧∀x,env s=some x→XOk W0 B x cs:=by
 obtain⟨L,h1,h2,h3⟩:=h;have:=h1.lookup (et:=40) underlying205 underlying9 (k:=.string s) trivial h2 (z:=.agg zeroXc.toArray) (by kernel_rfl) c;cases he:env s with
 |none=>
  refine⟨zeroXc,?_,fun _=>rfl,fun x hx=>(by cases hx)⟩;rw[this,(h3 s).1 he];cases c<;>rfl
 |some x=>
  obtain⟨cs,hg,hx⟩:=(h3 s).2 x he;refine⟨cs,?_,fun hh=>(by cases hh),fun y hy=>(by cases hy;exact hx)⟩;rw[this,hg];cases c<;>rfl
theorem EnvX.put(h:EnvX W0 B w m env)(s:ByteArray){x:X}{cs:List Value}(hx:XOk W0 B x cs):
 ∃o,(Instr.mapUpdate 205 (.map (some m)) (.string s) (.agg cs.toArray)).run Tryz.prog w=.ok () (z4f w m o)∧EnvX W0 B (z4f w m o) m (z3h env s x):=by
 obtain⟨L,h1,h2,h3⟩:=h;obtain⟨o,ho,hm⟩:=h1.update underlying205 underlying9 (k:=.string s) trivial h2 (.agg cs.toArray);refine⟨o,ho,_,hm,z1l h2 trivial,fun t=>?_⟩;rw[z7i];unfold z3h;by_cases ht:s=t
 ·rw[if_pos (congrArg Value.string ht),if_pos ht];exact⟨fun e=>(by cases e),fun y hy=>(by cases hy;exact⟨cs,rfl,hx⟩)⟩
 ·rw[if_neg (fun e=>ht (Value.string.inj e)),if_neg ht];exact h3 t
end
end Go.Proofs.YtlfmlodanoolhaaGreatDoor
namespace Go.Proofs.YtlfmlodanoolhaaGreatDoor
open Go Go.RowKit Go.Proofs.Tryz
attribute [local go_sem] z0f
def BdR{α:Type}(W0:World)(B:Nat)(l:List Bnd)(Xb:Nat→Prop)(J:(ByteArray→Option α)→World→Prop)(w:World)(o:ByteArray→Option α)(v:Value)(w':World):Prop:=
 ∃mp,v=.map (some mp)∧w.heap.size≤mp∧EnvX W0 B w' mp (z7t l (fun _=>none))∧J o w'∧Chg Xb w w'
theorem j0m{α:Type}(W0:World)(B:Nat)(K:ByteArray→Prop)(fk fe:FuncId)(capsK capsE:Array Value)(henK:Enters Tryz.prog fk)(henE:Enters Tryz.prog fe)(ev:Int)(hev:ev≠0)(val:X→Rs α)(Xb:Nat→Prop)(J:(ByteArray→Option α)→World→Prop)(w:World)
 (l:List Bnd) (vl:Value) (hS:Sl (RB W0 B) W0 B 7 l vl) (hlen:l.length≤1000000000) (hx0:Ext W0 w) (hB:B≤W0.heap.size) (hX0:∀b,Xb b→W0.heap.size≤b∧b<w.heap.size)
 (hXok:∀b,b∈l→∀c,RX W0 B b.x c→XOk W0 B b.x c)
 (hJ:∀o a b,J o a→Chg (fun k=>w.heap.size≤k) a b→J o b)
 (hK:∀nm w',Chg Xb w w'→Calls Tryz.prog fk (#[.string nm]++capsK) w' fun e w''=>e=.returned (.bool (yes (K nm)))∧Ext w' w'')
 (hE:∀b,b∈l→∀o w' cs,Chg Xb w w'→J o w'→RB W0 B b cs→Calls Tryz.prog fe (#[.agg cs.toArray]++capsE) w' (RunsP (val b.x) (fun v u w''=>u=z1w∧J (z3h o b.name v) w''∧Chg Xb w' w'') (Chg Xb w')))
 (h0:J (fun _=>none) w):
 z9b Tryz.prog 151 #[vl,.func (.func fk) #[] capsK,.int .i64 ev,.func (.func fe) #[] capsE] w (z2w K ev val l (fun _=>none)) (BdR W0 B l Xb J w) (Chg Xb w):=by
 have HK:=Hd hK;have HE:=Hd hE;have HJ:=Hd hJ;have HXO:=Hd hXok;have hck:=henK.o;have hce:=henE.o;have U1:=Hd (fun w'=>z1q ev w');have U2:=Hd (fun w'=>z2h ev hev w');obtain⟨a,cap,rfl,hcap,hrow⟩:=hS;have HRW:=Hd hrow;obtain⟨R,hR⟩:∃R,R=z2w K ev val l (fun _=>none):=⟨_,rfl⟩;rw[←hR];have HZ0:=Hd (show R=z2w K ev val (l.drop 0) (fun _=>none) from hR);obtain⟨W1,hW1⟩:∃W1,W1=w.alloc (.map #[] 0):=⟨_,rfl⟩;have hV1:=hW1.symm;have HM1:=Hd (show EnvX W0 B W1 w.heap.size (fun _=>none) by rw[hW1];exact EnvX.new W0 B w);have hx1:Ext w W1:=by rw[hW1];exact y1v _ _
 have HX1:=Hd hx1;have H0:=Hd (HJ.o _ _ _ h0 hx1.chg);have HH0:=Hd hX0;have s1:w.heap.size<W1.heap.size:=by rw[hW1];simp
 clear hrow hK hE hJ hXok hR hW1 hx1 h0 hX0 henK henE;have hmm:=@run_makeMap Tryz.prog;go_enter func151,ntmps151;go_wp2_with fail
 go_loopw [17] (fun i wr=>∃(k:Nat) (o:ByteArray→Option α),k≤l.length∧i=.int .i64 k∧J o wr∧EnvX W0 B wr w.heap.size (z7t (l.take k) (fun _=>none))∧(∀nm,o nm=none↔z7t (l.take k) (fun _=>none) nm=none)∧Chg Xb w wr∧w.heap.size<wr.heap.size∧R=z2w K ev val (l.drop k) o) (fun i _=>l.length - (intOf i).toNat)
 case atStart=>exact⟨0,fun _=>none,y1p _,rfl,H0.o,HM1.o,fun nm=>⟨fun _=>rfl,fun _=>rfl⟩,HX1.o.chg,s1,HZ0.o⟩
 case round=>
  obtain⟨k,o,hk,rfl,hj,hm,hiff,hch,hsz,hR⟩:=hrel;clear HZ0 H0 HM1 HX1 hV1 s1;have HP:=Hd (y1x hj (y1x hm (y1x hiff hch)));by_cases hlt:k<l.length
  ·rw[List.drop_eq_getElem_cons hlt] at hR;have HRR:=Hd hR;have htk:z7t (l.take (k+1)) (fun _=>none)=z3h (z7t (l.take k) (fun _=>none)) l[k].name l[k].x:=by
    unfold z7t;rw[List.take_succ_eq_append_getElem hlt,List.foldl_append];rfl
   have HTK:=Hd htk;have HKX:=Hd (HXO.o l[k] (y1l hlt));have HKE:=Hd (HE.o l[k] (y1l hlt));obtain⟨b,of,cs,hsa,hbB,hcl,hC,ho1,hRB⟩:=HRW.o _ hlt;subst hsa;have HRB:=Hd hRB;obtain⟨c,rfl,hRX⟩:=hRB;have HOK:=Hd (HKX.o _ hRX);obtain⟨x5,rfl,h5⟩:=RX_iff.1 hRX;have o5:=h5.oneCell;have hx0r:Ext W0 wr:=hch.ext hx0 (fun i hi=>(HH0.o i hi).1);obtain⟨d0,d1,d2,d3,d4,d5,d6⟩:=(hC.ext hx0r).get7;obtain⟨W3,hW3,hx3,hb3⟩:=k5c wr (.string l[k].name) (.int .i64 l[k].x.op) (.string l[k].x.name) (.int .i64 l[k].x.n) (.int .i64 l[k].x.w) (.int .u64 l[k].x.v) x5 45;have hV3:=hW3.symm;obtain⟨p0,p1,p2,p3,p4,p5,p6⟩:=hb3.get7;obtain⟨cl,hlk,hl0,hl1⟩:=(hm.ext hx3).look l[k].name true;simp only[if_true] at hlk;have HB3:=Hd hb3;have X3:=Hd hx3;generalize l[k]=y at*;cases hbx:z7t (l.take k) (fun _=>none) y.name with
   |some z=>
    rw[hbx] at hlk;have HX9:=Hd (show R=.error ev by rw[HRR.o];exact j0n y _ _ (fun e=>by rw[(hiff y.name).1 e.1] at hbx;cases hbx));obtain⟨z5,rfl,h6⟩:=RX_iff.1 (hl1 z hbx).rx;have oz:=h6.oneCell;obtain⟨W4,hW4,hx4,hb4⟩:=z6v W3 (.int .i64 z.op) (.string z.name) (.int .i64 z.n) (.int .i64 z.w) (.int .u64 z.v) z5 40;have hV4:=hW4.symm;obtain⟨u0,u1,u2,u3,u4,u5,u6⟩:=(hb3.ext hx4).get7;have HC4:=Hd (hch.trans (hx3.trans hx4).chg);clear hW3 hx3 hb3 hC hRX hR h5 hW4 hx4 hb4 hl0 hl1 hbx h6 ho1 htk hj hm hiff hch;go_wp2_with fail
    go_at_call 35;refine(U2.o _).mono ?_;rintro _ w5 ⟨rfl,rfl⟩;exact⟨rfl,.no HX9.o HC4.o⟩
   |none=>
    rw[hbx] at hlk;obtain⟨g0,g1,g2,g3,g4,g5,hz,og⟩:∃(g0:Int) (g1:ByteArray) (g2 g3 g4:Int) (g5:Value),cl=[.int .i64 g0,.string g1,.int .i64 g2,.int .i64 g3,.int .u64 g4,g5]∧g5.oneCell'=true:=⟨_,_,_,_,_,_,hl0 hbx,rfl⟩;subst hz;obtain⟨W4,hW4,hx4,hb4⟩:=z6v W3 (.int .i64 g0) (.string g1) (.int .i64 g2) (.int .i64 g3) (.int .u64 g4) g5 40;have hV4:=hW4.symm;obtain⟨u0,u1,u2,u3,u4,u5,u6⟩:=(hb3.ext hx4).get7;have HC4:=Hd (hch.trans (hx3.trans hx4).chg);have HX34:=Hd (hx3.trans hx4);have HON:=Hd ((hiff y.name).2 hbx);have KK:=Hd (HK.o y.name W4 HC4.o);have HB4:=Hd (hb3.ext hx4);clear hW3 hx3 hb3 hC hRX hR h5 hW4 hx4 hb4 hl0 hl1 hbx ho1 htk hj hm hiff hch;go_wp2_with fail
    refine KK.o.mono ?_;rintro _ w5 ⟨rfl,hx5⟩;have HB5:=Hd (HB4.o.ext hx5);have HX35:=Hd (HX34.o.trans hx5);have HC5:=Hd (HC4.o.trans hx5.chg);have HM5:=Hd (HP.o.2.1.ext HX35.o);clear hx5;by_cases hkn:K y.name
    ·rw[yes_iff.2 hkn];obtain⟨q0,q1,q2,q3,q4,q5,q6⟩:=HB5.o.get7;obtain⟨ob,hup,hm6⟩:=HM5.o.put y.name HOK.o;obtain⟨W6,hW6⟩:∃W6,W6=z4f w5 w.heap.size ob:=⟨_,rfl⟩;rw[←hW6] at hup hm6;have hg6:w5.grownBy W6 (some w.heap.size):=by rw[hW6];exact z4i _ _ _
     have HB6:=Hd (show Blk W6 wr.heap.size 45 _ from(hg6.block wr.heap.size HB5.o.lt (fun e=>by injection e with e;omega)).trans HB5.o);obtain⟨z0,z1,z2,z3,z4,z5,z6⟩:=HB6.o.get7;have HC6:=Hd (HC5.o.grown hg6 (fun k e hlt=>by injection e with e;omega));have HJ6:=Hd (HJ.o _ _ _ HP.o.1 ((HX35.o.chg (X:=fun k=>w.heap.size≤k)).grown hg6 (fun k e _=>by injection e with e;show w.heap.size≤k;omega)));have HM6:=Hd hm6;have HKE6:=Hd (HKE.o o W6 _ HC6.o HJ6.o HRB.o);have HKN:=Hd hkn;have hs6:w.heap.size<W6.heap.size:=HM6.o.lt;clear hm6 hg6 hW6 hkn;go_wp2_with fail
     go_at_call 35;refine(U1.o _).mono ?_;rintro _ w6 ⟨rfl,rfl⟩;go_wp2_with fail
     refine HKE6.o.mono ?_;rintro e w7 (⟨v,u,hr,rfl,rfl,hj7,hch7⟩|⟨c,hr,rfl,hch7⟩);rotate_left
     ·exact⟨rfl,.no (by rw[HRR.o,q4t y _ o ⟨HON.o,HKN.o⟩,hr];rfl) (HC6.o.trans hch7)⟩
     have FIN:=Hd (show∃o',J o' w7∧EnvX W0 B w7 w.heap.size (z7t (l.take (k+1)) (fun _=>none))∧(∀nm,o' nm=none↔z7t (l.take (k+1)) (fun _=>none) nm=none)∧Chg Xb w w7∧w.heap.size<w7.heap.size∧R=z2w K ev val (l.drop (k+1)) o' from by
      refine⟨z3h o y.name v,hj7,?_,fun nm=>?_,HC6.o.trans hch7,y1m hs6 hch7.size,by rw[HRR.o,q4t y _ o ⟨HON.o,HKN.o⟩,hr];rfl⟩
      ·rw[HTK.o];exact HM6.o.of_eq (hch7.block _ hs6 (fun hx=>absurd (HH0.o _ hx).2 (Nat.lt_irrefl _)))
      ·rw[HTK.o];unfold z3h;by_cases he:y.name=nm
       ·rw[if_pos he,if_pos he];exact⟨fun e=>(by cases e),fun e=>(by cases e)⟩
       ·rw[if_neg he,if_neg he];exact HP.o.2.2.1 nm)
     clear hr hj7 hch7;go_wp2_with fail
     go_roundw;case rel=>
      obtain⟨o',f1,f2,f3,f4,f5,f6⟩:=FIN.o;exact⟨k+1,o',by omega,by go_num,f1,f2,f3,f4,f5,f6⟩
     case measure=>simp[intOf];omega
    ·rw[yes_no.2 hkn];have HX9:=Hd (show R=.error ev by rw[HRR.o];exact j0n y _ _ (fun e=>hkn e.2));clear hkn;go_wp2_with fail
     go_at_call 35;refine(U2.o _).mono ?_;rintro _ w6 ⟨rfl,rfl⟩;exact⟨rfl,.no HX9.o HC5.o⟩
  ·have hd:l.drop k=[]:=by rw[List.drop_eq_nil_iff];omega
   have hkl:k=l.length:=by omega
   subst hkl;rw[hd] at hR;rw[List.take_length] at hm;have HRR:=Hd (show R=.ok o from hR);have HM:=Hd hm;clear hR hd hm hiff hj hch;go_wp2_with fail
   refine bodyPost_ret (v:=.map (some w.heap.size)) ?_ rfl (.ok HRR.o ⟨w.heap.size,rfl,y1j _,HM.o,HP.o.1,HP.o.2.2.2⟩);simp[results,results151,go_sem]
theorem OwnL.tag{α:Type}{R:α→List Value→Prop}{base:Nat}{e:TypeId}{sz:Nat}{l:List α}{v:Value}{X:World}(h:OwnL R base e sz l v X){g:Nat}(hg:v.ownBlock=some g):base≤g∧Tag X g e:=by
 obtain⟨xs,h1,-⟩:=h.ex;refine⟨(h1.lt g hg).1,?_⟩;rcases h1.2 with⟨rfl,-⟩|⟨g',cap,cur,rfl,-,h2,-⟩
 ·cases hg
 ·simp[Value.ownBlock] at hg;subst hg;exact⟨_,_,h2⟩
theorem z6h{w w1 w2:World}{r:Option Nat}{mb i:Nat}{u:Value}(hx:Ext w w1)(hg:w1.grownBy w2 r){g:Nat}{T Tm:TypeId}(ht:Tag w g T)(hr:∀k,r=some k→∃T',Tag w k T'∧T'≠T)(hm:Tag w mb Tm)(hne:Tm≠T):(w2.setCell ⟨mb,i,none⟩ u).heap[g]? =w.heap[g]? :=by
 have h1:g≠mb:=fun e=>hne (hm.one (e▸ht))
 have h2:some g≠r:=fun e=>by
  obtain⟨T',h3,h4⟩:=hr g e.symm;exact h4 (h3.one ht)
 rw[Below.heap_setCell w2 ⟨mb,i,none⟩ u g h1,hg.block g (Nat.lt_of_lt_of_le ht.lt hx.size) h2,hx.heap ht.lt]
theorem j2u{w w1 w2:World}{r:Option Nat}{N0 mb sb mp i:Nat}{u:Value}(hx:Ext w w1)(hg:w1.grownBy w2 r)(hr:∀k,r=some k→N0≤k∧(Tag w k 57∨Tag w k 70∨Tag w k 62)):FrI N0 mb sb mp w (w2.setCell ⟨mb,i,none⟩ u):=by
 refine⟨hg.os.trans hx.os,hg.tape.trans hx.tape,hg.output.trans hx.output,?_,fun k hk h1 h2 h3 h4=>?_⟩
 ·have:=y1k hx.size hg.size;simpa [World.setCell] using this
 ·have h5:some k≠r:=fun e=>h4 (hr k e.symm)
  rw[Below.heap_setCell w2 ⟨mb,i,none⟩ u k h1,hg.block k (Nat.lt_of_lt_of_le hk hx.size) h5,hx.heap hk]
theorem q6p{w w1 w2:World}{r:Option Nat}{mb i:Nat}{u:Value}{Tm:TypeId}(hx:Ext w w1)(hg:w1.grownBy w2 r)(hr:∀k,r=some k→∃T',Tag w k T'∧¬j0q T')(hm:Tag w mb Tm)(hne:¬j0q Tm):Kp w (w2.setCell ⟨mb,i,none⟩ u):=by
 intro b hb;have key:∀T,j0q T→Tag w b T→(w2.setCell ⟨mb,i,none⟩ u).heap[b]? =w.heap[b]? :=fun T hT ht=>z6h hx hg ht (fun k hk=>by
  obtain⟨T',h1,h2⟩:=hr k hk;exact⟨T',h1,fun e=>h2 (e▸hT)⟩) hm (fun e=>hne (e▸hT))
 rcases hb with hb|hb|hb
 ·exact key _ (.inl rfl) hb
 ·exact key _ (.inr (.inl rfl)) hb
 ·exact key _ (.inr (.inr rfl)) hb
theorem q6o{α:Type}{R R':α→List Value→Prop}{base mb i:Nat}{e Tm:TypeId}{sz:Nat}{l:List α}{v u:Value}{w2:World}(h:OwnL R base e sz l v w2)(hm:Tag w2 mb Tm)(hne:Tm≠e)(hR:∀x cs,R x cs→R' x cs):OwnL R' base e sz l v (w2.setCell ⟨mb,i,none⟩ u):=
 h.chg (fun g _ hg=>Below.heap_setCell w2 ⟨mb,i,none⟩ u g (fun e'=>hne (hm.one (show Tag w2 mb e from(show g=mb from e')▸hg)))) hR
theorem k4a:(Tryz.prog.info? 70).map (fun i=>(i.zero,i.size,i.bytes))=some (some (.agg #[.bool false,.slice none 0 0]),2,32):=by kernel_rfl
theorem k7n:(Tryz.prog.info? 57).map (fun i=>(i.zero,i.size,i.bytes))=some (some (.agg #[.string ⟨#[]⟩,.int .i64 0,.int .i64 0,.int .u64 0]),4,40):=by kernel_rfl
theorem OwnL.ext_imp{α:Type}{R R':α→List Value→Prop}{base:Nat}{e:TypeId}{sz:Nat}{l:List α}{v:Value}{X Y:World}(h:OwnL R base e sz l v X)(hx:Ext X Y)(hR:∀x cs,R x cs→R' x cs):OwnL R' base e sz l v Y:=(h.later hx).imp hR
def MkR(N0 mb sb mp:Nat)(vf:Value)(w:World)(m':Mk)(w':World):Prop:=∃vs' vp' vc',MkI w' N0 mb vf vs' vp' vc' m'∧FrI N0 mb sb mp w w'
theorem z5e(N0 mb sb mp:Nat)(vf vs vp vc:Value)(m:Mk)(clk:Bool)(l:List DT)(lv:Value)(w:World)(h:MkI w N0 mb vf vs vp vc m)(hl:SlT6 w l lv)(hn:m.d.procs.length≤1024):
 z9b Tryz.prog 107 #[.pointer (some ⟨mb,0,none⟩),.bool clk,lv] w (z1g clk l m) (fun m' v w'=>v=z1w∧MkR N0 mb sb mp vf w m' w') (FrI N0 mb sb mp w):=by
 have HM:=Hd h;have HL:=Hd hl;obtain⟨pa,pc,rfl⟩:=h.prc.form;obtain⟨la,lc,rfl⟩:=SlT.form hl;have c2:=h.blk.cell 2;simp only[List.getElem?_cons_succ,List.getElem?_cons_zero] at c2;clear hl;by_cases hlt:m.d.procs.length<1024
 rotate_left
 ·have HR:=Hd (show z1g clk l m=.error 2 by unfold z1g;rw[if_neg hlt]);have K:=Hd (z2h 2 (by decide) w);have hlt':¬((m.d.procs.length:Int)<1024):=by omega
  clear h hlt;go_enter func107,ntmps107;go_wp2_with fail
  go_at_call 35;refine K.o.mono ?_;rintro _ w ⟨rfl,rfl⟩;exact⟨rfl,.no HR.o (FrI.refl _ _ _ _ _)⟩
 ·have HR:=Hd (show z1g clk l m=.ok {m with d:={m.d with procs:=m.d.procs++[⟨clk,l⟩]}} by unfold z1g;rw[if_pos hlt]);have K:=Hd (z1q 2 w);have hlt':((m.d.procs.length:Int)<1024):=by omega
  obtain⟨W1,hW1,hx1,hb1⟩:=q7l w (.bool clk) (.slice la l.length lc) 70;have hV1:=hW1.symm;have HO:=Hd (HM.o.prc.ext_imp hx1 (fun x cs hr=>RPc.keep hx1.kp x cs hr));have HF:=Hd (show Flat W1 2 (some ⟨w.heap.size,0,none⟩) 1 [.bool clk,.slice la l.length lc] from⟨rfl,(by intro u hu;simp at hu;rcases hu with rfl|rfl<;>rfl),fun _=>⟨_,_,rfl,hb1.cells⟩⟩);have HFl:=Hd (show Fl (RPc W1) 2 [(⟨clk,l⟩:Pc)] [.bool clk,.slice la l.length lc] from Fl.one_ rfl (by intro u hu;simp at hu;rcases hu with rfl|rfl<;>rfl) ⟨_,rfl,HL.o.keep hx1.kp⟩);have HX1:=Hd hx1;have hbw:N0≤W1.heap.size:=y1k h.base (y1k (Nat.le_of_lt h.blk.lt) hx1.size);have c2':=hx1.at_ c2;have HB1:=Hd (h.blk.ext hx1);clear h hlt hW1 hx1 hb1;go_enter func107,ntmps107;go_wp2_with fail
  go_at_call 35;refine K.o.mono ?_;rintro _ w ⟨rfl,rfl⟩
  go_wp2_with (first
   |(at_builtin;go_loud (
     refine z2x rfl _ _ 47 rfl N0 70 _ 2 32 k4a underlying47 rfl (by decide) (by decide) m.d.procs [⟨clk,l⟩] (.slice pa m.d.procs.length pc) rfl HO.o (some ⟨w.heap.size,0,none⟩) 1 [.bool clk,.slice la l.length lc] rfl HF.o HFl.o (by omega) (by simp) hbw ?_;intro v2 w2 hown2 hg2 hge2;obtain⟨a2,k2,hv2⟩:=hown2.form;rw[show(m.d.procs++[(⟨clk,l⟩:Pc)]).length=m.d.procs.length+1 from by simp] at hv2;subst hv2;have hrow:∀k,(Value.slice pa m.d.procs.length pc).ownBlock=some k→N0≤k∧Tag w k 70:=fun k hk=>HM.o.prc.tag hk
     have hmk:some mb≠(Value.slice pa m.d.procs.length pc).ownBlock:=fun e=>absurd ((hrow mb e.symm).2.one HM.o.blk.tag) (by decide)
     have hb2:Blk w2 mb 99 [vf,vs,.slice pa m.d.procs.length pc,vc,.int .i64 m.count,.int .i64 m.bits]:=(hg2.block mb HB1.o.lt hmk).trans HB1.o;have y2:=hb2.cell 2;have z2:=hb2.frozen 2;simp only[List.getElem?_cons_succ,List.getElem?_cons_zero] at y2;obtain⟨W3,hW3⟩:∃W3,W3=w2.setCell ⟨mb,2,none⟩ (.slice a2 (m.d.procs.length+1) k2):=⟨_,rfl⟩;have hV3:=hW3.symm;have H3:=Hd (show MkI W3 N0 mb vf vs (.slice a2 (m.d.procs.length+1) k2) vc {m with d:={m.d with procs:=m.d.procs++[⟨clk,l⟩]}}∧FrI N0 mb sb mp w W3 from by
      rw[hW3];have hk:=q6p (i:=2) (u:=.slice a2 (m.d.procs.length+1) k2) HX1.o hg2 (fun k hk=>⟨_,(hrow k hk).2,by unfold j0q;decide⟩) HM.o.blk.tag (by unfold j0q;decide);have hk1:Kp W1 (w2.setCell ⟨mb,2,none⟩ (.slice a2 (m.d.procs.length+1) k2)):=q6p (y1g W1) hg2 (fun k hk=>⟨_,(HO.o.tag hk).2,by unfold j0q;decide⟩) HB1.o.tag (by unfold j0q;decide);refine⟨⟨by simpa using hb2.set_ 2 _,?_,?_,?_,HM.o.base⟩,j2u HX1.o hg2 (fun k hk=>⟨(hrow k hk).1,.inr (.inl (hrow k hk).2)⟩)⟩
      ·exact HM.o.sig.chg (fun g _ hg=>z6h HX1.o hg2 hg (fun k hk=>⟨_,(hrow k hk).2,by decide⟩) HM.o.blk.tag (by decide)) (fun _ _ h=>h)
      ·exact q6o hown2 hb2.tag (by decide) (RPc.keep hk1)
      ·exact HM.o.chk.chg (fun g _ hg=>z6h HX1.o hg2 hg (fun k hk=>⟨_,(hrow k hk).2,by decide⟩) HM.o.blk.tag (by decide)) (RCk.keep hk))
     clear hown2 hg2 hge2 hrow hmk hb2 hW3)))
  go_end0
  exact .ok HR.o ⟨rfl,_,_,_,H3.o⟩
def q7p(q:Nat)(T:TypeId)(cs vals:List Value)(i:Nat)(v:Value)(w:World):Prop:=if i=q then∃g,v=.slice (some ⟨g,0,none⟩) 1 1∧Blk w g T cs else v=vals.getD i undef
theorem k2o{q:Nat}{T:TypeId}{cs vals:List Value}{i:Nat}{v:Value}{w w':World}(h:q7p q T cs vals i v w)(hx:Ext w w'):q7p q T cs vals i v w':=by
 unfold q7p at h⊢;split
 ·rename_i hi
  rw[if_pos hi] at h;obtain⟨g,h1,h2⟩:=h;exact⟨g,h1,h2.ext hx⟩
 ·rename_i hi
  rw[if_neg hi] at h;exact h
theorem q7k{w:World}{mp:Nat}(o:Obj):Chg (fun k=>k=mp) w (z4f w mp o):=⟨rfl,rfl,rfl,by simp[z4f],fun k _ hk=>by simp[z4f,Array.getElem?_setIfInBounds_ne (show mp≠k from fun e=>hk e.symm)]⟩
theorem MkI.map{w w':World}{N0 mb mp:Nat}{vf vs vp vc:Value}{m:Mk}{env:ByteArray→Option Int}(h:MkI w N0 mb vf vs vp vc m)(he:EnvM w mp env)(hc:Chg (fun k=>k=mp) w w'):MkI w' N0 mb vf vs vp vc m∧Kp w w':=by
 have hs:∀g T,Tag w g T→w'.heap[g]? =w.heap[g]? :=fun g T hg=>hc.block g hg.lt (fun e=>he.noTag (e▸hg))
 have hk:Kp w w':=fun b hb=>by
  rcases hb with hb|hb|hb<;>exact hs b _ hb
 exact⟨⟨(hs mb _ h.blk.tag).trans h.blk,h.sig.chg (fun g _ hg=>hs g _ hg) (fun _ _ h=>h),h.prc.chg (fun g _ hg=>hs g _ hg) (RPc.keep hk),h.chk.chg (fun g _ hg=>hs g _ hg) (RCk.keep hk),h.base⟩,hk⟩
theorem FrI.of_map{N0 mb sb mp:Nat}{w w':World}(hc:Chg (fun k=>k=mp) w w'):FrI N0 mb sb mp w w':=⟨hc.os,hc.tape,hc.output,hc.size,fun k hk _ _ h3 _=>hc.block k hk h3⟩
def ScR(sb mp:Nat)(s':Sc)(w':World):Prop:=∃ve',ScI w' sb mp ve' s'
theorem q1i(N0 mb sb mp:Nat)(vf vs vp vc ve:Value)(m:Mk)(s:Sc)(nm:ByteArray)(wd kind init:Int)(w:World)(h:MkI w N0 mb vf vs vp vc m)(hs:ScI w sb mp ve s)(hne:sb≠mb)
 (hn:m.d.sigs.length≤512) (hb0:0≤m.bits) (hb1:m.bits≤4096) (hw0:0≤wd) (hw1:wd≤64) (hpl:s.path.size≤1000000000) (hnl:nm.size≤1000000000):
 z9b Tryz.prog 73 #[.pointer (some ⟨mb,0,none⟩),.pointer (some ⟨sb,0,none⟩),.string nm,.int .i64 wd,.int .i64 kind,.int .u64 init] w (z2n nm wd kind init s m)
  (fun r v w'=>v=.int .i64 m.d.sigs.length∧MkR N0 mb sb mp vf w r.2 w'∧ScR sb mp r.1 w') (FrI N0 mb sb mp w):=by
 have HM:=Hd h;have HS:=Hd hs;have hsl:¬(9223372036854775807<s.path.size+nm.size):=by omega
 obtain⟨sa,sc,rfl⟩:=h.sig.form;obtain⟨w1,hw1e⟩:∃w1,w1=w.setCell ⟨mb,5,none⟩ (.int .i64 (m.bits+wd)):=⟨_,rfl⟩;have hV1:=hw1e.symm;have hf1:FrS mb w w1:=by rw[hw1e];exact y1y (X:=fun k=>k=mb) (y1u _ w) (p:=⟨mb,5,none⟩) rfl _
 have hbk1:Blk w1 mb 99 [vf,.slice sa m.d.sigs.length sc,vp,vc,.int .i64 m.count,.int .i64 (m.bits+wd)]:=by rw[hw1e];simpa using h.blk.set_ 5 (.int .i64 (m.bits+wd))
 have hsk1:Blk w1 sb 126 [ve,.map (some mp),.string s.path]:=hf1.blk hs.blk hne;have c1:=h.blk.cell 1;have c5:=h.blk.cell 5;have z5:=h.blk.frozen 5;have d1:=hbk1.cell 1;have d5:=hbk1.cell 5;simp only[List.getElem?_cons_succ,List.getElem?_cons_zero] at c1 c5 d1 d5;have HF1:=Hd hf1;have HB1:=Hd hbk1;have HSK1:=Hd hsk1;clear h hs hf1 hbk1 hsk1 hw1e;by_cases hlt:m.d.sigs.length<512∧m.bits+wd≤4096
 rotate_left
 ·have HR:=Hd (show z2n nm wd kind init s m=.error 2 by unfold z2n;rw[if_neg hlt]);have K:=Hd (z2h 2 (by decide) w1);have HFF:=Hd (show FrI N0 mb sb mp w w1 from .of_chg HF1.o);by_cases h1:m.d.sigs.length<512
  ·have h1':((m.d.sigs.length:Int)<512):=by omega
   have h2':¬(m.bits+wd≤4096):=fun h=>hlt ⟨h1,h⟩
   clear hlt;go_enter func73,ntmps73;go_wp2_with fail
   go_at_call 35;refine K.o.mono ?_;rintro _ w1 ⟨rfl,rfl⟩;exact⟨rfl,.no HR.o HFF.o⟩
  ·have h1':¬((m.d.sigs.length:Int)<512):=by omega
   clear hlt;go_enter func73,ntmps73;go_wp2_with fail
   go_at_call 35;refine K.o.mono ?_;rintro _ w1 ⟨rfl,rfl⟩;exact⟨rfl,.no HR.o HFF.o⟩
 ·have HR:=Hd (show z2n nm wd kind init s m=.ok ({s with sigs:=z3h s.sigs nm m.d.sigs.length},{m with bits:=m.bits+wd,d:={m.d with sigs:=m.d.sigs++[⟨s.path++nm,wd,kind,init⟩]}}) by unfold z2n;rw[if_pos hlt]);have K:=Hd (z1q 2 w1);have h1':((m.d.sigs.length:Int)<512):=by omega
  have h2':=hlt.2;clear hlt;go_enter func73,ntmps73;go_wp2_with fail
  go_at_call 35;refine K.o.mono ?_;rintro _ w1 ⟨rfl,rfl⟩;have HV:=Hd hV1;have y1:=cellAt d1;have y2:=cellAt (HSK1.o.cell 2);clear K hV1 c1 c5 z5 d1 d5;go_wp2_with fail
  refine wp_region_any (by kernel_rfl) ?_;refine wpAny_take (i:=0) (v:=.pointer (some ⟨mb,0,none⟩)) rfl (by kernel_rfl) (by kernel_rfl) (by kernel_rfl) (fun _ _ _ h=>h) (q3h 0 rfl rfl rfl) ?_;simp only[Act.put,List.setIfInBounds_toArray,List.set_cons_zero,List.set_cons_succ];refine j0t 17 [0] #[true,false,false,false,false,false,false,false,false,false,false,false,false,false,false,false,false] (W:=w1) (Ext) (q7p 16 57 [.string (s.path++nm),.int .i64 wd,.int .i64 kind,.int .u64 init] [.pointer (some ⟨mb,0,none⟩),.pointer (some ⟨mb,0,none⟩),.pointer (some ⟨mb,0,none⟩),.pointer (some ⟨mb,1,none⟩),.pointer (some ⟨mb,1,none⟩),.slice sa m.d.sigs.length sc,.pointer (some ⟨sb,0,none⟩),.pointer (some ⟨sb,0,none⟩),.pointer (some ⟨sb,2,none⟩),.string s.path,.string nm,.string (s.path++nm),.int .i64 wd,.int .i64 kind,.int .u64 init,.agg #[.string (s.path++nm),.int .i64 wd,.int .i64 kind,.int .u64 init]]) (fun _ _=>False) (fun _=>true) (z0s) (by kernel_rfl) (by kernel_rfl) rfl (by kernel_rfl) (by kernel_rfl) (by kernel_rfl) (by kernel_rfl) (fun h=>absurd h (by decide)) ?_ ((z0s).drew _ _ (y1g _)) (fun i v w w' h hx=>k2o h hx) ?_ (by kernel_rfl) ?_ (fun A ch w hd hp=>hp.elim) ?_
  ·exact⟨rfl,rfl,rfl,rfl,rfl,rfl,rfl,rfl,rfl,rfl,rfl,rfl,rfl,rfl,rfl,rfl,rfl,trivial⟩
  ·refine⟨?_,?_,?_,?_,?_,?_,?_,?_,?_,?_,?_,?_,?_,?_,?_,?_,?_,trivial⟩
   ·intro A wa hxa hd h0;obtain⟨ea,rfl⟩:=y1h hxa;have r0:=z0c h0 0 (by kernel_rfl);simp at r0;clear hd h0;go_simp;first|exact⟨_,rfl,y1g _,rfl⟩|exact⟨y1g _,rfl⟩|exact rfl|exact⟨_,rfl,rfl⟩|exact y1g _
   ·intro A wa hxa hd h0;obtain⟨ea,rfl⟩:=y1h hxa;have r0:=z0c h0 0 (by kernel_rfl);simp at r0;clear hd h0;go_simp;first|exact⟨_,rfl,y1g _,rfl⟩|exact⟨y1g _,rfl⟩|exact rfl|exact⟨_,rfl,rfl⟩|exact y1g _
   ·intro A wa hxa hd h0;obtain⟨ea,rfl⟩:=y1h hxa;have q1:=z0d hd 1 39 (by kernel_rfl) rfl;simp[q7p] at q1;clear hd h0;go_simp;first|exact⟨_,rfl,y1g _,rfl⟩|exact⟨y1g _,rfl⟩|exact rfl|exact⟨_,rfl,rfl⟩|exact y1g _
   ·intro A wa hxa hd h0;obtain⟨ea,rfl⟩:=y1h hxa;have q2:=z0d hd 2 40 (by kernel_rfl) rfl;simp[q7p] at q2;clear hd h0;go_simp;first|exact⟨_,rfl,y1g _,rfl⟩|exact⟨y1g _,rfl⟩|exact rfl|exact⟨_,rfl,rfl⟩|exact y1g _
   ·intro A wa hxa hd h0;obtain⟨ea,rfl⟩:=y1h hxa;have q3:=z0d hd 3 41 (by kernel_rfl) rfl;simp[q7p] at q3;clear hd h0;go_simp;first|exact⟨_,rfl,y1g _,rfl⟩|exact⟨y1g _,rfl⟩|exact rfl|exact⟨_,rfl,rfl⟩|exact y1g _
   ·intro A wa hxa hd h0;obtain⟨ea,rfl⟩:=y1h hxa;have q4:=z0d hd 4 42 (by kernel_rfl) rfl;simp[q7p] at q4;clear hd h0;go_simp;first|exact⟨_,rfl,y1g _,rfl⟩|exact⟨y1g _,rfl⟩|exact rfl|exact⟨_,rfl,rfl⟩|exact y1g _
   ·intro A wa hxa hd h0;obtain⟨ea,rfl⟩:=y1h hxa;have r1:=z0c h0 1 (by kernel_rfl);simp at r1;clear hd h0;go_simp;first|exact⟨_,rfl,y1g _,rfl⟩|exact⟨y1g _,rfl⟩|exact rfl|exact⟨_,rfl,rfl⟩|exact y1g _
   ·intro A wa hxa hd h0;obtain⟨ea,rfl⟩:=y1h hxa;have q6:=z0d hd 6 44 (by kernel_rfl) rfl;simp[q7p] at q6;clear hd h0;go_simp;first|exact⟨_,rfl,y1g _,rfl⟩|exact⟨y1g _,rfl⟩|exact rfl|exact⟨_,rfl,rfl⟩|exact y1g _
   ·intro A wa hxa hd h0;obtain⟨ea,rfl⟩:=y1h hxa;have q7:=z0d hd 7 45 (by kernel_rfl) rfl;simp[q7p] at q7;clear hd h0;go_simp;first|exact⟨_,rfl,y1g _,rfl⟩|exact⟨y1g _,rfl⟩|exact rfl|exact⟨_,rfl,rfl⟩|exact y1g _
   ·intro A wa hxa hd h0;obtain⟨ea,rfl⟩:=y1h hxa;have q8:=z0d hd 8 46 (by kernel_rfl) rfl;simp[q7p] at q8;clear hd h0;go_simp;first|exact⟨_,rfl,y1g _,rfl⟩|exact⟨y1g _,rfl⟩|exact rfl|exact⟨_,rfl,rfl⟩|exact y1g _
   ·intro A wa hxa hd h0;obtain⟨ea,rfl⟩:=y1h hxa;have r2:=z0c h0 2 (by kernel_rfl);simp at r2;clear hd h0;go_simp;first|exact⟨_,rfl,y1g _,rfl⟩|exact⟨y1g _,rfl⟩|exact rfl|exact⟨_,rfl,rfl⟩|exact y1g _
   ·intro A wa hxa hd h0;obtain⟨ea,rfl⟩:=y1h hxa;have q9:=z0d hd 9 47 (by kernel_rfl) rfl;simp[q7p] at q9;have q10:=z0d hd 10 48 (by kernel_rfl) rfl;simp[q7p] at q10;clear hd h0;go_simp;first|exact⟨_,rfl,y1g _,rfl⟩|exact⟨y1g _,rfl⟩|exact rfl|exact⟨_,rfl,rfl⟩|exact y1g _
   ·intro A wa hxa hd h0;obtain⟨ea,rfl⟩:=y1h hxa;have r3:=z0c h0 3 (by kernel_rfl);simp at r3;clear hd h0;go_simp;first|exact⟨_,rfl,y1g _,rfl⟩|exact⟨y1g _,rfl⟩|exact rfl|exact⟨_,rfl,rfl⟩|exact y1g _
   ·intro A wa hxa hd h0;obtain⟨ea,rfl⟩:=y1h hxa;have r4:=z0c h0 4 (by kernel_rfl);simp at r4;clear hd h0;go_simp;first|exact⟨_,rfl,y1g _,rfl⟩|exact⟨y1g _,rfl⟩|exact rfl|exact⟨_,rfl,rfl⟩|exact y1g _
   ·intro A wa hxa hd h0;obtain⟨ea,rfl⟩:=y1h hxa;have r5:=z0c h0 5 (by kernel_rfl);simp at r5;clear hd h0;go_simp;first|exact⟨_,rfl,y1g _,rfl⟩|exact⟨y1g _,rfl⟩|exact rfl|exact⟨_,rfl,rfl⟩|exact y1g _
   ·intro A wa hxa hd h0;obtain⟨ea,rfl⟩:=y1h hxa;have q11:=z0d hd 11 49 (by kernel_rfl) rfl;simp[q7p] at q11;have q12:=z0d hd 12 50 (by kernel_rfl) rfl;simp[q7p] at q12;have q13:=z0d hd 13 51 (by kernel_rfl) rfl;simp[q7p] at q13;have q14:=z0d hd 14 52 (by kernel_rfl) rfl;simp[q7p] at q14;clear hd h0;go_simp;first|exact⟨_,rfl,y1g _,rfl⟩|exact⟨y1g _,rfl⟩|exact rfl|exact⟨_,rfl,rfl⟩|exact y1g _
   ·intro A wa hxa hd h0;obtain⟨ea,rfl⟩:=y1h hxa;have q15:=z0d hd 15 53 (by kernel_rfl) rfl;simp[q7p] at q15;clear hd h0;go_simp;obtain⟨W2,hW2,hx2,hb2⟩:=q2d ea.w (.string (s.path++nm)) (.int .i64 wd) (.int .i64 kind) (.int .u64 init) 57;have hV2:=hW2.symm;have HG:=Hd (y1x hx2 hb2);clear hW2 hx2 hb2;go_simp;first|exact⟨_,rfl,HG.o.1,_,rfl,HG.o.2⟩|exact⟨HG.o.1,_,rfl,HG.o.2⟩
  ·intro j hj d hd;simp at hj;subst hj;obtain rfl:38=d:=by simpa using hd
   exact rfl
  ·intro A wa hk;obtain⟨hxa,hsz,hdf,hdn,hrs⟩:=hk;obtain⟨ea,rfl⟩:=y1h hxa;have k0:=z0c hrs 0 (by kernel_rfl);simp at k0;have k1:=z0c hrs 1 (by kernel_rfl);simp at k1;have k2:=z0c hrs 2 (by kernel_rfl);simp at k2;have k3:=z0c hrs 3 (by kernel_rfl);simp at k3;have k4:=z0c hrs 4 (by kernel_rfl);simp at k4;have k5:=z0c hrs 5 (by kernel_rfl);simp at k5;have k6:=z0c hrs 6 (by kernel_rfl);simp at k6;have k7:=z0c hrs 7 (by kernel_rfl);simp at k7;have k8:=z0c hrs 8 (by kernel_rfl);simp at k8;have k9:=z0c hrs 9 (by kernel_rfl);simp at k9;have k10:=z0c hrs 10 (by kernel_rfl);simp at k10;have k11:=z0c hrs 11 (by kernel_rfl);simp at k11;have k12:=z0c hrs 12 (by kernel_rfl);simp at k12;have k13:=z0c hrs 13 (by kernel_rfl);simp at k13;have k38:A.tmps.getD 38 undef=.pointer (some ⟨mb,0,none⟩):=hdn 0 38 rfl rfl;have k43:A.tmps.getD 43 undef=.slice sa m.d.sigs.length sc:=hdn 5 43 rfl rfl;obtain⟨g,k54,hg⟩:=(show∃g,A.tmps.getD 54 undef=.slice (some ⟨g,0,none⟩) 1 1∧Blk ea.w g 57 [.string (s.path++nm),.int .i64 wd,.int .i64 kind,.int .u64 init] from hdn 16 54 rfl rfl);have k59:=z0c hrs 59 (by kernel_rfl);simp at k59;have k60:=z0c hrs 60 (by kernel_rfl);simp at k60;have k61:=z0c hrs 61 (by kernel_rfl);simp at k61;have k62:=z0c hrs 62 (by kernel_rfl);simp at k62;have k63:=z0c hrs 63 (by kernel_rfl);simp at k63;have k64:=z0c hrs 64 (by kernel_rfl);simp at k64;have k65:=z0c hrs 65 (by kernel_rfl);simp at k65;clear hdn hrs;rw[z4x hsz hdf];obtain⟨fZ,hfZ,hfY⟩:=tmpsF A;simp only[hfZ,hfY] at k0 k1 k2 k3 k4 k5 k6 k7 k8 k9 k10 k11 k12 k13 k38 k43 k54 k59 k60 k61 k62 k63 k64 k65⊢;simp only[List.drop_succ_cons,List.drop_zero];simp[List.range,List.range.loop,k0,k1,k2,k3,k4,k5,k6,k7,k8,k9,k10,k11,k12,k13,k38,k43,k54,k59,k60,k61,k62,k63,k64,k65];clear k0 k1 k2 k3 k4 k5 k6 k7 k8 k9 k10 k11 k12 k13 k38 k43 k54 k59 k60 k61 k62 k63 k64 k65 hsz hdf;clear hfZ hfY;have hmpb:mp≠mb:=fun e=>HS.o.map.noTag (e▸HM.o.blk.tag)
   have H1:=Hd (HM.o.turn HF1.o m.count (m.bits+wd) HB1.o);have HO:=Hd (H1.o.sig.later ea.ext);have HFL:=Hd (show Flat ea.w 4 (some ⟨g,0,none⟩) 1 [.string (s.path++nm),.int .i64 wd,.int .i64 kind,.int .u64 init] from⟨rfl,(by intro u hu;simp at hu;rcases hu with rfl|rfl|rfl|rfl<;>rfl),fun _=>⟨_,_,rfl,hg.cells⟩⟩);have HFl:=Hd (show Fl RSg 4 [(⟨s.path++nm,wd,kind,init⟩:Sg)] [.string (s.path++nm),.int .i64 wd,.int .i64 kind,.int .u64 init] from Fl.one_ rfl (by intro u hu;simp at hu;rcases hu with rfl|rfl|rfl|rfl<;>rfl) rfl);have hbw:N0≤ea.w.heap.size:=y1k HM.o.base (y1k (Nat.le_of_lt HB1.o.lt) ea.ext.size);have HBe:=Hd (HB1.o.ext ea.ext);clear hg y1 y2
   go_wp2_with (first
    |(at_builtin;go_loud (
      refine z2x rfl _ _ 46 rfl N0 57 _ 4 40 k7n underlying46 rfl (by decide) (by decide) m.d.sigs [⟨s.path++nm,wd,kind,init⟩] (.slice sa m.d.sigs.length sc) rfl HO.o (some ⟨g,0,none⟩) 1 [.string (s.path++nm),.int .i64 wd,.int .i64 kind,.int .u64 init] rfl HFL.o HFl.o (by omega) (by simp) hbw ?_;intro v2 w2 hown2 hg2 hge2;obtain⟨a2,k2,hv2⟩:=hown2.form;rw[show(m.d.sigs++[(⟨s.path++nm,wd,kind,init⟩:Sg)]).length=m.d.sigs.length+1 from by simp] at hv2;subst hv2;have hrow:∀k,(Value.slice sa m.d.sigs.length sc).ownBlock=some k→N0≤k∧Tag w1 k 57:=fun k hk=>H1.o.sig.tag hk
      have hmk:some mb≠(Value.slice sa m.d.sigs.length sc).ownBlock:=fun e=>absurd ((hrow mb e.symm).2.one HB1.o.tag) (by decide)
      have hb2:Blk w2 mb 99 [vf,.slice sa m.d.sigs.length sc,vp,vc,.int .i64 m.count,.int .i64 (m.bits+wd)]:=(hg2.block mb HBe.o.lt hmk).trans HBe.o;have yb2:=hb2.cell 1;have zb2:=hb2.frozen 1;simp only[List.getElem?_cons_succ,List.getElem?_cons_zero] at yb2;obtain⟨W3,hW3⟩:∃W3,W3=w2.setCell ⟨mb,1,none⟩ (.slice a2 (m.d.sigs.length+1) k2):=⟨_,rfl⟩;have hV3:=hW3.symm;have hfr:∀sb' mp',FrI N0 mb sb' mp' w1 W3:=fun sb' mp'=>by rw[hW3];exact j2u ea.ext hg2 (fun k hk=>⟨(hrow k hk).1,.inl (hrow k hk).2⟩)
      have hk3:Kp w1 W3:=by rw[hW3];exact q6p ea.ext hg2 (fun k hk=>⟨_,(hrow k hk).2,by unfold j0q;decide⟩) HB1.o.tag (by unfold j0q;decide)
      have hsame:∀g T,Tag w1 g T→T≠57→T≠99→W3.heap[g]? =w1.heap[g]? :=fun g T hg h1 h2=>by rw[hW3];exact z6h ea.ext hg2 hg (fun k hk=>⟨_,(hrow k hk).2,fun e=>h1 e.symm⟩) HB1.o.tag (fun e=>h2 e.symm)
      have hM3:MkI W3 N0 mb vf (.slice a2 (m.d.sigs.length+1) k2) vp vc {m with bits:=m.bits+wd,d:={m.d with sigs:=m.d.sigs++[⟨s.path++nm,wd,kind,init⟩]}}:=by
       refine⟨?_,?_,H1.o.prc.chg (fun g _ hg=>hsame g _ hg (by decide) (by decide)) (RPc.keep hk3),H1.o.chk.chg (fun g _ hg=>hsame g _ hg (by decide) (by decide)) (RCk.keep hk3),HM.o.base⟩
       ·rw[hW3];simpa using hb2.set_ 1 (.slice a2 (m.d.sigs.length+1) k2)
       ·rw[hW3];exact q6o hown2 hb2.tag (by decide) (fun _ _ h=>h)
      have hsb3:Blk W3 sb 126 [ve,.map (some mp),.string s.path]:=(hfr mb mb).blk HSK1.o ⟨by decide,by decide,by decide⟩ hne hne hne;have hE3:EnvM W3 mp s.sigs:=(hfr mb mb).map (HS.o.map.of_eq (HF1.o.block mp HS.o.map.lt hmpb)) hmpb hmpb hmpb;have hL3:SlT 85 RNm W3 2 s.env ve:=(SlT.keep HS.o.env (.inr (.inr rfl)) (FrS.kp HF1.o HM.o.blk.tag) (fun _ _ _ h=>h)).keep (.inr (.inr rfl)) hk3 (fun _ _ _ h=>h);obtain⟨o,hup,hE4⟩:=hE3.put nm m.d.sigs.length;obtain⟨W4,hW4⟩:∃W4,W4=z4f W3 mp o:=⟨_,rfl⟩;have hc4:Chg (fun k=>k=mp) W3 W4:=by rw[hW4];exact q7k o
      rw[←hW4] at hup hE4;obtain⟨hM4,hk4⟩:=hM3.map hE3 hc4;have hF4:FrI N0 mb sb mp w W4:=(FrI.of_chg HF1.o).trans ((hfr sb mp).trans (FrI.of_map hc4));have yw:=hsb3.cell 1;simp only[List.getElem?_cons_succ,List.getElem?_cons_zero] at yw
      have H4:=Hd (show MkR N0 mb sb mp vf w {m with bits:=m.bits+wd,d:={m.d with sigs:=m.d.sigs++[⟨s.path++nm,wd,kind,init⟩]}} W4∧ScR sb mp {s with sigs:=z3h s.sigs nm m.d.sigs.length} W4 from
       ⟨⟨_,_,_,hM4,hF4⟩,ve,(hc4.blk hsb3 (fun e=>hE3.noTag (e▸hsb3.tag))),hL3.keep (.inr (.inr rfl)) hk4 (fun _ _ _ h=>h),hE4⟩)
      clear hown2 hg2 hge2 hrow hmk hb2 hW3 hfr hk3 hsame hM3 hsb3 hE3 hL3 hE4 hW4 hc4 hM4 hk4 hF4)))
   go_ret;exact .ok HR.o ⟨rfl,H4.o⟩
end Go.Proofs.YtlfmlodanoolhaaGreatDoor
