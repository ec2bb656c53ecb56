import Derived.Test.YtlfmlodanoolhaaGreatDoorV35
set_option linter.all false
set_option maxRecDepth 200000
set_option maxHeartbeats 0
namespace Go.Proofs.YtlfmlodanoolhaaGreatDoor
section
open Go Go.RowKit Go.Proofs.Tryz
attribute [local go_sem] bc
def dw(W:World)(d:Nat)(T:TypeId)(vals:List Value)(i:Nat)(v:Value)(w:World):Prop:=if i=d then∃a b c,v=.pointer (some ⟨a,0,none⟩)/\W.heap.size<=a/\Blk w a T [b,c] else v=vals.getD i undef
def kV(W:World)(T:TypeId)(b b1:Value)(v:Value)(w:World):Prop:=∃a,v=.pointer (some ⟨a,0,none⟩)/\W.heap.size<=a/\Blk w a T [b,b1]
theorem wk{W:World}{a:Nat}{T:TypeId}{vals:List Value}{i:Nat}{v:Value}{w b:World}(h:dw W a T vals i v w)(k:Ext w b):dw W a T vals i v b:=by
 unfold dw at h⊢;split
 ·rename_i hi
  rw[if_pos hi] at h;obtain⟨e,c,d,f,g,j⟩:=h;exact⟨e,c,d,f,g,j.ext k⟩
 ·rename_i hi
  rw[if_neg hi] at h;exact h
theorem wl{W:World}{T:TypeId}{a b1:Value}{v:Value}{w b:World}(h:kV W T a b1 v w)(g:Ext w b):kV W T a b1 v b:=by
 obtain⟨c,d,e,f⟩:=h;exact⟨c,d,e,f.ext g⟩
theorem oz{W:World}{g:Nat}{T:TypeId}{vals:List Value}{i:Nat}{v:Value}{w:World}{b:Nat}(u0 u1:Value)(h:dw W g T vals i v w):dw W g T vals i v ((w.setCell ⟨b,0,none⟩ u0).setCell ⟨b,1,none⟩ u1):=by
 unfold dw at h⊢;split
 ·rename_i hi
  rw[if_pos hi] at h;obtain⟨a,j,k,d,e,f⟩:=h;by_cases c:a=b
  ·subst c;exact⟨a,u0,u1,d,e,f.store2 u0 u1⟩
  ·exact⟨a,j,k,d,e,(f.far c _).far c _⟩
 ·rename_i hi
  rw[if_neg hi] at h;exact h
theorem oW(a0:World)(B:Nat)(x:X)(a1:List Value)(sb mp:Nat)(G:Value)(s:Sc)(w:World)(a9:Cx a0 B w)(M:XOk a0 B x a1)(h:ScI w sb mp G s)(g4:s.env.length<=1000000):
 bv Tryz.prog 106 #[.pointer (some ⟨sb,0,none⟩),.agg a1.toArray] w (eH s x) (λb v p=>v=.agg #[.int .i64 b.1,.int .u64 b.2]/\Ext w p) (Ext w):=by
 have I:=Hd a9;have K:=Hd M;have c0:=Hd h;obtain⟨b9,rfl,a2⟩:=RX_iff.1 M.rx;have g7:=a2.oneCell;obtain⟨r,a3,S,a6⟩:=aV w (.int .i64 x.op) (.string x.name) (.int .i64 x.n) (.int .i64 x.w) (.int .u64 x.v) b9 40;obtain⟨i,a4,U,N⟩:=dd r (.int .i64 0) (.int .u64 0) 161;have g0:=a3.symm;have T:=S.trans U;have A:=Hd T;have y:=Hd N;obtain⟨e8,e9,f0,f1,f2,f3⟩:=(a6.ext U).later6;obtain⟨f6,b2⟩:=ae (W:=i) (w:=i) (af _);have g1:=a4.symm.trans b2;clear b2;have Z:=Hd (λ(p:World) (R:Ext i p)=>AW p.heap.size s.env x p G _ (I.o.tabs.ext (I.o.ext.trans (A.o.trans R))) (K.o.at_ (I.o.later (A.o.trans R))) ((SlT.keep c0.o.env (.inr (.inr rfl)) (A.o.trans R).kp (λ_ _ _ h=>h)).sl) (ac _) K.o.size K.o.vx zO);obtain⟨u,Q⟩:∃u,u=fX s.env x:=⟨_,rfl⟩;have V:=Hd (show eH s x=if u.2=0 then .ok u.1 else .error u.2 by rw[Q];rfl);rw[<-Q] at Z;obtain⟨⟨l,m⟩,j⟩:=u;have h1:∀e:Later i,e.w.cell? ⟨sb,0,none⟩=some G:=cellAt (T.at_ (h.blk.cell 0));have g8:=h.env.oneCell;have g5:r.heap.size<i.heap.size:=N.lt;have b5:w.heap.size<=r.heap.size:=S.size;clear Q a3 a4 S U T a6 N a2 M a9 h;go_enter func106,ntmps106;go_wp2_with fail
 refine np (W:=i) (dw i 9 161 [.agg #[.int .i64 x.op,.string x.name,.int .i64 x.n,.int .i64 x.w,.int .u64 x.v,b9],.pointer (some ⟨sb,0,none⟩),.pointer (some ⟨sb,0,none⟩),.pointer (some ⟨sb,0,none⟩),G,.tuple #[.agg #[.int .i64 l,.int .u64 m],.int .i64 j],.tuple #[.agg #[.int .i64 l,.int .u64 m],.int .i64 j],.agg #[.int .i64 l,.int .u64 m],.int .i64 j,undef,undef,.int .i64 j]) (kV i 161 (.int .i64 l) (.int .u64 m)) 10 9 5 zK zK zK zD zD ?_ (ag _) (λg6 v w p h t=>wk h t) (λv w p h t=>wl h t) ?_ ?_
 ·simp[GuardsMet,dw]
 ·refine⟨?_,?_,?_,?_,?_,?_,?_,?_,?_,?_,?_,?_,trivial⟩;rotate_left 5
  ·intro q H g a f;obtain⟨c,rfl⟩:=ae g;have d1:=ab a 0 8 zK rfl;simp[dw] at d1;have d5:=ab a 4 12 zK rfl;simp[dw] at d5;clear a f;go_simp;refine(Z.o c.w c.ext).mono ?_;rintro e g9 ⟨rfl,t⟩;go_simp;first|exact⟨_,rfl,t,rfl⟩|exact⟨t,rfl⟩|exact⟨_,rfl,rfl⟩
  rotate_left 3
  ·intro q H g a f;obtain⟨c,rfl⟩:=ae g;clear a f;obtain⟨e7,a5,b8,a7⟩:=dd c.w (.int .i64 0) (.int .u64 0) 161;have g2:=a5.symm;have d:=Hd (aq b8 a7);have c2:=Hd c.ext.size;clear a5 b8 a7;go_simp;exact⟨_,rfl,d.o.1,_,_,_,rfl,c2.o,d.o.2⟩
  ·intro q H g a f;obtain⟨c,rfl⟩:=ae g;obtain⟨c5,f4,f5,e0,P,k⟩:=ab a 9 5 zK rfl;simp at e0;have d8:=ab a 7 14 zK rfl;simp[dw] at d8;clear a f;obtain⟨e4,e5⟩:=k.get2;obtain⟨c3,c4⟩:=k.free2;have d:=Hd (aq P k);clear P k;go_simp;first|exact⟨(c.ext.setCell d.o.1 _).setCell d.o.1 _,λc8 e3 h=>oz _ _ h,_,rfl,d.o.1,d.o.2.store2 _ _⟩|exact⟨(c.ext.setCell d.o.1 _).setCell d.o.1 _,λc8 e3 h=>oz _ _ h,rfl,_,rfl,d.o.1,d.o.2.store2 _ _⟩
  all_goals
   intro q H g a f;obtain⟨c,rfl⟩:=ae g;try (have d2:=ab a 1 9 zD rfl;simp[dw] at d2)
   try (have d3:=ab a 2 10 zD rfl;simp[dw] at d3)
   try (have d4:=ab a 3 11 zD rfl;simp[dw] at d4)
   try (have d6:=ab a 5 13 zD rfl;simp[dw] at d6)
   try (have d7:=ab a 6 7 zD rfl;simp[dw] at d7)
   try (have d9:=ab a 8 15 zD rfl;simp[dw] at d9)
   have e2:=ah f 3 zK;simp at e2;have e1:=ah f 0 zK;simp at e1;clear a f;exact zC
 intro q H c7 c6;obtain⟨g,b7,b0,b1,b6⟩:=c7;obtain⟨c,rfl⟩:=ae g;obtain⟨c5,E,P,k⟩:=c6;simp at E;have D:=ah b6 4 zK;simp at D;have F:q.tmps.getD 6 undef=.int .i64 j:=b1 11 6 rfl rfl;simp at F;clear b1 b6;rw[ey b7 b0];obtain⟨f7,b4,b3⟩:=tmpsF q;simp only[b4,b3] at E D F⊢;simp[List.range,List.range.loop,E,D,F];clear E D F b7 b0;clear b4 b3;have e6:=Hd k;have Y:=Hd (A.o.trans c.ext);have y:=Hd (y.o.ext c.ext);obtain⟨f8,f9⟩:=k.get2;obtain⟨e4,e5⟩:=y.o.get2;obtain⟨c3,c4⟩:=y.o.free2;clear k;by_cases O:j=0
 ·subst O;have L:=Hd (mU c.w);have J:=Hd (show eH s x=.ok (l,m) from V.o.trans (if_pos rfl));obtain⟨z,C⟩:∃z,z=(c.w.setCell ⟨r.heap.size,0,none⟩ (.int .i64 l)).setCell ⟨r.heap.size,1,none⟩ (.int .u64 m):=⟨_,rfl⟩;have a8:Blk z r.heap.size 161 [.int .i64 l,.int .u64 m]:=by rw[C];exact y.o.store2 _ _
  have c1:=Hd (show Ext w z by rw[C];exact(Y.o.setCell b5 _).setCell b5 _);have g3:=C.symm;obtain⟨c9,d0⟩:=a8.get2;clear a8 C;go_wp2_with fail
  go_at_call 67;refine L.o.mono ?_;rintro _ _ ⟨rfl,rfl⟩;go_wp2_with fail
  refine bodyPost_ret (v:=.agg #[.int .i64 l,.int .u64 m]) ?_ rfl (.ok J.o ⟨rfl,c1.o⟩);simp[results,results106,go_sem,c9,d0]
 ·have L:=Hd (iT j O c.w);have J:=Hd (show eH s x=.error j from V.o.trans (if_neg O));go_wp2_with fail
  go_at_call 67;refine L.o.mono ?_;rintro _ h0 ⟨rfl,rfl⟩;exact⟨rfl,.no J.o Y.o⟩
theorem MkI.ext{w f:World}{N0 mb:Nat}{c e d b:Value}{m:Mk}(h:MkI w N0 mb c e d b m)(a:Ext w f):MkI f N0 mb c e d b m:=
 ⟨h.blk.ext a,h.sig.later a,h.prc.ext_imp a (RPc.keep a.kp),h.chk.ext_imp a (RCk.keep a.kp),h.base⟩
theorem ScI.ext{w c:World}{sb mp:Nat}{b:Value}{s:Sc}(h:ScI w sb mp b s)(a:Ext w c):ScI c sb mp b s:=
 ⟨h.blk.ext a,h.env.keep (.inr (.inr rfl)) a.kp (λ_ _ _ h=>h),h.map.ext a⟩
structure Good(sg:List Sg)(s:Sc):Prop where
 at_:∀nm a,s.sigs nm=some a->0<=a/\a<sg.length
 w:∀g,g∈sg->1<=g.w/\g.w<=64
 env:s.env.length<=1000000
 const:∀p,p∈s.env->bU p.2
theorem gh{a:List Sg}{k:Nat}(h:k<a.length):aD a (k:Int)=a[k]:=by
 unfold aD;simp[List.getD_eq_getElem?_getD,List.getElem?_eq_getElem h]
theorem dh{l:List X}{k:Nat}(h:k<l.length):xAt l k=l[k]:=by
 unfold xAt;simp[List.getD_eq_getElem?_getD,List.getElem?_eq_getElem h]
theorem XOk.part{b:World}{B:Nat}{x:X}{e:List Value}(h:XOk b B x e){a:X}(d:a∈x.l){c:List Value}(g:RX b B a c):XOk b B a c:=
 ⟨g,by
  have:=ay al x.l a d;have f:=h.size;rw[dJ] at f;omega,(VX_iff.1 h.vx).2.2.2 a d⟩
theorem qF{e:List Sg}{s:Sc}{c:ByteArray}{a:Int}(f:Good e s)(h:dt s c=.ok a):∃d:Nat,a=d/\d<e.length:=by
 unfold dt at h;cases hs:s.sigs c with
 |none=>rw[hs] at h;cases h
 |some b=>
  rw[hs] at h;injection h with h;subst h;obtain⟨g,i⟩:=f.at_ c b hs;exact⟨b.toNat,zO,zO⟩
theorem lW(C:World)(B N0 mb sb mp:Nat)(f1 f3 f2 f0 U:Value)(m:Mk)(s:Sc)(x:X)(a2:List Value)(w:World)(b3:Cx C B w)(Q:XOk C B x a2)(h:MkI w N0 mb f1 f3 f2 f0 m)(b6:ScI w sb mp U s)(b4:Good m.d.sigs s)(d0:x.op≠2->0<x.l.length):
 bv Tryz.prog 183 #[.pointer (some ⟨mb,0,none⟩),.pointer (some ⟨sb,0,none⟩),.agg a2.toArray] w (bS m.d.sigs s x) (λT v g=>v=.tuple #[.int .i64 T.1,.int .i64 T.2.1,.int .i64 T.2.2]/\Ext w g) (Ext w):=by
 have I:=Hd b3;have W:=Hd Q;have f5:=Hd h;have V:=Hd b6;have J:=Hd b4;obtain⟨j3,j4,rfl⟩:=h.sig.form;obtain⟨j8,rfl,c4⟩:=RX_iff.1 Q.rx;obtain⟨e6,e7,rfl,d5,b5⟩:=c4;have K:=Hd b5;obtain⟨f6,c0,i0,S,e0,g0,g1,g2,g3,g4,g5⟩:=cA w (.int .i64 x.op) (.string x.name) (.int .i64 x.n) (.int .i64 x.w) (.int .u64 x.v) (.slice e6 x.l.length e7) 40;have c:=Hd S;have b8:=Hd (λ(g:World) (F:Ext w g)=>rE sb mp U s x.name g (V.o.ext F));have M:=Hd (λ(a:Nat) (u:a<x.l.length) (i:List Value) (c8:RX C B x.l[a] i) (g:World) (F:Ext w g)=>fR C B x.l[a] i sb mp U s g (I.o.later F) (W.o.part (an u) c8) (V.o.ext F) J.o.env);have b9:=Hd (h.sig.slT zD);have k1:=cellAt (S.at_ (h.blk.cell 1));clear b5 S e0 Q b3 h b6 b4;go_enter func183,ntmps183;go_wp2_with fail
 go_at_call 190;refine(b8.o _ (c.o.trans (ag _))).mono ?_;rintro e j5 (⟨f7,v,q,rfl,rfl,rfl⟩|⟨i,q,rfl,rfl⟩);rotate_left
 ·have f:=Hd (show bS m.d.sigs s x=.error i by unfold bS;rw[q];rfl);exact⟨rfl,.no f.o (c.o.trans (ag _))⟩
 obtain⟨a,rfl,u⟩:=qF J.o q;have c9:=J.o.w _ (an u);obtain⟨k2,k3,e5,j0,b7⟩:=b9.o;injection e5 with e2 e3 e4;subst e2;obtain⟨f8,o,c2,rfl,e1,i1,a9,a6,b2⟩:=b7 a u;have c5:c2=_:=b2;subst c5;have i2:(0:Int)<=(a:Int):=by omega
 have i3:(a:Int)<(m.d.sigs.length:Int):=by omega
 have f4:=cellAt (c.o.at_ (a9 1 _ rfl));have b1:=Hd (λ(b:Int) (A:b=m.d.sigs[a].w)=>(by rw[A,gh u]:(aD m.d.sigs (a:Int)).w=b));obtain⟨b,A⟩:∃b,b=m.d.sigs[a].w:=⟨_,rfl⟩;have L:=Hd (b1.o b A);rw[<-A] at c9 f4;clear A b1 b7 a9 a6 b2 e1 e3 e4;by_cases t:x.op=2
 ·have f:=Hd (show bS m.d.sigs s x=.ok ((a:Int),b - 1,0) by
   unfold bS;rw[q];show(if x.op=2 then _ else _)=_;rw[if_pos t];show(do let _<-aU (0<=(aD m.d.sigs (a:Int)).w - 1/\(aD m.d.sigs (a:Int)).w - 1<(aD m.d.sigs (a:Int)).w) 84;pure ((a:Int),(aD m.d.sigs (a:Int)).w - 1,(0:Int)):Rs _)=_;rw[L.o];unfold aU;rw[if_pos zO]
   rfl)
  have j:=Hd (λg=>dZ 84 g);have d9:(x.op !=2)=false:=by rw[t];rfl
  have i8:(0:Int)<=b - 1:=by omega
  have i9:b - 1<b:=by omega
  clear q;go_wp2_with fail
  go_at_call 35;refine(j.o _).mono ?_;rintro _ _ ⟨rfl,rfl⟩;go_wp2_with fail
  refine bodyPost_ret (v:=.tuple #[.int .i64 (a:Int),.int .i64 (b - 1),.int .i64 0]) ?_ rfl (.ok f.o ⟨rfl,c.o.trans (ag _)⟩);simp[results,results183,go_sem]
 ·have d9:(x.op !=2)=true:=bne_iff_ne.2 t;have D:=d0 t;obtain⟨f9,j1,e8,d2,c6,d1,N,d7,O⟩:=K.o 0 D;subst d2;have Y:=Hd (dh (k:=0) D);have y:x.l.length - 1<x.l.length:=by omega
  have Z:=Hd (dh (k:=x.l.length - 1) y);simp only[Nat.zero_mul,Nat.add_zero] at N;obtain⟨bl,j2,e9,R,c7,d6,b0,d8,P⟩:=K.o (x.l.length - 1) y;injection R with R;injection R with d3 d4;subst d3;subst d4;have a0:=Hd (M.o 0 D e8 O);have a1:=Hd (M.o (x.l.length - 1) y e9 P);obtain⟨j9,rfl,a7⟩:=RX_iff.1 O;obtain⟨k0,rfl,a8⟩:=RX_iff.1 P;obtain⟨g6,g7,g8,g9,h0,h1⟩:=(N.ext (I.o.ext.trans c.o)).later6;obtain⟨h3,h4,h5,h6,h7,h8⟩:=(b0.ext (I.o.ext.trans c.o)).later6;have u0:=a7.oneCell;have u1:=a8.oneCell;have i6:x.l.length<=1000000000:=by
   have a6:=aw al x.l cR;have c3:=W.o.size;rw[dJ] at c3;omega
  have d5:((x.l.length:Int) - 1)=((x.l.length - 1:Nat):Int):=by omega
  have d1:(0:Int)<=((x.l.length - 1:Nat):Int):=by omega
  have i4:((x.l.length - 1:Nat):Int)<(x.l.length:Int):=by omega
  have i5:(0:Int)<(x.l.length:Int):=Int.ofNat_lt.2 D;have i7:wrap64 ((x.l.length - 1:Nat):Int)=((x.l.length - 1:Nat):Int):=IntWalk.wrap64_in _ ⟨zO,zO⟩;have r:=Hd (show bS m.d.sigs s x=(do let hi<-aI s x.l[0];let lo<-aI s (x.l[x.l.length - 1]'y);let _<-aU (0<=lo/\lo<=hi/\hi<b) 84;return((a:Int),hi,lo)) from by
   unfold bS;rw[q];show(if x.op=2 then _ else _)=_;rw[if_neg t,Y.o,Z.o,L.o])
  clear q t N b0 O P c6 c7 d8 d7 a7 a8 d6 Y Z L M K;generalize x.l[0]=xa at*;generalize x.l[x.l.length - 1]'y=xb at*;go_wp2_with fail
  go_at_call 71;refine(a0.o _ (c.o.trans (ag _))).mono ?_;rintro e j6 (⟨hi,v,z,rfl,rfl,G⟩|⟨i,z,rfl,G⟩);rotate_left
  ·have f:=Hd (show bS m.d.sigs s x=.error i by rw[r.o,z];rfl);exact⟨rfl,.no f.o ((c.o.trans (ag _)).trans G)⟩
  obtain⟨c1,rfl⟩:=ae ((ag c0).trans G);clear G;go_wp2_with fail
  go_at_call 71;refine(a1.o _ (c.o.trans (ag _))).mono ?_;rintro e j7 (⟨lo,v,E,rfl,rfl,H⟩|⟨i,E,rfl,H⟩);rotate_left
  ·have f:=Hd (show bS m.d.sigs s x=.error i by rw[r.o,z];show(do let lo<-aI s xb;_:Rs _)=_;rw[E];rfl);exact⟨rfl,.no f.o ((c.o.trans (ag _)).trans H)⟩
  obtain⟨h2,rfl⟩:=ae ((ag c1).trans H);clear H;have r:=Hd (show bS m.d.sigs s x=(do let _<-aU (0<=lo/\lo<=hi/\hi<b) 84;return((a:Int),hi,lo)) from by
   rw[r.o,z];show(do let lo<-aI s xb;_:Rs _)=_;rw[E]
   rfl)
  clear z E a0 a1;by_cases p:0<=lo/\lo<=hi/\hi<b
  ·have f:=Hd (show bS m.d.sigs s x=.ok ((a:Int),hi,lo) by rw[r.o];unfold aU;rw[if_pos p];rfl);have j:=Hd (λg=>dZ 84 g);obtain⟨a3,a4,a5⟩:=p;go_wp2_with fail
   go_at_call 35;refine(j.o _).mono ?_;rintro _ _ ⟨rfl,rfl⟩;go_wp2_with fail
   refine bodyPost_ret (v:=.tuple #[.int .i64 (a:Int),.int .i64 hi,.int .i64 lo]) ?_ rfl (.ok f.o ⟨rfl,c.o.trans (ag _)⟩);simp[results,results183,go_sem]
  ·have f:=Hd (show bS m.d.sigs s x=.error 84 by rw[r.o];unfold aU;rw[if_neg p];rfl);have j:=Hd (λg=>ei 84 zD g);by_cases a3:0<=lo
   rotate_left
   ·clear p;go_wp2_with fail
    go_at_call 35;refine(j.o _).mono ?_;rintro _ _ ⟨rfl,rfl⟩;exact⟨rfl,.no f.o (c.o.trans (ag _))⟩
   by_cases a4:lo<=hi
   rotate_left
   ·clear p;go_wp2_with fail
    go_at_call 35;refine(j.o _).mono ?_;rintro _ _ ⟨rfl,rfl⟩;exact⟨rfl,.no f.o (c.o.trans (ag _))⟩
   have a5:¬hi<b:=λh=>p ⟨a3,a4,h⟩
   have h9:decide (hi<b)=false:=decide_eq_false a5;clear p;go_wp2_with fail
   go_at_call 35;refine(j.o _).mono ?_;rintro _ _ ⟨rfl,rfl⟩;exact⟨rfl,.no f.o (c.o.trans (ag _))⟩
theorem jj(b:Bool):MapKept.IsKey .bool (.bool b):=trivial
theorem tk{c:List Sg}{s:Sc}{x:X}{f:Int×Int×Int}(g:Good c s)(h:bS c s x=.ok f):∃b:Nat,f.1=b/\b<c.length:=by
 unfold bS at h;cases hk:dt s x.name with
 |error e=>rw[hk] at h;cases h
 |ok a=>
  rw[hk] at h;obtain⟨b,rfl,i⟩:=qF g hk;refine⟨b,?_,i⟩;simp only[bind,Except.bind,pure,Except.pure] at h;split at h
  ·unfold aU at h;split at h
   ·cases h
   ·rename_i d
    split at d<;>cases d<;>(injection h with h;rw[<-h])
  ·split at h
   ·cases h
   ·split at h
    ·cases h
    ·unfold aU at h;split at h
     ·cases h
     ·injection h with h;rw[<-h]
theorem mV{w:World}{m g:Nat}{o:Obj}{t:TypeId}{a:List Value}(h:Blk w g t a)(b:g≠m):Blk (aH w m o) g t a:=(jG o).blk h b
theorem pa(a3:World)(B N0 mb sb mp:Nat)(g0 j1 g1 f8 f9:Value)(m:Mk)(s:Sc)(t:Bool)(x:X)(c8:List Value)(w:World)(a8:Cx a3 B w)(T:XOk a3 B x c8)(h:MkI w N0 mb g0 j1 g1 f8 m)(b4:ScI w sb mp f9 s)(b0:Good m.d.sigs s)(b3:x.op=3\/x.op=4->0<x.l.length):
 bv Tryz.prog 148 #[.pointer (some ⟨mb,0,none⟩),.pointer (some ⟨sb,0,none⟩),.agg c8.toArray,.bool t] w (cJ m.d.sigs s t x)
  (λA v I=>v=.agg #[.int .i64 1,.int .i64 A.1,.int .i64 A.2.1,.int .i64 A.2.2,.slice none 0 0,.slice none 0 0]/\Ext w I) (Ext w):=by
 have g4:=Hd a8;have g8:=Hd T;have g5:=Hd h;have g7:=Hd b4;have c6:=Hd b0;obtain⟨m8,m9,rfl⟩:=h.sig.form;obtain⟨j2,rfl,a6⟩:=RX_iff.1 T.rx;have m7:=a6.oneCell;obtain⟨r,d2,b6,d6⟩:=aV w (.int .i64 x.op) (.string x.name) (.int .i64 x.n) (.int .i64 x.w) (.int .u64 x.v) j2 40;obtain⟨a4,d3,b8,a7⟩:=aV r (.int .i64 0) (.int .i64 0) (.int .i64 0) (.int .i64 0) (.slice none 0 0) (.slice none 0 0) 73;have h9:=d2.symm;have b7:=b6.trans b8;have J:=Hd b7;have g3:=Hd a7;have H:w.heap.size<=r.heap.size:=b6.size;have l7:r.heap.size<a4.heap.size:=a7.lt;obtain⟨h3,j7,j8,j9,k0,k1⟩:=(d6.ext b8).later6;obtain⟨h4,e1⟩:=ae (W:=a4) (w:=a4) (af _);have l2:=d3.symm.trans e1;clear e1 d2 d3 b6 b8 d6 a7;by_cases u:x.op=2\/x.op=3\/x.op=4
 rotate_left
 ·have k8:(x.op==2)=false:=beq_eq_false_iff_ne.2 λe=>u (.inl e)
  have k9:(x.op==3)=false:=beq_eq_false_iff_ne.2 λe=>u (.inr (.inl e))
  have l0:(x.op==4)=false:=beq_eq_false_iff_ne.2 λe=>u (.inr (.inr e))
  have k:=Hd (show cJ m.d.sigs s t x=.error 85 by unfold cJ aU;rw[if_neg u];rfl);have y:=Hd (λI=>iT 85 zD I);clear u h b4 b0 a8 T a6 b3;go_enter func148,ntmps148;go_wp2_with fail
  go_at_call 67;refine(y.o _).mono ?_;rintro _ _ ⟨rfl,rfl⟩;exact⟨rfl,.no k.o (J.o.trans (ag _))⟩
 have g9:=Hd (λ(I:World) (b5:Ext w I)=>lW a3 B N0 mb sb mp g0 _ g1 f8 f9 m s x _ I (g4.o.later b5) g8.o (g5.o.ext b5) (g7.o.ext b5) c6.o (λi1=>b3 (u.resolve_left i1)));have h0:=Hd (h.sig.slT zD);have j3:=cellAt (b7.at_ (h.blk.cell 1));have f:=Hd (show cJ m.d.sigs s t x=(do let A<-bS m.d.sigs s x;let _<-aU (dg t (aD m.d.sigs A.1).kind=true) 85;return A) from by
  unfold cJ;rw[show aU (x.op=2\/x.op=3\/x.op=4) 85=.ok () from by unfold aU;rw[if_pos u]]
  rfl)
 clear h b4 b0 a8 T a6 b3 b7;have f7:Tryz.prog.underlying 234=some (.map 4 77):=underlying234;have f6:Tryz.prog.underlying 4=some .bool:=underlying4;have e5:∀w:World,(zeroValue 77).run Tryz.prog w=.ok (.slice none 0 0) w:=λ_=>by kernel_rfl
 have C:=Hd (aq f7 (aq f6 e5));clear f7 f6 e5;obtain⟨P,U⟩:∃P,P=x.op:=⟨_,rfl⟩;rw[<-U] at u h3 h9;have g6:=Hd U;rw[<-U];clear U;have l9:P=2\/P=3\/P=4:=u;rcases u with rfl|rfl|rfl
 all_goals
  have l8:=@run_makeMap Tryz.prog;go_enter func148,ntmps148;go_wp2_with fail
  go_at_call 183;rw[g6.o];refine(g9.o _ (J.o.trans (ag _))).mono ?_;rintro e n0 (⟨A,v,N,rfl,rfl,V⟩|⟨h2,N,rfl,V⟩);rotate_left
  ·have k:=Hd (show cJ m.d.sigs s t x=.error h2 by rw[f.o,N];rfl);exact⟨rfl,.no k.o ((J.o.trans (ag _)).trans V)⟩
  obtain⟨p,rfl⟩:=ae ((ag h4).trans V);obtain⟨c,e2,b2⟩:=tk c6.o N;obtain⟨i8,E,F⟩:=A;obtain rfl:i8=c:=e2;have f:=Hd (show cJ m.d.sigs s t x=(do let _<-aU (dg t (aD m.d.sigs (c:Int)).kind=true) 85;return((c:Int),E,F)) from by rw[f.o,N];rfl);obtain⟨n1,n2,i7,m0,e6⟩:=h0.o;injection i7 with i4 i5 i6;subst i4;obtain⟨j6,o,h5,rfl,i3,i0,d0,h6,d1⟩:=e6 c b2;have h8:h5=_:=d1;subst h8;have l6:(0:Int)<=(c:Int):=by omega
  have e2:(c:Int)<(m.d.sigs.length:Int):=by omega
  have c5:=cellAt (J.o.at_ (d0 2 _ rfl));rw[gh b2] at f;obtain⟨b,e3⟩:∃b,b=m.d.sigs[c].kind:=⟨_,rfl⟩;rw[<-e3] at f c5;obtain⟨g,S⟩:∃g,g=p.w.alloc (.map #[] 0):=⟨_,rfl⟩;have O:MV g p.w.heap.size []:=by rw[S];exact MV.new _
  have g2:Ext p.w g:=by rw[S];exact aE _ _
  obtain⟨a5,d4,Y,d8⟩:=dd g (.int .i64 3) (.int .i64 2) 3;have c0:∀c4,c4∈([]:List (Value×Value))->MapKept.IsKey .bool c4.1:=λc4 i2=>by cases i2
  obtain⟨f4,u1,c2⟩:=(O.ext Y).update C.o.1 C.o.2.1 (jj false) c0 (.slice (some ⟨g.heap.size,0,none⟩) 2 2);have c1:=cK (v:=.slice (some ⟨g.heap.size,0,none⟩) 2 2) c0 (jj false);obtain⟨i,K⟩:∃i,i=aH a5 p.w.heap.size f4:=⟨_,rfl⟩;rw[<-K] at u1 c2;have d9:Blk i g.heap.size 3 [.int .i64 3,.int .i64 2]:=by rw[K];exact mV d8 (by have:=O.lt;omega)
  obtain⟨h1,d5,Z,e0⟩:=aL i (.int .i64 4) 3;obtain⟨f5,u2,c3⟩:=(c2.ext Z).update C.o.1 C.o.2.1 (jj true) c1 (.slice (some ⟨i.heap.size,0,none⟩) 1 1);have e7:=cK (v:=.slice (some ⟨i.heap.size,0,none⟩) 1 1) c1 (jj true);obtain⟨a,L⟩:∃a,a=aH h1 p.w.heap.size f5:=⟨_,rfl⟩;rw[<-L] at u2 c3;have e4:=c3.lookup C.o.1 C.o.2.1 (jj t) e7 (C.o.2.2 a) false;have i9:p.w.heap.size<a5.heap.size:=aQ O.lt Y.size;have j0:i.heap.size=a5.heap.size:=by rw[K];simp[aH]
  have G:Blk a g.heap.size 3 [.int .i64 3,.int .i64 2]:=by rw[L];exact mV (d9.ext Z) (by have:=O.lt;omega)
  have M:Blk a i.heap.size 3 [.int .i64 4]:=by rw[L];exact mV e0 zO
  have a0:Ext p.w a:=by
   have h7:Ext p.w i:=by rw[K];exact(jG f4).ext (g2.trans Y) (λc e=>Nat.le_of_eq e.symm)
   rw[L];exact(jG f5).ext (h7.trans Z) (λc e=>Nat.le_of_eq e.symm)
  obtain⟨c9,a9⟩:=ae ((ag p).trans a0);have l3:=S.symm;have l4:=d4.symm;have l5:=d5.symm;have j5:=c5 c9;rw[<-a9] at j5;have j4:=j3 c9;rw[<-a9] at j4;have a2:=Hd (J.o.trans ((ag p).trans a0));have a1:=Hd (g3.o.ext ((ag p).trans a0));obtain⟨m1,m2,m3,m4,m5,m6⟩:=a1.o.get6;obtain⟨k2,k3,k4,k5,k6,k7⟩:=a1.o.free6;obtain⟨Q,R⟩:∃Q,Q=(((((a.setCell ⟨r.heap.size,0,none⟩ (.int .i64 1)).setCell ⟨r.heap.size,1,none⟩ (.int .i64 c)).setCell ⟨r.heap.size,2,none⟩ (.int .i64 E)).setCell ⟨r.heap.size,3,none⟩ (.int .i64 F)).setCell ⟨r.heap.size,4,none⟩ (.slice none 0 0)).setCell ⟨r.heap.size,5,none⟩ (.slice none 0 0):=⟨_,rfl⟩;have d7:Blk Q r.heap.size 73 [.int .i64 1,.int .i64 c,.int .i64 E,.int .i64 F,.slice none 0 0,.slice none 0 0]:=by rw[R];exact a1.o.store6 _ _ _ _ _ _
  have c7:=Hd (show Ext w Q by rw[R];exact(((((a2.o.setCell H _).setCell H _).setCell H _).setCell H _).setCell H _).setCell H _);have l1:=R.symm;obtain⟨e8,e9,f0,f1,f2,f3⟩:=d7.get6;clear V N e6 d0 h6 d1 i3 i5 i6 e3 i0 b2 S O g2 d4 Y c0 c2 c1 K d8 d9 d5 Z e0 c3 e7 L i9 j0 a0 a9 R d7 c5;cases t
  ·have D:(bd (bw (bw [] (.bool false) (.slice (some ⟨g.heap.size,0,none⟩) 2 2)) (.bool true) (.slice (some ⟨i.heap.size,0,none⟩) 1 1)) (.bool false)).getD (.slice none 0 0)=.slice (some ⟨g.heap.size,0,none⟩) 2 2:=by
    rw[ge,if_neg zS,ge,if_pos rfl];rfl
   simp only[Bool.false_eq_true,if_false,D] at e4;have z:=Hd (Tryz.slices_Contains_int g.heap.size 0 2 2 [3,2] b a zS zD (λb9 b1=>by
    match b9,b1 with
    |0,_=>exact G.cell 0
    |1,_=>exact G.cell 1))
   by_cases j:b=3\/b=2
   ·have q:(([3,2]:List Int).take 2).contains b=true:=by rcases j with rfl|rfl<;>decide
    rw[q] at z;have k:=Hd (show cJ m.d.sigs s false x=.ok ((c:Int),E,F) by rw[f.o];unfold aU;rw[if_pos (show dg false b=true by rcases j with rfl|rfl<;>rfl)];rfl);have y:=Hd (dZ 85 a);clear j D q G M f;go_wp2_with fail
    go_at_call 184;refine z.o.mono ?_;rintro _ a ⟨rfl,rfl⟩;go_wp2_with fail
    go_at_call 35;refine y.o.mono ?_;rintro _ a ⟨rfl,rfl⟩;go_wp2_with fail
    refine bodyPost_ret (v:=.agg #[.int .i64 1,.int .i64 (c:Int),.int .i64 E,.int .i64 F,.slice none 0 0,.slice none 0 0]) ?_ rfl (.ok k.o ⟨rfl,c7.o⟩);simp[results,results148,go_sem,e8,e9,f0,f1,f2,f3]
   ·have q:(([3,2]:List Int).take 2).contains b=false:=by
     cases hh:(([3,2]:List Int).take 2).contains b with
     |false=>rfl
     |true=>exact absurd (by simpa using hh) j
    rw[q] at z;have k:=Hd (show cJ m.d.sigs s false x=.error 85 by rw[f.o];unfold aU;rw[if_neg (show¬dg false b=true from λh=>j (by simpa [dg] using h))];rfl);have y:=Hd (ei 85 zD a);clear j D q G M f;go_wp2_with fail
    go_at_call 184;refine z.o.mono ?_;rintro _ a ⟨rfl,rfl⟩;go_wp2_with fail
    go_at_call 35;refine y.o.mono ?_;rintro _ a ⟨rfl,rfl⟩;exact⟨rfl,.no k.o a2.o⟩
  ·have D:(bd (bw (bw [] (.bool false) (.slice (some ⟨g.heap.size,0,none⟩) 2 2)) (.bool true) (.slice (some ⟨i.heap.size,0,none⟩) 1 1)) (.bool true)).getD (.slice none 0 0)=.slice (some ⟨i.heap.size,0,none⟩) 1 1:=by
    rw[ge,if_pos rfl];rfl
   simp only[Bool.false_eq_true,if_false,D] at e4;have z:=Hd (Tryz.slices_Contains_int i.heap.size 0 1 1 [4] b a zS zD (λb9 b1=>by
    match b9,b1 with
    |0,_=>exact M.cell 0))
   by_cases j:b=4
   ·have q:(([4]:List Int).take 1).contains b=true:=by rw[j];decide
    rw[q] at z;have k:=Hd (show cJ m.d.sigs s true x=.ok ((c:Int),E,F) by rw[f.o];unfold aU;rw[if_pos (show dg true b=true by rw[j];rfl)];rfl);have y:=Hd (dZ 85 a);clear j D q G M f;go_wp2_with fail
    go_at_call 184;refine z.o.mono ?_;rintro _ a ⟨rfl,rfl⟩;go_wp2_with fail
    go_at_call 35;refine y.o.mono ?_;rintro _ a ⟨rfl,rfl⟩;go_wp2_with fail
    refine bodyPost_ret (v:=.agg #[.int .i64 1,.int .i64 (c:Int),.int .i64 E,.int .i64 F,.slice none 0 0,.slice none 0 0]) ?_ rfl (.ok k.o ⟨rfl,c7.o⟩);simp[results,results148,go_sem,e8,e9,f0,f1,f2,f3]
   ·have q:(([4]:List Int).take 1).contains b=false:=by
     cases hh:(([4]:List Int).take 1).contains b with
     |false=>rfl
     |true=>exact absurd (by simpa using hh) j
    rw[q] at z;have k:=Hd (show cJ m.d.sigs s true x=.error 85 by rw[f.o];unfold aU;rw[if_neg (show¬dg true b=true from λh=>j (by simpa [dg] using h))];rfl);have y:=Hd (ei 85 zD a);clear j D q G M f;go_wp2_with fail
    go_at_call 184;refine z.o.mono ?_;rintro _ a ⟨rfl,rfl⟩;go_wp2_with fail
    go_at_call 35;refine y.o.mono ?_;rintro _ a ⟨rfl,rfl⟩;exact⟨rfl,.no k.o a2.o⟩
end
section
open Go Go.RowKit Go.Proofs.Tryz
def SlY{α:Type}(Y:Nat->Prop)(T:TypeId)(R:α->List Value->Prop)(w:World)(f:Nat)(l:List α)(v:Value):Prop:=
 ∃d e,v=.slice d l.length e/\l.length<=e/\∀c,(g:c<l.length)->∃a o b,d=some ⟨a,o,none⟩/\Y a/\Tag w a T/\b.length=f/\Cells w a (o+c*f) b/\(∀v,v∈b->v.oneCell'=true)/\R l[c] b
theorem SlY.slT{α:Type}{Y:Nat->Prop}{T:TypeId}{R c:α->List Value->Prop}{w:World}{e:Nat}{l:List α}{v:Value}(h:SlY Y T R w e l v)(m:∀b,b∈l->∀a,R b a->c b a):SlT T c w e l v:=by
 obtain⟨f,i,t,p,r⟩:=h;refine⟨f,i,t,p,λu d=>?_⟩;obtain⟨g,o,a,ha,x,s,q,k,j,n⟩:=r u d;exact⟨g,o,a,ha,s,q,k,j,m _ (an d) _ n⟩
theorem SlY.turn{α:Type}{X Y Y':Nat->Prop}{T:TypeId}{R g:α->List Value->Prop}{w p:World}{e:Nat}{l:List α}{v:Value}(h:SlY Y T R w e l v)(A:Chg X w p)(y:∀b,Tag w b T->Y b->¬X b/\Y' b)(u:∀f,f∈l->∀c,R f c->g f c):SlY Y' T g p e l v:=by
 obtain⟨q,r,E,z,C⟩:=h;refine⟨q,r,E,z,λn k=>?_⟩;obtain⟨b,o,c,ha,F,d,B,t,s,x⟩:=C n k;have i:=y b d F;have j:=A.block b d.lt i.1;exact⟨b,o,c,ha,i.2,d.of_eq j,B,λm G D=>(ek (a:=⟨b,o+n*e+m,none⟩) j).trans (t m G D),s,u _ (an k) _ x⟩
theorem SlY.nil{α:Type}{Y:Nat->Prop}{T:TypeId}{R:α->List Value->Prop}{w:World}{b:Nat}:SlY Y T R w b [] (.slice none 0 0):=⟨none,0,rfl,ac _,λc a=>absurd a zS⟩
theorem SlY.oneCell{α:Type}{Y:Nat->Prop}{T:TypeId}{R:α->List Value->Prop}{w:World}{a:Nat}{l:List α}{v:Value}(h:SlY Y T R w a l v):v.oneCell'=true:=by
 obtain⟨b,c,rfl,_,_⟩:=h;rfl
theorem SlY.form{α:Type}{Y:Nat->Prop}{T:TypeId}{R:α->List Value->Prop}{w:World}{d:Nat}{l:List α}{v:Value}(h:SlY Y T R w d l v):∃a b,v=.slice a l.length b:=by
 obtain⟨a,b,c,_,_⟩:=h;exact⟨a,b,c⟩
def RE9(Y:Nat->Prop)(w:World):DE->List Value->Prop
 |.mk op wd v sig hi lo n l,cs=>∃d e,cs=[.int .i64 op,.int .i64 wd,.int .u64 v,.int .i64 sig,.int .i64 hi,.int .i64 lo,.int .i64 n,.slice d l.length e]/\l.length<=e/\
   ∀c,(f:c<l.length)->∃a o b,d=some ⟨a,o,none⟩/\Y a/\Tag w a 60/\b.length=8/\Cells w a (o+c*8) b/\(∀v,v∈b->v.oneCell'=true)/\RE9 Y w l[c] b
termination_by x=>SizeOf.sizeOf x
decreasing_by
 have:=List.sizeOf_lt_of_mem (an f);simp only[DE.mk.sizeOf_spec];omega
theorem RE9_iff{Y:Nat->Prop}{w:World}{x:DE}{f:List Value}:
 RE9 Y w x f↔∃v,f=[.int .i64 x.op,.int .i64 x.w,.int .u64 x.v,.int .i64 x.sig,.int .i64 x.hi,.int .i64 x.lo,.int .i64 x.n,v]/\SlY Y 60 (RE9 Y w) w 8 x.l v:=by
 obtain⟨op,g,v,sig,hi,lo,n,l⟩:=x;rw[RE9];constructor
 ·rintro⟨a,b,c,d,e⟩;exact⟨_,c,a,b,rfl,d,e⟩
 ·rintro⟨_,c,a,b,rfl,d,e⟩;exact⟨a,b,c,d,e⟩
theorem RE9.re8{Y:Nat->Prop}{w:World}(x:DE):∀a,RE9 Y w x a->RE8 w x a:=by
 induction x using DE.ind with
 |h x ih=>
  intro a b;obtain⟨v,rfl,c⟩:=RE9_iff.1 b;exact RE8_iff.2 ⟨v,rfl,c.slT ih⟩
theorem RE9.turn{X Y Y':Nat->Prop}{w c:World}(f:Chg X w c)(e:∀a,Tag w a 60->Y a->¬X a/\Y' a)(x:DE):∀b,RE9 Y w x b->RE9 Y' c x b:=by
 induction x using DE.ind with
 |h x ih=>
  intro b d;obtain⟨v,rfl,g⟩:=RE9_iff.1 d;exact RE9_iff.2 ⟨v,rfl,g.turn f e ih⟩
theorem RE9.ext{Y:Nat->Prop}{w b:World}(c:Ext w b){x:DE}{a:List Value}(h:RE9 Y w x a):RE9 Y b x a:=
 RE9.turn (c.chg (X:=λ_=>False)) (λe _ d=>⟨id,d⟩) x a h
theorem RE9.imp{Y Y':Nat->Prop}{w:World}(c:∀a,a<w.heap.size->Y a->Y' a){x:DE}{b:List Value}(h:RE9 Y w x b):RE9 Y' w x b:=
 RE9.turn (bg (λ_=>False) w) (λa d e=>⟨id,c a d.lt e⟩) x b h
theorem RE9.leaf{Y:Nat->Prop}{w:World}(op a v sig hi lo n:Int):RE9 Y w (.mk op a v sig hi lo n []) [.int .i64 op,.int .i64 a,.int .u64 v,.int .i64 sig,.int .i64 hi,.int .i64 lo,.int .i64 n,.slice none 0 0]:=
 RE9_iff.2 ⟨_,rfl,SlY.nil⟩
theorem RE9.one{Y:Nat->Prop}{w:World}{x:DE}{a:List Value}(h:RE9 Y w x a):∀b,b∈a->b.oneCell'=true:=(RE9.re8 x a h).one
theorem RE9.len{Y:Nat->Prop}{w:World}{x:DE}{a:List Value}(h:RE9 Y w x a):a.length=8:=(RE9.re8 x a h).len
structure OwnE(N:Nat)(l:List DE)(v:Value)(w:World):Prop where
 ex:∃xs,w.ownsRow N 60 8 v l.length xs/\Fl (RE9 (λb=>N<=b/\v.ownBlock≠some b) w) 8 l xs
theorem OwnE.none_{a:Nat}{w:World}:OwnE a [] (.slice none 0 0) w:=⟨[],World.ownsRow_nil _ _ _ _,Fl.nil⟩
theorem OwnE.ownL{a:Nat}{l:List DE}{v:Value}{w:World}(h:OwnE a l v w):OwnL (RE9 (λb=>a<=b/\v.ownBlock≠some b) w) a 60 8 l v w:=⟨h.ex⟩
theorem OwnE.later{a:Nat}{l:List DE}{v:Value}{w c:World}(h:OwnE a l v w)(b:Ext w c):OwnE a l v c:=by
 obtain⟨g,d,e⟩:=(h.ownL.later b).ex;exact⟨g,d,e.imp λx i f=>f.ext b⟩
theorem OwnE.form{a:Nat}{l:List DE}{v:Value}{w:World}(h:OwnE a l v w):∃b c,v=.slice b l.length c:=h.ownL.form
theorem OwnE.lt{b:Nat}{l:List DE}{v:Value}{w:World}(h:OwnE b l v w):∀a,v.ownBlock=some a->b<=a/\a<w.heap.size:=h.ownL.lt
theorem OwnE.slY{a:Nat}{l:List DE}{v:Value}{w:World}(h:OwnE a l v w):SlY (λb=>a<=b) 60 (RE9 (λb=>a<=b) w) w 8 l v:=by
 have p:=h.lt;obtain⟨d,e,c,m,r⟩:=h.ownL.slT zD;refine⟨d,e,c,m,λt q=>?_⟩;obtain⟨b,o,f,ha,s,n,i,g,j⟩:=r t q;refine⟨b,o,f,ha,(p b ?_).1,s,n,i,g,j.imp λb _ k=>k.1⟩;rw[c,ha];rfl
theorem OwnE.chg{c:Nat}{X:Nat->Prop}{l:List DE}{v:Value}{w j:World}(h:OwnE c l v w)(i:Chg X w j)(g:∀a,X a->a<c):OwnE c l v j:=by
 obtain⟨y,f,r⟩:=h.ex;refine⟨y,?_,r.imp λx m=>RE9.turn i (λa _ s=>⟨λd=>absurd (g a d) zO,s⟩) x m⟩;refine⟨f.1,?_⟩;rcases f.2 with t|⟨b,k,n,o,p,e,q⟩
 ·exact .inl t
 ·have u:b<w.heap.size:=(y7n.1 e).1;exact .inr ⟨b,k,n,o,p,(i.block b u (λd=>absurd (g b d) zO)).trans e,q⟩
theorem nr{P:Program}{w:World}{ops:Array Oper}{D:List Oper}{o:Oper}{a:Act}{Q:Exit->Act->World->Prop}(M:o.guard=none)(s x:Operand)(t:TypeId)
 (S:o.op=.call {callee:=.builtin .append,args:=#[s,x],argTypes:=#[t,t]})
 (d:Nat) (z:Value) (bytes:Nat) (hi:(P.info? 60).map (λr=>(r.zero,r.size,r.bytes))=some (some z,8,bytes)) (ht:P.underlying t=some (.slice 60))
 (a0:z.cells.size=8) (n:bytes<=1000)
 (l:List DE) (F:DE) (v:Value) (V:a.eval s=v) (C:OwnE d l v w)
 (B:Nat) (y:Nat) (j:List Value) (q:a.eval x=.slice (some ⟨B,0,none⟩) 1 y) (U:Blk w B 60 j) (c:RE9 (λb=>d<=b/\v.ownBlock≠some b) w F j)
 (R:l.length<=1000000000) (I:d<=w.heap.size)
 (h:∀i g,OwnE d (l++[F]) i g->w.grownBy g v.ownBlock->(∀m,v.ownBlock=some m->d<=m)->wpList P ops Q D (a.put o.dst i) g):wpList P ops Q (o::D) a w:=by
 obtain⟨E,G,H⟩:=C.ex;obtain⟨a3,X,Z,Y,W⟩:=info_parts hi;have L:Flat w 8 (some ⟨B,0,none⟩) 1 j:=⟨by rw[c.len],λu p=>c.one u p,λ_=>⟨B,0,rfl,λa1 u p=>by
  have:=U.cells a1 u p;simpa using this⟩⟩
 have O:=C.lt;refine gu M s x t S d _ a3 z 8 bytes ht X Z Y W a0 zD n v l.length E V G (some ⟨B,0,none⟩) 1 y j q L R zD I ?_;intro i g T f K;have J:Chg (λb=>v.ownBlock=some b) w g:=⟨f.os,f.tape,f.output,f.size,λa2 N q=>f.block a2 N λe=>q e.symm⟩;have A:∀x k,RE9 (λb=>d<=b/\v.ownBlock≠some b) w x k->RE9 (λb=>d<=b/\i.ownBlock≠some b) g x k:=λx k=>
  RE9.turn J (λb n c=>⟨c.2,c.1,λe=>by
   rcases K b e with h|h
   ·exact c.2 h
   ·have:=n.lt;omega⟩) x k
 exact h i g ⟨E++j,by rw[List.length_append];exact T,(H.imp A).append (Fl.one_ c.len c.one (A _ _ c))⟩ f λm f=>(O m f).1
end
section
open Go Go.RowKit Go.Proofs.Tryz
attribute [local go_sem] bc
def fg(a:List DE)(n:Int):List (Rs (DE×Int))->Rs (List DE×Int)
 |[]=>.ok (a,n)
 |r::rs=>do
  let y<-r
  fg (a++[y.1]) (min (n+y.2) 65537) rs
theorem yC(a:List (Rs (DE×Int))):∀b n,fg b n a=(do let z<-cF a n;return(b++z.1,z.2)):=by
 induction a with
 |nil=>intro b n;simp[fg,cF,bind,Except.bind,pure,Except.pure]
 |cons r a ih=>
  intro b n;cases r with
  |error e=>rfl
  |ok y=>
   simp only[fg,cF,bind,Except.bind,pure,Except.pure];rw[ih];cases cF a (min (n+y.2) 65537) with
   |error e=>rfl
   |ok z=>simp[bind,Except.bind,pure,Except.pure]
theorem lf:(Tryz.prog.info? 60).map (λi=>(i.zero,i.size,i.bytes))=some (some (.agg #[.int .i64 0,.int .i64 0,.int .u64 0,.int .i64 0,.int .i64 0,.int .i64 0,.int .i64 0,.slice none 0 0]),8,80):=by kernel_rfl
def ct(w:World)(a:DE×Int)(v:Value)(c:World):Prop:=∃b,v=.agg (b++[.int .i64 a.2]).toArray/\RE9 (λd=>w.heap.size<=d) c a.1 b/\Ext w c/\0<=a.2/\a.2<=65537
theorem lT(C:World)(B:Nat)(f1 f2:Value)(j:X->Rs (DE×Int))(op g v sig hi lo n:Int)(l:List X)(f0:Value)(w:World)(i3:Sl (RX C B) C B 6 l f0)(o1:B<=C.heap.size)(j2:Ext C w)(p0:l.length<=1000000000)
 (e0:∀x,x∈l->∀(A:World) (M:List Value),Ext w A->RX C B x M->bv Tryz.prog 150 #[f1,f2,.agg M.toArray] A (j x) (ct A) (Ext A)):
 bv Tryz.prog 189 #[f1,f2,.agg #[.int .i64 op,.int .i64 g,.int .u64 v,.int .i64 sig,.int .i64 hi,.int .i64 lo,.int .i64 n,.slice none 0 0],f0] w (do let z<-cF (l.map j) 1;return(DE.mk op g v sig hi lo n z.1,z.2)) (ct w) (Ext w):=by
 have f7:=Hd e0;obtain⟨m0,m2,rfl,o7,e4⟩:=i3;have g8:=Hd e4;obtain⟨c,d2,e7,a4⟩:=de w (.int .i64 op) (.int .i64 g) (.int .u64 v) (.int .i64 sig) (.int .i64 hi) (.int .i64 lo) (.int .i64 n) (.slice none 0 0) 60;obtain⟨h,d3,b3,a5⟩:=bM c (.int .i64 0) (.int .i64 0) (.int .u64 0) (.int .i64 0) (.int .i64 0) (.int .i64 0) (.int .i64 0) (.slice none 0 0) (.int .i64 0) 203;have i4:=d2.symm;have i5:=d3.symm;have h4:=Hd (e7.trans b3);have c0:=Hd (a4.ext b3);have c1:=Hd a5;have i7:w.heap.size<c.heap.size:=a4.lt;have i8:c.heap.size<h.heap.size:=a5.lt;have c5:=Hd (show(do let z<-cF (l.map j) 1;return(DE.mk op g v sig hi lo n z.1,z.2):Rs (DE×Int))=(do let z<-fg [] 1 (l.map j);return(DE.mk op g v sig hi lo n z.1,z.2)) by
  rw[yC];cases cF (l.map j) 1 with
  |error e=>rfl
  |ok z=>simp[bind,Except.bind,pure,Except.pure])
 rw[c5.o];obtain⟨J,i⟩:∃J,J=fg [] 1 (l.map j):=⟨_,rfl⟩;rw[<-i];have a2:=Hd (aq (OwnE.none_:OwnE h.heap.size [] (.slice none 0 0) h) (show J=fg [] 1 ((l.map j).drop 0) by rw[List.drop_zero];exact i));clear i c5 d2 d3 e7 b3 a4 a5 e4 e0;go_enter func189,ntmps189;go_wp2_with fail
 clear i4 i5
 go_loopw [9,15] (λk3 b5 wr=>∃(P:Nat) (d:List DE) (z:Int) (b7:Value),P<=l.length/\b5=.int .i64 P/\k3=.int .i64 z/\1<=z/\z<=65537/\Ext w wr/\h.heap.size<=wr.heap.size/\d.length=P/\
  Blk wr w.heap.size 60 [.int .i64 op,.int .i64 g,.int .u64 v,.int .i64 sig,.int .i64 hi,.int .i64 lo,.int .i64 n,b7]/\
  Blk wr c.heap.size 203 [.int .i64 0,.int .i64 0,.int .u64 0,.int .i64 0,.int .i64 0,.int .i64 0,.int .i64 0,.slice none 0 0,.int .i64 0]/\OwnE h.heap.size d b7 wr/\J=fg d z ((l.map j).drop P)) (λ_ b5 _=>l.length - (intOf b5).toNat)
 case atStart=>exact⟨0,[],1,_,aA _,rfl,rfl,zD,zD,h4.o,ac _,rfl,c0.o,c1.o,a2.o.1,a2.o.2⟩
 case round=>
  obtain⟨P,d,z,b7,o9,rfl,rfl,p4,j3,Z,b2,rfl,V,F,Y,i⟩:=hrel;clear a2 c0 c1;have a1:=Hd Z;have R:=Hd Y;have c2:=Hd V;have f9:=Hd F;obtain⟨s,t,rfl⟩:=Y.form;by_cases a8:d.length<l.length
  ·rw[List.drop_eq_getElem_cons (by rw[List.length_map];exact a8),List.getElem_map] at i;have f8:=Hd (λ(A:World) (M:List Value) (T:Ext w A) (c9:RX C B l[d.length] M)=>f7.o l[d.length] (an a8) A M T c9);obtain⟨f,o,l3,l4,e9,l5,l6,l7,rfl,o6,d1,d0,q3,q4,q5,q6,q7,q8⟩:=g8.o.open6 a8;obtain⟨h5,h6,h7,h8,h9,i0⟩:=(d0.ext (j2.trans Z)).get6;generalize l[d.length]=x at*;have g7:=Hd d1;have S:=Hd i;obtain⟨l9,c7,i6,e8,p2,k4,k5,k6,k7,k8,k9⟩:=cA wr l3 l4 e9 l5 l6 l7 40;have u:=Hd (e8.trans c7.ext);clear d0 d1 i Z Y V F;go_wp2_with fail
   go_at_call 150;refine(f8.o c7.w _ (a1.o.trans u.o) g7.o).mono ?_;rintro e m (⟨b,r7,b0,rfl,m1,rfl,b1,H,i9,j0⟩|⟨m3,b0,rfl,H⟩);rotate_left
   ·exact⟨rfl,.no (by rw[S.o,fg,b0];rfl) ((a1.o.trans u.o).trans H)⟩
   obtain⟨r8,rfl,e5⟩:=RE9_iff.1 b1;obtain⟨b8,b9,rfl⟩:=e5.form;obtain⟨h3,D,o2,b4,p3,q9,r0,r1,r2,r3,r4,r5,r6,l0⟩:=jb m (.int .i64 b.1.op) (.int .i64 b.1.w) (.int .u64 b.1.v) (.int .i64 b.1.sig) (.int .i64 b.1.hi) (.int .i64 b.1.lo) (.int .i64 b.1.n) (.slice b8 b.1.l.length b9) (.int .i64 b.2) 203;have c6:=Hd ((u.o.trans H).trans (b4.trans D.ext));obtain⟨K,d4,O,d5⟩:=de D.w (.int .i64 b.1.op) (.int .i64 b.1.w) (.int .u64 b.1.v) (.int .i64 b.1.sig) (.int .i64 b.1.hi) (.int .i64 b.1.lo) (.int .i64 b.1.n) (.slice b8 b.1.l.length b9) 60;have o3:=d4.symm;have I:=Hd (c6.o.trans O);have f3:=Hd d5
   have h2:=Hd (show RE9 (λf=>h.heap.size<=f/\(Value.slice s d.length t).ownBlock≠some f) K b.1 [.int .i64 b.1.op,.int .i64 b.1.w,.int .u64 b.1.v,.int .i64 b.1.sig,.int .i64 b.1.hi,.int .i64 b.1.lo,.int .i64 b.1.n,.slice b8 b.1.l.length b9] from
    (b1.imp (λf _ r=>⟨ad (ad b2 u.o.size) r,λe=>by
      have T:=(R.o.lt f e).2;have c9:=u.o.size;omega⟩)).ext (b4.trans (D.ext.trans O)))
   have g1:=Hd (R.o.later I.o);have c3:=Hd (c2.o.ext I.o);have c4:=Hd (f9.o.ext I.o);have l1:=(c2.o.ext c6.o).cell 7;simp only[List.getElem?_cons_succ,List.getElem?_cons_zero] at l1;have g9:=Hd O;have g4:=Hd (ad b2 (ad u.o.size H.size));have g5:=Hd (ad u.o.size H.size);have g6:=Hd ((Ext.chg (X:=λ_=>False) O).cell (l0 D) id);have g0:=Hd (aq i9 j0);have d8:h.heap.size<=K.heap.size:=ad b2 I.o.size;clear d4 O d5 b1 e5 H b4 e8 i6 h5 h6 h7 h8 h9 i0 k4 k5 k6 k7 k8 k9;obtain⟨c8,o8⟩:∃c8,c8=m.heap.size:=⟨_,rfl⟩
   go_wp2_with (first
    |(at_builtin;go_loud (
      refine nr rfl _ _ 58 rfl h.heap.size _ 80 lf underlying58 rfl zD d b.1 (.slice s d.length t) rfl g1.o D.w.heap.size 1 _ rfl f3.o h2.o zO d8 ?_;intro e9 Q a9 y a6;obtain⟨a3,b6,e6⟩:=a9.form;rw[show(d++[b.1]).length=d.length+1 from by simp] at e6;subst e6;have a7:∀E,E<h.heap.size->some E≠(Value.slice s d.length t).ownBlock:=λE e1 e=>absurd (a6 E e.symm) zO
      have W:Blk Q w.heap.size 60 [.int .i64 op,.int .i64 g,.int .u64 v,.int .i64 sig,.int .i64 hi,.int .i64 lo,.int .i64 n,.slice s d.length t]:=(y.block _ c3.o.lt (a7 _ zO)).trans c3.o;have d7:=(y.block _ c4.o.lt (a7 _ i8)).trans c4.o;obtain⟨q,U⟩:∃q,q=Q.setCell ⟨w.heap.size,7,none⟩ (.slice a3 (d.length+1) b6):=⟨_,rfl⟩;have o4:=U.symm;have l2:=W.cell 7;have i1:=W.frozen 7;simp only[List.getElem?_cons_succ,List.getElem?_cons_zero] at l2;have G:Chg (λf=>f=w.heap.size) Q q:=by rw[U];exact dk (X:=λf=>f=w.heap.size) (bg _ Q) (p:=⟨w.heap.size,7,none⟩) rfl _
      have f4:=Hd (show Blk q w.heap.size 60 [.int .i64 op,.int .i64 g,.int .u64 v,.int .i64 sig,.int .i64 hi,.int .i64 lo,.int .i64 n,.slice a3 (d.length+1) b6] by rw[U];simpa using W.set_ 7 (.slice a3 (d.length+1) b6));have f5:=Hd (G.blk d7 zO);have g3:=Hd (a9.chg G (λf r=>by omega));have h0:=Hd (show Ext w q from by
       have T:Chg (λf=>w.heap.size<=f) w Q:=((a1.o.trans I.o).chg).trans ((Chg.grown (bg (λf=>h.heap.size<=f) K) y (λE e1 _=>a6 E e1)).mono (λf _ r=>by omega));exact(T.trans (G.mono (λf _ r=>by omega))).ext (af w) (λf r=>r))
      have j1:h.heap.size<=q.heap.size:=ad d8 (ad y.size G.size);have e2:∀a0:Nat,q.cell? ⟨m.heap.size,a0,none⟩=K.cell? ⟨m.heap.size,a0,none⟩:=λa0=>by
       have e3:m.heap.size<K.heap.size:=aQ (by omega:m.heap.size<h3.heap.size) (ad D.ext.size g9.o.size);have p1:h.heap.size<=m.heap.size:=g4.o;exact ek (a:=⟨m.heap.size,a0,none⟩) ((G.block _ (aQ e3 y.size) zO).trans (y.block _ e3 (λe=>absurd (R.o.lt _ e.symm).2 (by have:=g5.o;omega))))
      have u8:q.cell? ⟨m.heap.size,8,none⟩=some (.int .i64 b.2):=(e2 8).trans g6.o
      clear a9 y a6 a7 W d7 U G e2)))
   have l8:=g0.o;go_roundw;case rel=>
    refine⟨d.length+1,d++[b.1],min (z+b.2) 65537,_,zO,zN,rfl,zO,zO,h0.o,j1,zS,f4.o,f5.o,g3.o,?_⟩;rw[S.o,fg,b0];rfl
   case measure=>simp[intOf];omega
  ·have d9:(l.map j).drop d.length=[]:=by rw[List.drop_eq_nil_iff,List.length_map];omega
   rw[d9] at i;have S:=Hd (show(do let z<-J;return(DE.mk op g v sig hi lo n z.1,z.2):Rs (DE×Int))=.ok (DE.mk op g v sig hi lo n d,z) by rw[i];rfl);obtain⟨p5,p6,p7,p8,p9,q0,q1,q2⟩:=V.get8;obtain⟨n2,n3,n4,n5,n6,n7,n8,n9,o0⟩:=F.get9;obtain⟨m4,m5,m6,m7,m8,m9,n0,i1,n1⟩:=F.free9;obtain⟨L,N⟩:∃L,L=((((((((wr.setCell ⟨c.heap.size,0,none⟩ (.int .i64 op)).setCell ⟨c.heap.size,1,none⟩ (.int .i64 g)).setCell ⟨c.heap.size,2,none⟩ (.int .u64 v)).setCell ⟨c.heap.size,3,none⟩ (.int .i64 sig)).setCell ⟨c.heap.size,4,none⟩ (.int .i64 hi)).setCell ⟨c.heap.size,5,none⟩ (.int .i64 lo)).setCell ⟨c.heap.size,6,none⟩ (.int .i64 n)).setCell ⟨c.heap.size,7,none⟩ (.slice s d.length t)).setCell ⟨c.heap.size,8,none⟩ (.int .i64 z):=⟨_,rfl⟩;have o5:=N.symm;have d6:Blk L c.heap.size 203 [.int .i64 op,.int .i64 g,.int .u64 v,.int .i64 sig,.int .i64 hi,.int .i64 lo,.int .i64 n,.slice s d.length t,.int .i64 z]:=by rw[N];exact F.store9 _ _ _ _ _ _ _ _ _
   have k:w.heap.size<=c.heap.size:=Nat.le_of_lt i7;have h1:=Hd (show Ext w L by rw[N];exact((((((((Z.setCell k _).setCell k _).setCell k _).setCell k _).setCell k _).setCell k _).setCell k _).setCell k _).setCell k _);have f6:=Hd (show Chg (λf=>f=c.heap.size) wr L by
    rw[N];exact((((((((dk (X:=λf=>f=c.heap.size) (bg _ wr) (p:=⟨c.heap.size,0,none⟩) rfl _).setCell (p:=⟨c.heap.size,1,none⟩) rfl _).setCell (p:=⟨c.heap.size,2,none⟩) rfl _).setCell (p:=⟨c.heap.size,3,none⟩) rfl _).setCell (p:=⟨c.heap.size,4,none⟩) rfl _).setCell (p:=⟨c.heap.size,5,none⟩) rfl _).setCell (p:=⟨c.heap.size,6,none⟩) rfl _).setCell (p:=⟨c.heap.size,7,none⟩) rfl _).setCell (p:=⟨c.heap.size,8,none⟩) rfl _)
   have g2:=Hd (R.o.chg f6.o (λf r=>by omega));obtain⟨j4,j5,j6,j7,j8,j9,k0,k1,k2⟩:=d6.get9;clear N d6 V F Y d9 i;go_wp2_with fail
   refine bodyPost_ret (v:=.agg #[.int .i64 op,.int .i64 g,.int .u64 v,.int .i64 sig,.int .i64 hi,.int .i64 lo,.int .i64 n,.slice s d.length t,.int .i64 z]) ?_ rfl (.ok S.o ⟨[.int .i64 op,.int .i64 g,.int .u64 v,.int .i64 sig,.int .i64 hi,.int .i64 lo,.int .i64 n,.slice s d.length t],rfl,?_,h1.o,zO,j3⟩)
   ·simp[results,results189,go_sem,j4,j5,j6,j7,j8,j9,k0,k1,k2]
   ·have i2:=g2.o.slY;exact RE9.imp (λf _ r=>by omega) (RE9_iff.2 ⟨_,rfl,i2⟩)
theorem rH(g:Nat)(n:Int)(u:FrameMode)(w:World)(h:w.cell? ⟨g,8,none⟩=some (.int .i64 n))(d:n<=65536):
 CallsD Tryz.prog 187 #[.pointer (some ⟨g,0,none⟩)] u w λe b c=>b=u/\e=.returned aO/\c=w:=by
 have a:=Hd (dZ 2 w)
 go_enter_d func187,ntmps187
 go_wp2_with fail
 go_at_call 35;refine a.o.mono ?_;rintro _ w ⟨rfl,rfl⟩;go_wp2_with fail
 go_end0
 exact⟨rfl,rfl⟩
theorem vV(g:Nat)(n:Int)(u:FrameMode)(w:World)(h:w.cell? ⟨g,8,none⟩=some (.int .i64 n))(d:¬n<=65536):
 CallsD Tryz.prog 187 #[.pointer (some ⟨g,0,none⟩)] u w λe b c=>b=u/\e=.panicked (aR 2)/\c=w:=by
 have a:=Hd (ei 2 zD w)
 go_enter_d func187,ntmps187
 go_wp2_with fail
 go_at_call 35;refine a.o.mono ?_;rintro _ w ⟨rfl,rfl⟩;exact⟨rfl,rfl,rfl⟩
theorem fK{R:Ending->World->Prop}{tmps:Array Value}{g:Nat}{h i j k l m o p:Value}{n:Int}{w:World}(q:tmps[6]? =some (.pointer (some ⟨g,0,none⟩)))
 (d:Blk w g 203 [h,i,j,k,l,m,o,p,.int .i64 n]) (s:n<=65536->R (.returned (.agg #[h,i,j,k,l,m,o,p,.int .i64 n])) w) (r:¬n<=65536->R (.panicked (aR 2)) w):
 Leaves Tryz.prog Tryz.f150 tmps R [{target:=.fn (.func 187) #[.pointer (some ⟨g,0,none⟩)],args:=#[]}] .returning w:=by
 refine leaves_cons (f:=187) (args:=#[.pointer (some ⟨g,0,none⟩)]) zS (by simp[go_sem]) ?_;have c:w.cell? ⟨g,8,none⟩=some (.int .i64 n):=by
  have:=d.cell 8;simpa using this
 obtain⟨t,u,v,x,y,z,A,B,C⟩:=d.get9;by_cases a:n<=65536
 ·refine(rH g n .returning w c a).mono ?_;rintro e D E ⟨rfl,rfl,rfl⟩;have b:=s a;simp[Leaves,settle,results,results150,go_sem,q,t,u,v,x,y,z,A,B,C,b]
 ·refine(vV g n .returning w c a).mono ?_;rintro e D E ⟨rfl,rfl,rfl⟩;have b:=r a;simp[Leaves,settle,raised,aR,results,results150,go_sem] at b⊢;exact b
theorem fA{R:Ending->World->Prop}{tmps:Array Value}{g:Nat}{n a:Int}{w:World}
 (c:w.cell? ⟨g,8,none⟩=some (.int .i64 n)) (d:n<=65536) (b:R (.panicked (aR a)) w):
 Leaves Tryz.prog Tryz.f150 tmps R [{target:=.fn (.func 187) #[.pointer (some ⟨g,0,none⟩)],args:=#[]}] (.panicking (aR a)) w:=by
 refine leaves_cons (f:=187) (args:=#[.pointer (some ⟨g,0,none⟩)]) zS (by simp[go_sem]) ?_;refine(rH g n _ w c d).mono ?_;rintro e h i ⟨rfl,rfl,rfl⟩;simp[Leaves,settle,aR,go_sem] at b⊢;exact b
theorem xu(y:World)(B:Nat)(C D:Value)(q:List Sg)(s:Sc)(x:X)(i:List Value)(w:World)(m:RX y B x i)(f:x.op=1):
 bv Tryz.prog 150 #[C,D,.agg i.toArray] w (aC q s x) (ct w) (Ext w):=by
 obtain⟨E,rfl,j⟩:=RX_iff.1 m;have a8:=j.oneCell;have t:=Hd (show aC q s x=.ok (bR x.w x.v,1) by rw[dI];unfold dn;rw[if_pos f]);obtain⟨a,k,g,p⟩:=aV w (.int .i64 1) (.string x.name) (.int .i64 x.n) (.int .i64 x.w) (.int .u64 x.v) E 40;obtain⟨z,l,h,e⟩:=bM a (.int .i64 0) (.int .i64 0) (.int .u64 0) (.int .i64 0) (.int .i64 0) (.int .i64 0) (.int .i64 0) (.slice none 0 0) (.int .i64 0) 203;have a4:=k.symm;have a5:=l.symm;have b:w.heap.size<=a.heap.size:=g.size;obtain⟨F,G,H,I,J,K⟩:=(p.ext h).get6;obtain⟨U,V,W,Y,Z,a0,a1,a2,a3⟩:=e.get9;obtain⟨L,M,N,O,P,Q,R,S,T⟩:=e.free9;obtain⟨c,d⟩:∃c,c=((((((((z.setCell ⟨a.heap.size,0,none⟩ (.int .i64 1)).setCell ⟨a.heap.size,1,none⟩ (.int .i64 x.w)).setCell ⟨a.heap.size,2,none⟩ (.int .u64 x.v)).setCell ⟨a.heap.size,3,none⟩ (.int .i64 0)).setCell ⟨a.heap.size,4,none⟩ (.int .i64 0)).setCell ⟨a.heap.size,5,none⟩ (.int .i64 0)).setCell ⟨a.heap.size,6,none⟩ (.int .i64 0)).setCell ⟨a.heap.size,7,none⟩ (.slice none 0 0)).setCell ⟨a.heap.size,8,none⟩ (.int .i64 1):=⟨_,rfl⟩;have a6:=d.symm;have r:=Hd (show Blk c a.heap.size 203 [.int .i64 1,.int .i64 x.w,.int .u64 x.v,.int .i64 0,.int .i64 0,.int .i64 0,.int .i64 0,.slice none 0 0,.int .i64 1] by rw[d];exact e.store9 _ _ _ _ _ _ _ _ _);have u:=Hd (show Ext w c by rw[d];exact(((((((((g.trans h).setCell b _).setCell b _).setCell b _).setCell b _).setCell b _).setCell b _).setCell b _).setCell b _).setCell b _);clear k l d g h p e j m;have a7:=@hmf_ Tryz.prog;rw[f];clear f
 go_enter_defers func150,ntmps150
 go_wp2_with fail
 refine fK rfl r.o (λ_=>?_) (λA=>absurd zD A);exact .ok t.o ⟨[.int .i64 1,.int .i64 x.w,.int .u64 x.v,.int .i64 0,.int .i64 0,.int .i64 0,.int .i64 0,.slice none 0 0],rfl,RE9.leaf _ _ _ _ _ _ _,u.o,(show(0:Int)<=1 by decide),(show(1:Int)<=65537 by decide)⟩
theorem xx(t:World)(B N0 mb sb mp:Nat)(Y b6 Z U V:Value)(m:Mk)(s:Sc)(x:X)(I:List Value)(w:World)(P:Cx t B w)(y:XOk t B x I)(h:MkI w N0 mb Y b6 Z U m)(S:ScI w sb mp V s)(R:Good m.d.sigs s)(j:x.op=3)(b5:0<x.l.length):
 bv Tryz.prog 150 #[.pointer (some ⟨mb,0,none⟩),.pointer (some ⟨sb,0,none⟩),.agg I.toArray] w (aC m.d.sigs s x) (ct w) (Ext w):=by
 have a3:=Hd P;have a9:=Hd y;have a5:=Hd h;have a8:=Hd S;have a4:=Hd R;obtain⟨b7,rfl,K⟩:=RX_iff.1 y.rx;have e4:=K.oneCell;have F:=Hd (show aC m.d.sigs s x=(do let D<-bS m.d.sigs s x;return(fk D,1)) by rw[dI];unfold dn;rw[if_neg zO,if_neg zO,if_pos j]);obtain⟨a,L,A,N⟩:=aV w (.int .i64 3) (.string x.name) (.int .i64 x.n) (.int .i64 x.w) (.int .u64 x.v) b7 40;obtain⟨H,M,C,O⟩:=bM a (.int .i64 0) (.int .i64 0) (.int .u64 0) (.int .i64 0) (.int .i64 0) (.int .i64 0) (.int .i64 0) (.slice none 0 0) (.int .i64 0) 203;have b3:=L.symm;have b:w.heap.size<=a.heap.size:=A.size;obtain⟨b8,b9,c0,c1,c2,c3⟩:=(N.ext C).later6;obtain⟨J,Q⟩:=ae (W:=H) (w:=H) (af _);have b4:=M.symm.trans Q;have u:=Hd (A.trans C);have E:=Hd O;have G:=Hd (λ(a0:World) (z:Ext w a0)=>lW t B N0 mb sb mp Y _ Z U V m s x _ a0 (a3.o.later z) a9.o (a5.o.ext z) (a8.o.ext z) a4.o (λ_=>b5));rw[j] at G;clear Q L M A C N O K y h S R P;have e3:=@hmf_ Tryz.prog;rw[j];clear j
 go_enter_defers func150,ntmps150
 go_wp2_with fail
 go_at_call 183;refine(G.o _ (u.o.trans (ag _))).mono ?_;rintro e a1 (⟨D,v,k,rfl,rfl,c⟩|⟨b1,k,rfl,c⟩);rotate_left
 ·have b2:=(E.o.ext ((ag J).trans c)).cell 8;have a6:=Hd (show RunsP (aC m.d.sigs s x) (ct w) (Ext w) (.panicked (aR b1)) a1 from .no (by rw[F.o,k];rfl) ((u.o.trans (ag _)).trans c));exact fA (by simpa using b2) zD a6.o
 obtain⟨p,q,r⟩:=D;have a7:=Hd (show aC m.d.sigs s x=.ok (fk (p,q,r),1) by rw[F.o,k];rfl);have i:=E.o.ext ((ag J).trans c);have T:=(u.o.trans (ag _)).trans c;obtain⟨d3,d4,d5,d6,d7,d8,d9,e0,e1⟩:=i.get9;obtain⟨c4,c5,c6,c7,c8,c9,d0,d1,d2⟩:=i.free9;obtain⟨f,g⟩:∃f,f=((((((((a1.setCell ⟨a.heap.size,0,none⟩ (.int .i64 2)).setCell ⟨a.heap.size,1,none⟩ (.int .i64 0)).setCell ⟨a.heap.size,2,none⟩ (.int .u64 0)).setCell ⟨a.heap.size,3,none⟩ (.int .i64 p)).setCell ⟨a.heap.size,4,none⟩ (.int .i64 q)).setCell ⟨a.heap.size,5,none⟩ (.int .i64 r)).setCell ⟨a.heap.size,6,none⟩ (.int .i64 0)).setCell ⟨a.heap.size,7,none⟩ (.slice none 0 0)).setCell ⟨a.heap.size,8,none⟩ (.int .i64 1):=⟨_,rfl⟩;have e2:=g.symm;have a2:=Hd (show Blk f a.heap.size 203 [.int .i64 2,.int .i64 0,.int .u64 0,.int .i64 p,.int .i64 q,.int .i64 r,.int .i64 0,.slice none 0 0,.int .i64 1] by rw[g];exact i.store9 _ _ _ _ _ _ _ _ _);have b0:=Hd (show Ext w f by rw[g];exact((((((((T.setCell b _).setCell b _).setCell b _).setCell b _).setCell b _).setCell b _).setCell b _).setCell b _).setCell b _);clear c T i g k b3 b4;go_wp2_with fail
 refine fK rfl a2.o (λ_=>?_) (λh=>absurd zD h);exact .ok a7.o ⟨[.int .i64 2,.int .i64 0,.int .u64 0,.int .i64 p,.int .i64 q,.int .i64 r,.int .i64 0,.slice none 0 0],rfl,RE9.leaf _ _ _ _ _ _ _,b0.o,(show(0:Int)<=1 by decide),(show(1:Int)<=65537 by decide)⟩
theorem vW{env:List (ByteArray×Int)}{s:ByteArray}{z:Int}:bF env s=some z->∃b,b∈env/\b.2=z:=by
 refine wR (P:=λenv=>bF env s=some z->∃b,b∈env/\b.2=z) (λa=>by cases a) (λl c f a=>?_) env;rw[ol] at a;split at a
 ·injection a with a;exact⟨c,y8e.2 (.inr (y8d.2 rfl)),a⟩
 ·obtain⟨b,d,e⟩:=f a;exact⟨b,y8e.2 (.inl d),e⟩
theorem xw(a5:World)(B N0 mb sb mp:Nat)(d0 h7 d1 c9 J:Value)(m:Mk)(s:Sc)(x:X)(b5:List Value)(w:World)(c2:Cx a5 B w)(a6:XOk a5 B x b5)(h:MkI w N0 mb d0 h7 d1 c9 m)(O:ScI w sb mp J s)(L:Good m.d.sigs s)(C:x.op=2):
 bv Tryz.prog 150 #[.pointer (some ⟨mb,0,none⟩),.pointer (some ⟨sb,0,none⟩),.agg b5.toArray] w (aC m.d.sigs s x) (ct w) (Ext w):=by
 have d4:=Hd c2;have d8:=Hd a6;have d6:=Hd h;have b2:=Hd O;have d5:=Hd L;have g2:=L.env;obtain⟨h8,rfl,b7⟩:=RX_iff.1 a6.rx;have j3:=b7.oneCell;have y:=Hd (show aC m.d.sigs s x=(match bF s.env x.name with|some v=>.ok (bR 0 v,1)|none=>(do let b1<-bS m.d.sigs s x;return(fk b1,1))) by rw[dI];unfold dn;rw[if_neg zO,if_pos C];cases bF s.env x.name<;>rfl);obtain⟨a,b8,G,c0⟩:=aV w (.int .i64 2) (.string x.name) (.int .i64 x.n) (.int .i64 x.w) (.int .u64 x.v) h8 40;obtain⟨K,b9,H,c1⟩:=bM a (.int .i64 0) (.int .i64 0) (.int .u64 0) (.int .i64 0) (.int .i64 0) (.int .i64 0) (.int .i64 0) (.slice none 0 0) (.int .i64 0) 203;have i8:=b8.symm;have b:w.heap.size<=a.heap.size:=G.size;obtain⟨i0,i1,i2,i3,i4,i5⟩:=(c0.ext H).later6;obtain⟨e0,c4⟩:=ae (W:=K) (w:=K) (af _);have i9:=b9.symm.trans c4;have z:=Hd (G.trans H);have h9:=cellAt ((G.trans H).at_ (h.blk.cell 0));have j6:∀e:Later K,e.w.cell? ⟨sb,0,none⟩=some J:=cellAt ((G.trans H).at_ (O.blk.cell 0));have j4:=O.env.oneCell;have a1:=Hd c1;have b4:=Hd (λ(q:World) (D:Ext w q)=>AZ q.heap.size s.env x.name q J ((SlT.keep b2.o.env (.inr (.inr rfl)) D.kp (λ_ _ _ h=>h)).sl) (ac _) zO);have b3:=Hd (λ(q:World) (D:Ext w q)=>lW a5 B N0 mb sb mp d0 _ d1 c9 J m s x _ q (d4.o.later D) d8.o (d6.o.ext D) (b2.o.ext D) d5.o (λg3=>absurd C g3));rw[C] at b3;obtain⟨f,M⟩:∃f,f=bF s.env x.name:=⟨_,rfl⟩;rw[<-M] at b4 y;have M:∀g,f=some g->0<=g/\g<=9223372036854775807:=λg c8=>by
  obtain⟨g5,a8,g4⟩:=vW (M.symm.trans c8);have b6:=L.const g5 a8;rw[g4] at b6;unfold bU at b6;omega
 clear c4 b8 b9 G H c0 c1 b7 a6 h O L c2 g2;have j0:=@hmf_ Tryz.prog;rw[C];clear C h9
 go_enter_defers func150,ntmps150
 go_wp2_with fail
 refine bD 12 (W:=K) (Ext) (eqG [.pointer (some ⟨sb,0,none⟩),.pointer (some ⟨sb,0,none⟩),.pointer (some ⟨sb,0,none⟩),J,.pointer (some ⟨w.heap.size,1,none⟩),.string x.name,.tuple #[.int .i64 (f.getD 0),.bool f.isSome],.tuple #[.int .i64 (f.getD 0),.bool f.isSome],.int .i64 (f.getD 0),.bool f.isSome,.int .i64 (f.getD 0),.bool f.isSome]) (λ_ _=>False) (λ_=>true) zK (bo) zK zK ?_ (ag e0) (λj2 v w q h E=>dz h E) ?_ (λr i6 w c a8=>a8.elim) ?_
 ·exact⟨rfl,rfl,rfl,rfl,rfl,rfl,rfl,rfl,rfl,rfl,rfl,rfl,trivial⟩
 ·refine⟨?_,?_,?_,?_,?_,?_,?_,?_,?_,?_,?_,?_,trivial⟩;rotate_left 6
  ·intro r d3 I c A;obtain⟨j,rfl⟩:=ae I;have g9:=ab c 3 39 zK rfl;simp[eqG] at g9;have h1:=ab c 5 41 zK rfl;simp[eqG] at h1;clear c A;go_simp;refine(b4.o j.w (z.o.trans j.ext)).mono ?_;rintro _ j5 ⟨rfl,E⟩;go_simp;first|exact⟨_,rfl,E,rfl⟩|exact⟨E,rfl⟩|exact⟨E,_,rfl,rfl⟩|exact⟨_,rfl,rfl⟩
  all_goals
   intro r d3 I c A;obtain⟨j,rfl⟩:=ae I;try (have g6:=ab c 0 36 zD rfl;simp[eqG] at g6)
   try (have g7:=ab c 1 37 zD rfl;simp[eqG] at g7)
   try (have g8:=ab c 2 38 zD rfl;simp[eqG] at g8)
   try (have h0:=ab c 4 40 zD rfl;simp[eqG] at h0)
   try (have h2:=ab c 6 42 zD rfl;simp[eqG] at h2)
   try (have h3:=ab c 7 35 zD rfl;simp[eqG] at h3)
   try (have h4:=ab c 8 43 zD rfl;simp[eqG] at h4)
   try (have h5:=ab c 9 44 zD rfl;simp[eqG] at h5)
   have u:=ah A 1 zK;simp at u;have h6:=ah A 5 zK;simp at h6;clear c A;exact zA
 ·intro r d3 g1;obtain⟨I,c7,c3,a7,p⟩:=g1;obtain⟨j,rfl⟩:=ae I;have P:=ah p 0 zK;simp at P;have Q:=ah p 1 zK;simp at Q;have U:=ah p 2 zK;simp at U;have V:=ah p 5 zK;simp at V;have Y:=ah p 6 zK;simp at Y;have R:=ah p 14 zK;simp at R;have S:=ah p 15 zK;simp at S;have T:=ah p 16 zK;simp at T;have a9:r.tmps.getD 7 undef=.int .i64 (f.getD 0):=a7 10 7 rfl rfl;have b0:r.tmps.getD 8 undef=.bool f.isSome:=a7 11 8 rfl rfl;clear a7 p;rw[ey c7 c3];obtain⟨i7,c6,c5⟩:=tmpsF r;simp only[c6,c5] at P Q U V Y R S T a9 b0⊢;simp only[List.drop_succ_cons,List.drop_zero];simp[List.range,List.range.loop,P,Q,U,V,Y,R,S,T,a9,b0];clear P Q U V Y R S T a9 b0 c7 c3;clear c6 c5;cases f with
  |none=>
   simp only[Option.getD_none,Option.isSome_none] at*;go_wp2_with fail
   go_at_call 183;refine(b3.o _ (z.o.trans (ag _))).mono ?_;rintro e d2 (⟨b1,v,N,rfl,rfl,t⟩|⟨d9,N,rfl,t⟩);rotate_left
   ·have f9:=(a1.o.ext ((ag j).trans t)).cell 8;have d7:=Hd (show RunsP (aC m.d.sigs s x) (ct w) (Ext w) (.panicked (aR d9)) d2 from .no (by rw[y.o,N];rfl) ((z.o.trans (ag _)).trans t));exact fA (by simpa using f9) zD d7.o
   obtain⟨u,Z,a0⟩:=b1;have a3:=Hd (show aC m.d.sigs s x=.ok (fk (u,Z,a0),1) by rw[y.o,N];rfl);have l:=a1.o.ext ((ag j).trans t);have F:=(z.o.trans (ag _)).trans t;obtain⟨f0,f1,f2,f3,f4,f5,f6,f7,f8⟩:=l.get9;obtain⟨e1,e2,e3,e4,e5,e6,e7,e8,e9⟩:=l.free9;obtain⟨i,k⟩:∃i,i=((((((((d2.setCell ⟨a.heap.size,0,none⟩ (.int .i64 2)).setCell ⟨a.heap.size,1,none⟩ (.int .i64 0)).setCell ⟨a.heap.size,2,none⟩ (.int .u64 0)).setCell ⟨a.heap.size,3,none⟩ (.int .i64 u)).setCell ⟨a.heap.size,4,none⟩ (.int .i64 Z)).setCell ⟨a.heap.size,5,none⟩ (.int .i64 a0)).setCell ⟨a.heap.size,6,none⟩ (.int .i64 0)).setCell ⟨a.heap.size,7,none⟩ (.slice none 0 0)).setCell ⟨a.heap.size,8,none⟩ (.int .i64 1):=⟨_,rfl⟩;have g0:=k.symm;have a2:=Hd (show Blk i a.heap.size 203 [.int .i64 2,.int .i64 0,.int .u64 0,.int .i64 u,.int .i64 Z,.int .i64 a0,.int .i64 0,.slice none 0 0,.int .i64 1] by rw[k];exact l.store9 _ _ _ _ _ _ _ _ _);have a4:=Hd (show Ext w i by rw[k];exact((((((((F.setCell b _).setCell b _).setCell b _).setCell b _).setCell b _).setCell b _).setCell b _).setCell b _).setCell b _);clear t F l k N;go_wp2_with fail
   refine fK rfl a2.o (λ_=>?_) (λh=>absurd zD h);exact .ok a3.o ⟨[.int .i64 2,.int .i64 0,.int .u64 0,.int .i64 u,.int .i64 Z,.int .i64 a0,.int .i64 0,.slice none 0 0],rfl,RE9.leaf _ _ _ _ _ _ _,a4.o,(show(0:Int)<=1 by decide),(show(1:Int)<=65537 by decide)⟩
  |some g=>
   simp only[Option.getD_some,Option.isSome_some] at*;have c8:=M g rfl;have l:=a1.o.ext (ag j);have F:=z.o.trans (ag j);have a3:=Hd (show aC m.d.sigs s x=.ok (bR 0 g,1) from y.o);obtain⟨f0,f1,f2,f3,f4,f5,f6,f7,f8⟩:=l.get9;obtain⟨e1,e2,e3,e4,e5,e6,e7,e8,e9⟩:=l.free9;obtain⟨i,k⟩:∃i,i=((((((((j.w.setCell ⟨a.heap.size,0,none⟩ (.int .i64 1)).setCell ⟨a.heap.size,1,none⟩ (.int .i64 0)).setCell ⟨a.heap.size,2,none⟩ (.int .u64 g)).setCell ⟨a.heap.size,3,none⟩ (.int .i64 0)).setCell ⟨a.heap.size,4,none⟩ (.int .i64 0)).setCell ⟨a.heap.size,5,none⟩ (.int .i64 0)).setCell ⟨a.heap.size,6,none⟩ (.int .i64 0)).setCell ⟨a.heap.size,7,none⟩ (.slice none 0 0)).setCell ⟨a.heap.size,8,none⟩ (.int .i64 1):=⟨_,rfl⟩;have g0:=k.symm;have a2:=Hd (show Blk i a.heap.size 203 [.int .i64 1,.int .i64 0,.int .u64 g,.int .i64 0,.int .i64 0,.int .i64 0,.int .i64 0,.slice none 0 0,.int .i64 1] by rw[k];exact l.store9 _ _ _ _ _ _ _ _ _);have a4:=Hd (show Ext w i by rw[k];exact((((((((F.setCell b _).setCell b _).setCell b _).setCell b _).setCell b _).setCell b _).setCell b _).setCell b _).setCell b _);clear F l k y;have j1:g<=18446744073709551615:=by omega
   go_wp2_with fail
   refine fK rfl a2.o (λ_=>?_) (λh=>absurd zD h);exact .ok a3.o ⟨[.int .i64 1,.int .i64 0,.int .u64 g,.int .i64 0,.int .i64 0,.int .i64 0,.int .i64 0,.slice none 0 0],rfl,RE9.leaf _ _ _ _ _ _ _,a4.o,(show(0:Int)<=1 by decide),(show(1:Int)<=65537 by decide)⟩
def cr(g h j:Nat)(c:Rs Int)(f:Int->Value)(k:Int->Rs (DE×Int))(W:World)(vals:List Value)(i:Nat)(v:Value)(w:World):Prop:=
 if i=g then∃a,c=.ok a/\v=.int .i64 a
 else if i=h then∃a,c=.ok a/\v=f a
 else if i=j then∃a b d,c=.ok a/\k a=.ok b/\v=.agg (d++[.int .i64 b.2]).toArray/\RE9 (λe=>W.heap.size<=e) w b.1 d/\0<=b.2/\b.2<=65537
 else v=vals.getD i undef
theorem qs{a b c:Nat}{e:Rs Int}{f:Int->Value}{d:Int->Rs (DE×Int)}{W:World}{vals:List Value}{i:Nat}{v:Value}{w g:World}(h:cr a b c e f d W vals i v w)(q:Ext w g):cr a b c e f d W vals i v g:=by
 unfold cr at h⊢;split
 ·rename_i hi;rw[if_pos hi] at h;exact h
 ·rename_i hi
  rw[if_neg hi] at h;split
  ·rename_i hi;rw[if_pos hi] at h;exact h
  ·rename_i hi
   rw[if_neg hi] at h;split
   ·rename_i hi
    rw[if_pos hi] at h;obtain⟨j,r,k,l,m,n,o,p⟩:=h;exact⟨j,r,k,l,m,n,o.ext q,p⟩
   ·rename_i hi;rw[if_neg hi] at h;exact h
def expP(e:Rs Int)(d:Int->Rs (DE×Int))(W:World)(c:List PanicEntry)(w:World):Prop:=∃b,(do let a<-e;d a)=.error b/\c=aR b/\Ext W w
theorem jM{a:DE×Int}(h:a.2<=65536):df a=.ok a:=by unfold df;rw[if_pos h]
theorem jZ{a:DE×Int}(h:¬a.2<=65536):df a=.error 2:=by unfold df;rw[if_neg h]
theorem xy(P:World)(B N0 mb sb mp:Nat)(h3 h5 h4 h2 e5:Value)(m:Mk)(s:Sc)(x:X)(A:List Value)(w:World)(d1:Cx P B w)(c8:XOk P B x A)(h:MkI w N0 mb h3 h5 h4 h2 m)(e1:ScI w sb mp e5 s)(a7:x.op=4)(d5:x.l.length<=1000000000)
 (d4:∀i,i∈x.l->∀(q:World) (A:List Value),Ext w q->RX P B i A->bv Tryz.prog 150 #[.pointer (some ⟨mb,0,none⟩),.pointer (some ⟨sb,0,none⟩),.agg A.toArray] q (aC m.d.sigs s i) (ct q) (Ext q)):
 bv Tryz.prog 150 #[.pointer (some ⟨mb,0,none⟩),.pointer (some ⟨sb,0,none⟩),.agg A.toArray] w (aC m.d.sigs s x) (ct w) (Ext w):=by
 have b9:=Hd d1;have f1:=Hd e1;have e9:=Hd d4;obtain⟨b4,rfl,a3⟩:=RX_iff.1 c8.rx;have e7:=Hd a3;have l0:=a3.oneCell;obtain⟨H,a9⟩:∃H,H=dt s x.name:=⟨_,rfl⟩;obtain⟨U,a4⟩:∃U,U=aC m.d.sigs s:=⟨_,rfl⟩;obtain⟨G,a8⟩:∃G:Int->Rs (DE×Int),G=λf=>(do let z<-cF (x.l.map U) 1;return(DE.mk 3 0 0 f 0 0 0 z.1,z.2)):=⟨_,rfl⟩
 have V:=Hd (show aC m.d.sigs s x=(do let i<-(do let f<-H;G f);df i) by
  rw[dI,a8,a9,a4];unfold dn;rw[if_neg zO,if_neg zO,if_neg zO,if_pos a7];cases dt s x.name with
  |error e=>rfl
  |ok f=>
   simp only[bind,Except.bind,pure,Except.pure];cases cF (x.l.map (aC m.d.sigs s)) 1<;>rfl)
 obtain⟨b,c6,b0,c9⟩:=aV w (.int .i64 4) (.string x.name) (.int .i64 x.n) (.int .i64 x.w) (.int .u64 x.v) b4 40;obtain⟨D,c7,b1,d0⟩:=bM b (.int .i64 0) (.int .i64 0) (.int .u64 0) (.int .i64 0) (.int .i64 0) (.int .i64 0) (.int .i64 0) (.slice none 0 0) (.int .i64 0) 203;have k5:=c6.symm;have u:w.heap.size<=b.heap.size:=b0.size;obtain⟨h8,h9,i0,i1,i2,i3⟩:=(c9.ext b1).later6;obtain⟨f3,d3⟩:=ae (W:=D) (w:=D) (af _);have k6:=c7.symm.trans d3;have J:=Hd (b0.trans b1);have b8:=Hd d0;have c3:=Hd (λ(q:World) (Q:Ext w q)=>rE sb mp e5 s x.name q (f1.o.ext Q));have c4:=Hd (λ(f:Int) (q:World) (Q:Ext w q)=>lT P B (.pointer (some ⟨mb,0,none⟩)) (.pointer (some ⟨sb,0,none⟩)) (aC m.d.sigs s) 3 0 0 f 0 0 0 x.l b4 q e7.o b9.o.hB (b9.o.ext.trans Q) d5 (λi b2 h6 A f4 f5=>e9.o i b2 h6 A (Q.trans f4) f5));rw[<-a4] at c4;rw[<-a9] at c3;have c5:=Hd (λ(f:Int)=>congrFun a8 f);clear d3 c6 c7 b0 b1 c9 d0 a3 c8 h e1 d1 d5 d4 a9 a4 a8;have k8:=@hmf_ Tryz.prog;rw[a7];clear a7
 go_enter_defers func150,ntmps150
 go_wp2_with fail
 refine bD 10 (W:=D) (Ext) (cr 5 6 9 H (λf=>.agg #[.int .i64 3,.int .i64 0,.int .u64 0,.int .i64 f,.int .i64 0,.int .i64 0,.int .i64 0,.slice none 0 0]) G D [.pointer (some ⟨mb,0,none⟩),.pointer (some ⟨sb,0,none⟩),.pointer (some ⟨sb,0,none⟩),.pointer (some ⟨w.heap.size,1,none⟩),.string x.name,undef,undef,.pointer (some ⟨w.heap.size,5,none⟩),b4,undef]) (expP H G D) (λ_=>true) zK (bo) zK zK ?_ (ag f3) (λk9 v w q h R=>qs h R) ?_ (λC i4 h7 c f8=>by
  obtain⟨j,k,rfl,R⟩:=f8;obtain⟨l1,i5⟩:=C;simp only at c;subst c;have f6:=(b8.o.ext R).cell 8;have f0:=Hd (show RunsP (aC m.d.sigs s x) (ct w) (Ext w) (.panicked (aR j)) h7 from .no (by rw[V.o,k];rfl) (J.o.trans R));exact fA (by simpa using f6) zD f0.o) ?_
 ·exact⟨rfl,rfl,rfl,rfl,rfl,rfl,rfl,rfl,rfl,rfl,trivial⟩
 ·refine⟨?_,?_,?_,?_,?_,?_,?_,?_,?_,?_,trivial⟩;rotate_left 5
  ·intro C T y c r;obtain⟨g,rfl⟩:=ae y;have g1:=ab c 2 65 zK rfl;simp[cr] at g1;have g3:=ab c 4 67 zK rfl;simp[cr] at g3;clear c r;go_simp;refine(c3.o g.w (J.o.trans g.ext)).mono ?_;rintro e e6 (⟨f,h1,k,rfl,rfl,rfl⟩|⟨j,k,rfl,rfl⟩);rotate_left
   ·exact⟨rfl,j,by rw[k];rfl,rfl,g.ext⟩
   have Y:=Hd k;clear k;go_simp;first|exact⟨_,rfl,af _,f,Y.o,rfl⟩|exact⟨af _,f,Y.o,rfl⟩|exact⟨_,rfl,f,Y.o,rfl⟩
  ·intro C T y c r;obtain⟨g,rfl⟩:=ae y;obtain⟨a2,d8,g4⟩:=ab c 5 68 zK rfl;simp at g4;have a0:=Hd d8;clear d8;clear c r;go_simp;first|exact⟨_,rfl,af _,a2,a0.o,rfl⟩|exact⟨af _,a2,a0.o,rfl⟩|exact⟨_,rfl,a2,a0.o,rfl⟩
  rotate_left 2
  ·intro C T y c r;obtain⟨g,rfl⟩:=ae y;have f9:=ab c 0 63 zK rfl;simp[cr] at f9;have g0:=ab c 1 64 zK rfl;simp[cr] at g0;obtain⟨E,d9,g5⟩:=ab c 6 69 zK rfl;simp at g5;have O:=Hd d9;clear d9;have g7:=ab c 8 71 zK rfl;simp[cr] at g7;clear c r;go_simp;refine(c4.o E g.w (J.o.trans g.ext)).mono ?_;rintro e e6 (⟨i,h1,k,rfl,j,rfl,F,S,M,N⟩|⟨j,k,rfl,S⟩);rotate_left
   ·exact⟨rfl,j,by rw[O.o];exact(c5.o E).trans k,rfl,g.ext.trans S⟩
   have a1:=Hd (aq (F.imp (λt _ a5=>ad g.ext.size a5):RE9 (λt=>D.heap.size<=t) e6 i.1 j) (aq M N));have Z:=Hd ((c5.o E).trans k);clear F k M N;go_simp;first|exact⟨_,rfl,S,E,i,j,O.o,Z.o,rfl,a1.o⟩|exact⟨S,E,i,j,O.o,Z.o,rfl,a1.o⟩|exact⟨_,rfl,E,i,j,O.o,Z.o,rfl,a1.o⟩
  all_goals
   intro C T y c r;obtain⟨g,rfl⟩:=ae y;try (have g2:=ab c 3 66 zD rfl;simp[cr] at g2)
   try (have g6:=ab c 7 70 zD rfl;simp[cr] at g6)
   have g8:=ah r 0 zK;simp at g8;have g9:=ah r 1 zK;simp at g9;have h0:=ah r 5 zK;simp at h0;clear c r;exact zA
 ·intro C T f7;obtain⟨i6,rfl,y,d2,e0⟩:=f7.fin (n:=133) rfl;obtain⟨g,rfl⟩:=ae y;have b3:=e0 6 zK;obtain⟨f,i,j,d6,d7,e4,F,M,N⟩:=d2 9 72 rfl rfl;clear d2 e0;simp at b3;simp only[List.drop_succ_cons,List.drop_zero];simp[List.range,List.range.loop,b3,e4];clear b3 e4;obtain⟨l2,rfl,e2⟩:=RE9_iff.1 F;obtain⟨b6,b7,rfl⟩:=e2.form;obtain⟨a,b5⟩:=i;have L:=b8.o.ext (ag g);have e3:=J.o.trans (ag g);have c1:=Hd (show(do let f<-H;G f)=.ok (a,b5) from(by rw[d6];exact d7));obtain⟨j6,j7,j8,j9,k0,k1,k2,k3,k4⟩:=L.get9;obtain⟨i7,i8,i9,j0,j1,j2,j3,j4,j5⟩:=L.free9;obtain⟨I,K⟩:∃I,I=((((((((g.w.setCell ⟨b.heap.size,0,none⟩ (.int .i64 a.op)).setCell ⟨b.heap.size,1,none⟩ (.int .i64 a.w)).setCell ⟨b.heap.size,2,none⟩ (.int .u64 a.v)).setCell ⟨b.heap.size,3,none⟩ (.int .i64 a.sig)).setCell ⟨b.heap.size,4,none⟩ (.int .i64 a.hi)).setCell ⟨b.heap.size,5,none⟩ (.int .i64 a.lo)).setCell ⟨b.heap.size,6,none⟩ (.int .i64 a.n)).setCell ⟨b.heap.size,7,none⟩ (.slice b6 a.l.length b7)).setCell ⟨b.heap.size,8,none⟩ (.int .i64 b5):=⟨_,rfl⟩;have k7:=K.symm;have e8:=Hd (show Blk I b.heap.size 203 [.int .i64 a.op,.int .i64 a.w,.int .u64 a.v,.int .i64 a.sig,.int .i64 a.hi,.int .i64 a.lo,.int .i64 a.n,.slice b6 a.l.length b7,.int .i64 b5] by rw[K];exact L.store9 _ _ _ _ _ _ _ _ _);have c2:=Hd (show Ext w I by rw[K];exact((((((((e3.setCell u _).setCell u _).setCell u _).setCell u _).setCell u _).setCell u _).setCell u _).setCell u _).setCell u _);have f2:=Hd (show RE9 (λt=>w.heap.size<=t) I a [.int .i64 a.op,.int .i64 a.w,.int .u64 a.v,.int .i64 a.sig,.int .i64 a.hi,.int .i64 a.lo,.int .i64 a.n,.slice b6 a.l.length b7] by
   rw[K];refine RE9.turn (X:=λt=>t=b.heap.size) ?_ (λt a5 b2=>⟨λe=>?_,ad J.o.size b2⟩) a _ F
   ·exact((((((((dk (X:=λt=>t=b.heap.size) (bg _ g.w) (p:=⟨b.heap.size,0,none⟩) rfl _).setCell (p:=⟨b.heap.size,1,none⟩) rfl _).setCell (p:=⟨b.heap.size,2,none⟩) rfl _).setCell (p:=⟨b.heap.size,3,none⟩) rfl _).setCell (p:=⟨b.heap.size,4,none⟩) rfl _).setCell (p:=⟨b.heap.size,5,none⟩) rfl _).setCell (p:=⟨b.heap.size,6,none⟩) rfl _).setCell (p:=⟨b.heap.size,7,none⟩) rfl _).setCell (p:=⟨b.heap.size,8,none⟩) rfl _
   ·exact absurd (a5.one (e▸L.tag)) zD)
  have c0:=Hd (aq M N);clear L e3 K F e2 d6 d7 M N;go_wp2_with fail
  refine fK rfl e8.o (λa6=>?_) (λa6=>?_)
  ·exact .ok (by rw[V.o,c1.o];exact jM a6) ⟨_,rfl,f2.o,c2.o,c0.o.1,c0.o.2⟩
  ·exact .no (by rw[V.o,c1.o];exact jZ a6) c2.o
end
