import Derived.Test.YtlfmlodanoolhaaGreatDoorV40
import Derived.Test.YtlfmlodanoolhaaGreatDoorV41
set_option linter.all false
set_option maxRecDepth 200000
set_option maxHeartbeats 0
namespace Go.Proofs.YtlfmlodanoolhaaGreatDoor
open Go Go.RowKit Go.Proofs.Tryz
attribute [local go_sem] bc
def WhJ(b:Rs (DE×Mk))(N0 mb:Nat)(e g f d:Value)(m:Mk)(W:World)(u:Value)(w:World):Prop:=
 ∃a,b=.ok a/\SlE9 (λc=>W.heap.size<=c) w [a.1] u/\MkI w N0 mb e g f d a.2/\FrS mb W w/\CntM m a.2
def TJ(c:Rs (DT×Mk))(N0 mb:Nat)(f h g e:Value)(m:Mk)(W:World)(u:Value)(w:World):Prop:=
 ∃a b,c=.ok a/\u=.agg b.toArray/\RT9 (λd=>W.heap.size<=d) w a.1 b/\MkI w N0 mb f h g e a.2/\FrS mb W w/\CntM m a.2
theorem TJ.ext{b:Rs (DT×Mk)}{N0 mb:Nat}{d f e c:Value}{m:Mk}{W:World}{u:Value}{w g:World}(h:TJ b N0 mb d f e c m W u w)(a:Ext w g):TJ b N0 mb d f e c m W u g:=by
 obtain⟨q,i,j,k,l,n,o,p⟩:=h;exact⟨q,i,j,k,l.ext a,n.ext a,o.trans a.chg,p⟩
def ZK(W:World)(u:Value)(w:World):Prop:=∃a,u=.slice (some ⟨a,0,none⟩) 1 1/\W.heap.size<=a/\Blk w a 73 zT
structure CsI(w0:World)(N N0 mb sb gm gs gx gt gk gr:Nat)(vf vs vp vc:Value)(clk:Bool)(x:S)(v2 v3:Value)(op:Int)(e:DE)(vE:Value)(m:Mk)(acc:List DT)(m':Mk)(v5:Value)(w:World):Prop where
 fr:FrS mb w0 w
 mk_:MkI w N0 mb vf vs vp vc m'
 cn:CntM m m'
 bm:Blk w gm 97 [.pointer (some ⟨mb,0,none⟩)]
 bs:Blk w gs 100 [.pointer (some ⟨sb,0,none⟩)]
 bx:Blk w gx 177 [.int .i64 x.op,.string x.name,v2,v3]
 bk:Blk w gk 4 [.bool clk]
 br:Blk w gr 73 [.int .i64 0,.int .i64 0,.int .i64 0,.int .i64 0,.slice none 0 0,.slice none 0 0]
 bt:Blk w gt 73 [.int .i64 op,.int .i64 0,.int .i64 0,.int .i64 0,vE,v5]
 own:OwnT N acc v5 w
 se:SlE9 (λb=>w0.heap.size<=b/\b<N) w [e] vE
 sz:N<=w.heap.size
theorem CsI.frS{w0 w r:World}{i N0 mb sb d gs g f gk gr:Nat}{o q p n v y A z:Value}{t:Bool}{x:S}{op:Int}{e:DE}{m u l:Mk}{s:List DT}(h:CsI w0 i N0 mb sb d gs g f gk gr o q p n t x v y op e A m s u z w)(b:FrS mb w r)(D:MkI r N0 mb o q p n l)(B:CntM u l)(F:mb<w0.heap.size)(k:∀a,a=d\/a=gs\/a=g\/a=f\/a=gk\/a=gr->w0.heap.size<=a)(h0:w0.heap.size<=i):CsI w0 i N0 mb sb d gs g f gk gr o q p n t x v y op e A m s l z r:=by
 have c:∀a,a=d\/a=gs\/a=g\/a=f\/a=gk\/a=gr->¬a=mb:=λa C e=>by have:=k a C;omega
 exact⟨h.fr.trans b,D,h.cn.trans B,b.blk h.bm (c _ zS),b.blk h.bs (c _ zS),b.blk h.bx (c _ zS),b.blk h.bk (c _ zS),b.blk h.br (c _ zS),b.blk h.bt (c _ zS),
  h.own.chg b (λj k=>by have:j=mb:=k;omega),SlE9.turn h.se b (λj _ E=>⟨λe=>by have:j=mb:=e;omega,E⟩),ad h.sz b.size⟩
theorem CsI.more{w0 w j:World}{d N0 mb sb g gs i c gk gr:Nat}{p r q o y z n H l:Value}{t:Bool}{x:S}{op:Int}{e:DE}{m v:Mk}{B s:List DT}(A:MkI w0 N0 mb p r q o m)(h:CsI w0 d N0 mb sb g gs i c gk gr p r q o t x y z op e n m B v H w)(b:Chg (λf=>d<=f\/f=c) w j)(k:∀a,a=g\/a=gs\/a=i\/a=c\/a=gk\/a=gr->w0.heap.size<=a/\a<d)(D:∀a,a=g\/a=gs\/a=i\/a=gk\/a=gr->¬a=c)(h0:w0.heap.size<=d)(K:mb<w0.heap.size)
 (C:Blk j c 73 [.int .i64 op,.int .i64 0,.int .i64 0,.int .i64 0,n,l]) (E:OwnT d s l j):CsI w0 d N0 mb sb g gs i c gk gr p r q o t x y z op e n m s v l j:=by
 have L:=k c zS;have u:FrS mb w0 j:=h.fr.trans_new b (λf k=>by omega);have keep:∀a,(a=g\/a=gs\/a=i\/a=gk\/a=gr)->¬(d<=a\/a=c):=λa b e=>by
  have I:=k a (by rcases b with h|h|h|h|h<;>simp[h]);have J:=D a b;omega
 exact⟨u,A.back u h.mk_ b zO h.cn,h.cn,b.blk h.bm (keep _ zS),b.blk h.bs (keep _ zS),b.blk h.bx (keep _ zS),b.blk h.bk (keep _ zS),b.blk h.br (keep _ zS),C,E,
  SlE9.turn h.se b (λf F G=>⟨λe=>by
   rcases e with e|e
   ·omega
   ·exact absurd (F.one (show Tag w f _ from(show f=c from e)▸h.bt.tag)) zD,G⟩),ad h.sz b.size⟩
theorem OwnZ.chg{c:Nat}{X:Nat->Prop}{l:List DT}{g e:Nat}{w m:World}(h:OwnZ c l g e w)(k:Chg X w m)(j:∀a,X a->a<c):OwnZ c l g e m:=by
 obtain⟨A,i,t,u⟩:=h.ex;refine⟨⟨A,⟨i.1,?_⟩,t,u.imp λx o=>RT9.turn k (λa _ v=>⟨λd=>absurd (j a d) zO,v⟩) x o⟩,h.base⟩;rcases i.2 with y|⟨b,n,p,q,r,f,s⟩
 ·exact .inl y
 ·have z:b<w.heap.size:=(y7n.1 f).1;exact .inr ⟨b,n,p,q,r,(k.block b z (λd=>absurd (j b d) zO)).trans f,s⟩
theorem yW(g7:World)(B N0 mb:Nat)(Q U R P:Value)(G:Bool)(x:S)(g0:x.op=3)(v5:∀r,r∈x.x->VX r)(t9:∀r,r∈x.x->MayX r)(h2:x.x.length=1)(t4:∀r,r∈x.l->dG g7 B N0 mb Q U R P G 186 (cz G) r):dG g7 B N0 mb Q U R P G 149 (aK G) x:=by
 intro d5 w6 x1 e6 s w f1 f m5 O;have d7:=Hd f;have m6:=f.mk_.blk.lt;have K1:=f.c1;obtain⟨F4,F5,rfl,d4,m4⟩:=O;have M7:=m4.oneCell;have M5:=d4.oneCell;have q4:=Hd m4;have z4:=Hd d4;obtain⟨Y,s4,v7,l1⟩:=aL w (.pointer (some ⟨mb,0,none⟩)) 97;obtain⟨a0,s7,d4,l3⟩:=aL Y (.pointer (some ⟨d5,0,none⟩)) 100;obtain⟨a3,s8,i5,l4⟩:=bK a0 (.int .i64 x.op) (.string x.name) F4 F5 177;obtain⟨A,s9,g1,l5⟩:=aL a3 (.bool G) 4;obtain⟨d9,t0,e5,l6⟩:=aV A (.int .i64 0) (.int .i64 0) (.int .i64 0) (.int .i64 0) (.slice none 0 0) (.slice none 0 0) 73;have B3:=s4.symm;have B6:=s7.symm;have s3:=s8.symm;have B7:=s9.symm;have N2:w.heap.size<Y.heap.size:=l1.lt;have N3:Y.heap.size<a0.heap.size:=l3.lt;have N4:a0.heap.size<a3.heap.size:=l4.lt;have N5:a3.heap.size<A.heap.size:=l5.lt;have N6:A.heap.size<d9.heap.size:=l6.lt;have p7:=Hd (l1.ext (d4.trans (i5.trans (g1.trans e5))));have p8:=Hd (l3.ext (i5.trans (g1.trans e5)));have j5:=Hd (l4.ext (g1.trans e5));have p5:=Hd (l5.ext e5);have x6:=Hd l6;have k3:=Hd (v7.trans (d4.trans (i5.trans (g1.trans e5))));have j8:=Hd (f.ext k3.o);obtain⟨k5,m0⟩:=ae (W:=d9) (w:=d9) (af _);have B8:=t0.symm.trans m0;obtain⟨A6,H7,H8,H9⟩:=j5.o.later4;have M3:=cellAt (p7.o.cell 0);have M4:=cellAt (p8.o.cell 0);have L5:=cellAt (p5.o.cell 0);have z2:=Hd m0;clear m0 s4 s7 s8 s9 t0 v7 d4 i5 g1 e5 l1 l3 l4 l5 l6 f m4;have K9:1+aa al x.x+aa ao x.l<=1000000:=by rw[<-bW];omega
 have L0:s.env.length+aa ao x.l<=1000000:=by rw[bW] at m5;omega
 obtain⟨r0,r4,D6,-,-⟩:=q4.o;subst D6;obtain⟨M2,o1,rfl,K7,t8⟩:=z4.o;have i4:0<x.x.length:=by omega
 obtain⟨h0,i6,O2,C9,C4,D1,k7,D2,k9⟩:=t8 0 i4;subst C9;have z3:=Hd (XOk.of (an i4) k9 zO v5);have y8:=Hd (t9 _ (an i4));obtain⟨F6,rfl,s1⟩:=RX_iff.1 k9;simp only[Nat.zero_mul,Nat.add_zero] at k7;have g5:=Hd (show aK G x s e6=(do let a6<-aW 1 e6;let r<-aG s x.x[0] a6;let z<-bB (x.l.map λr=>cz G r s) r.2;return(.mk 3 0 0 0 [r.1] z.1,z.2)) by
  rw[fu];unfold eR;rw[if_neg zO];simp only[if_neg (show¬x.op=5 by omega),if_neg (show¬x.op=6 by omega),if_pos g0,List.map_map,dh (k:=0) i4];rfl)
 generalize x.x[0]=x0 at*;have q5:=Hd g0;have y4:=Hd t4;have y1:=Hd k7;have u0:=s1.oneCell;have K6:(0:Int)<(x.x.length:Int):=by omega
 have K8:x.l.length<=1000000:=by have:=aw ao x.l da;omega
 have G2:=Hd m5;rw[g0] at s3 A6 j5;rw[g0];clear g0 t4 t8 k9 s1 D1 C4 k7 D2 v5 t9 d4 m5 h2;have z5:=Hd (ej N0 mb Q U R P e6 1 k5.w (z2.o▸j8.o.mk_) j8.o.c0 j8.o.c1 zD zD);go_enter func149,ntmps149;go_wp2_with fail
 go_at_call 75;refine z5.o.mono ?_;rintro e d (⟨a6,c5,y,rfl,rfl,K,q⟩|⟨D,y,rfl,q⟩);rotate_left
 ·exact⟨rfl,.no (by rw[g5.o,y];rfl) ((k3.o.trans k5.ext).chg.trans q)⟩
 have m3:FrS mb d9 d:=k5.ext.chg.trans q;obtain⟨A1,t1,w0,e1⟩:=aV d (.int .i64 0) (.int .i64 0) (.int .i64 0) (.int .i64 0) (.slice none 0 0) (.slice none 0 0) 73;have C2:=t1.symm;obtain⟨G4,G5,G6,G7,G8,G9⟩:=e1.get6;obtain⟨L6,L7,L8,L9,M0,M1⟩:=e1.free6;obtain⟨H,h8⟩:∃H,H=(((((A1.setCell ⟨d.heap.size,0,none⟩ (.int .i64 5)).setCell ⟨d.heap.size,1,none⟩ (.int .i64 0)).setCell ⟨d.heap.size,2,none⟩ (.int .i64 0)).setCell ⟨d.heap.size,3,none⟩ (.int .i64 0)).setCell ⟨d.heap.size,4,none⟩ (.slice none 0 0)).setCell ⟨d.heap.size,5,none⟩ (.slice none 0 0):=⟨_,rfl⟩;have B9:=h8.symm;have l7:Blk H d.heap.size 73 [.int .i64 5,.int .i64 0,.int .i64 0,.int .i64 0,.slice none 0 0,.slice none 0 0]:=by rw[h8];exact e1.store6 _ _ _ _ _ _
 have m9:Ext d H:=by rw[h8];exact(((((w0.setCell (ac _) _).setCell (ac _) _).setCell (ac _) _).setCell (ac _) _).setCell (ac _) _).setCell (ac _) _
 have N7:d9.heap.size<=d.heap.size:=m3.size;have N8:d.heap.size<H.heap.size:=l7.lt;have c8:FrS mb d9 H:=m3.trans m9.chg;have j7:=Hd (k3.o.chg.trans c8);have j3:=Hd (c8.blk p7.o (show¬w.heap.size=mb by omega));have j4:=Hd (c8.blk p8.o (show¬Y.heap.size=mb by omega));have j6:=Hd (c8.blk j5.o (show¬a0.heap.size=mb by omega));have p6:=Hd (c8.blk p5.o (show¬a3.heap.size=mb by omega));have x7:=Hd (c8.blk x6.o (show¬A.heap.size=mb by omega));have x8:=Hd l7;have q0:=Hd (ee y zD);have z0:=Hd (K.ext m9);have j9:=Hd (d7.o.frS j7.o z0.o q0.o);have k2:=Hd y;have H0:=j3.o.cell 0;have H1:=j4.o.cell 0;have H6:=p6.o.cell 0;obtain⟨H2,H3,H4,H5⟩:=j6.o.get4;clear t1 w0 e1 h8 l7 m9 q m3 c8 K y;go_wp2_with fail
 refine eO 8 (eqS [6] [.pointer (some ⟨mb,0,none⟩),.pointer (some ⟨d5,0,none⟩),.pointer (some ⟨a0.heap.size,2,none⟩),.slice (some ⟨h0,i6,none⟩) x.x.length o1,.pointer (some ⟨h0,i6,none⟩),.agg #[.int .i64 x0.op,.string x0.name,.int .i64 x0.n,.int .i64 x0.w,.int .u64 x0.v,F6],undef,.pointer (some ⟨d.heap.size,0,none⟩)]) (phJ 6 59 (λV=>Ext H V) (WhJ (aG s x0 a6) N0 mb Q U R P a6 H)) (λf0 V=>∃D,aG s x0 a6=.error D/\f0=aR D/\FrS mb H V) zK (λ_ _ _ _ f=>f) zK zK ?_ ((af _).drew) ?_ (λa2 f0 V g m7=>by
  obtain⟨D,y,rfl,b6⟩:=m7;obtain⟨tA,B1⟩:=a2;simp only at g;subst g;exact⟨rfl,.no (by rw[g5.o,k2.o];simp only[bind,Except.bind];rw[y]) (j7.o.trans b6)⟩) ?_
 ·simp[GuardsMet]
 ·refine⟨?_,?_,?_,?_,?_,?_,?_,?_,trivial⟩;rotate_left 6
  ·refine StepI.turn rfl zK ?_;intro a2 m u g E;have i7:=ab g 0 53 zK rfl;simp[eqS] at i7;have i8:=ab g 1 54 zK rfl;simp[eqS] at i8;have j2:=ab g 5 58 zK rfl;simp[eqS] at j2;clear g E;have z8:=Hd (ir g7 B N0 mb d5 w6 Q U R P x1 a6 s x0 _ m (j9.o.ext u) z3.o y8.o);have c6:=Hd u;clear u;go_simp;refine z8.o.mono ?_;rintro e g3 (⟨h,c5,y,rfl,d3,K,q,a1⟩|⟨D,y,rfl,q⟩);rotate_left
   ·exact⟨rfl,D,y,rfl,c6.o.chg.trans q⟩
   have k1:=Hd (show WhJ (aG s x0 a6) N0 mb Q U R P a6 H c5 g3 from⟨h,y,SlE9.turn d3 (bg (λ_=>False) g3) (λb _ a5=>⟨id,ad c6.o.size a5⟩),K,c6.o.chg.trans q,a1⟩);clear y d3 K q a1;go_simp;first|exact⟨_,rfl,trivial,k1.o⟩
  all_goals
   refine StepI.plain (S:=[6]) (T:=[59]) (I:=FrS mb H) gP (hR (λ_ f=>f.chg) (λ_ _ f=>by obtain⟨h,c3,h2,k6,f2,f3⟩:=f;exact f2)) zD zD ?_;intro a2 m b1 g E;try (have i9:=ab g 2 55 zD rfl;simp[eqS] at i9)
   try (have j0:=ab g 3 56 zD rfl;simp[eqS] at j0)
   try (have j1:=ab g 4 57 zD rfl;simp[eqS] at j1)
   have p0:=ah E 9 zK;simp at p0;have o8:=ah E 4 zK;simp at o8;have o9:=ah E 5 zK;simp at o9;have E6:=ah E 6 zK;simp at E6;clear g E;have v9:Ext g7 m:=b1.ext j9.o.cx.ext (λb7 b4=>(show b7=mb from b4)▸j9.o.lo);obtain⟨A7,A8,A9,B0,I1,I2⟩:=(y1.o.ext v9).get6;have n1:=(b1.blk j3.o (show¬w.heap.size=mb by omega)).cell 0;have n2:=(b1.blk j4.o (show¬Y.heap.size=mb by omega)).cell 0;have n3:=(b1.blk j6.o (show¬a0.heap.size=mb by omega)).cell 2;try simp only[List.getElem?_cons_succ,List.getElem?_cons_zero] at n1 n2 n3
   clear b1 v9;exact zB
 ·intro a2 m b4;obtain⟨b0,rfl,e2,a4,u⟩:=b4.fin (n:=120) rfl;replace u:(WhJ (aG s x0 a6) N0 mb Q U R P a6 H) (b0 59) m:=u;have n4:=a4 4 zK;have n5:=a4 5 zK;have n7:=a4 6 zK;have n8:=a4 7 zK;have n9:=a4 8 zK;have o0:=a4 9 zK;have w1:b0 60=.pointer (some ⟨d.heap.size,0,none⟩):=e2 7 60 rfl rfl;clear e2 a4;obtain⟨a7,v0,d3,K,q,a1⟩:=u;obtain⟨L,M,v4⟩:=d3.form;have n6:b0 59=.slice L 1 M:=v4;rw[n6] at d3;clear v4;simp at n4 n5 n7 n8 n9 o0;simp only[List.drop_succ_cons,List.drop_zero];simp[List.range,List.range.loop,n4,n5,n7,n8,n9,o0,w1,n6];clear n4 n5 n7 n8 n9 o0 w1 n6;have h1:=q.blk x8.o (show¬d.heap.size=mb by omega);have F3:H.heap.size<=m.heap.size:=q.size;have x3:=h1.cell 0;have G0:=h1.frozen 0;obtain⟨g8,h9⟩:∃g8,g8=m.setCell ⟨d.heap.size,0,none⟩ (.int .i64 3):=⟨_,rfl⟩;have C0:=h9.symm;have h4:Blk g8 d.heap.size 73 [.int .i64 3,.int .i64 0,.int .i64 0,.int .i64 0,.slice none 0 0,.slice none 0 0]:=by rw[h9];simpa using h1.set_ 0 (.int .i64 3)
  have x4:=h4.cell 4;have G1:=h4.frozen 4;simp only[List.getElem?_cons_succ,List.getElem?_cons_zero] at x3 x4;obtain⟨C,i0⟩:∃C,C=g8.setCell ⟨d.heap.size,4,none⟩ (.slice L 1 M):=⟨_,rfl⟩;have C1:=i0.symm;have r3:Blk C d.heap.size 73 [.int .i64 3,.int .i64 0,.int .i64 0,.int .i64 0,.slice L 1 M,.slice none 0 0]:=by rw[i0];simpa using h4.set_ 4 (.slice L 1 M)
  have d1:Chg (λb=>b=d.heap.size) m C:=by rw[i0,h9];exact(dD _ _ _ _).trans (dD _ _ _ _)
  have m2:FrS mb w C:=(j7.o.trans q).trans_new d1 (λb t=>by have:b=d.heap.size:=t;omega);have l9:=q0.o.trans a1;have e0:∀a b8 f1,Blk H a b8 f1->¬a=mb->¬a=d.heap.size->Blk C a b8 f1:=λa b8 f1 t c3 h2=>d1.blk (q.blk t c3) h2
  have q2:=Hd (show CsI w C.heap.size N0 mb d5 w.heap.size Y.heap.size a0.heap.size d.heap.size a3.heap.size A.heap.size Q U R P G x (.slice (some ⟨h0,i6,none⟩) x.x.length o1) (.slice r0 x.l.length r4) 3 a7.1 (.slice L 1 M) e6 [] a7.2 (.slice none 0 0) C from
   ⟨m2,d7.o.mk_.back m2 K d1 (λt=>by have:mb=d.heap.size:=t;omega) l9,l9,e0 _ _ _ j3.o zO zO,e0 _ _ _ j4.o zO zO,by rw[q5.o];exact e0 _ _ _ j6.o zO zO,e0 _ _ _ p6.o zO zO,e0 _ _ _ x7.o zO zO,r3,OwnT.none_,
    SlE9.turn d3 d1 (λb t a5=>⟨λe=>by have:b=d.heap.size:=e;omega,zO,aQ t.lt d1.size⟩),ac _⟩)
  have q6:=Hd v0;have N9:H.heap.size<=C.heap.size:=ad F3 d1.size;obtain⟨x2,F7,F8,F9⟩:=q2.o.bx.get4;rw[q5.o] at x2;clear d3 K q a1 v0 h1 h9 h4 i0 r3 d1 m2 l9 e0;obtain⟨c9,i2⟩:∃c9,c9=x.l.map (λr=>cz G r s):=⟨_,rfl⟩;obtain⟨d8,O⟩:∃d8,d8=bB c9 a7.2:=⟨_,rfl⟩;have q9:=Hd (show d8=cd [] (c9.drop 0) a7.2 from by rw[List.drop_zero,jR,O]);have q7:=Hd (show d8=bB (x.l.map λr=>cz G r s) a7.2 from by rw[O,i2]);have y5:=Hd i2;have t7:c9.length=x.l.length:=by rw[i2,List.length_map]
  have i1:∀a,a=w.heap.size\/a=Y.heap.size\/a=a0.heap.size\/a=d.heap.size\/a=a3.heap.size\/a=A.heap.size->w.heap.size<=a:=λa i3=>by omega
  have f4:∀a,a=w.heap.size\/a=Y.heap.size\/a=a0.heap.size\/a=d.heap.size\/a=a3.heap.size\/a=A.heap.size->w.heap.size<=a/\a<C.heap.size:=λa i3=>by omega
  have f9:∀a,a=w.heap.size\/a=Y.heap.size\/a=a0.heap.size\/a=a3.heap.size\/a=A.heap.size->¬a=d.heap.size:=λa i3=>by omega
  have k8:w.heap.size<=C.heap.size:=by omega
  have y0:=Hd (aq i1 (aq f4 f9));clear i2 O i1 f4 f9 B3 B6 s3 B7 B8 C2 B9;go_wp2_with fail
  clear C0 C1 x2 F7 F8 F9 x3 G0 x4 G1;go_loopw [65] (λn0 wr=>∃(b7:Nat) (c:List DT) (N:Mk) (w9:Value),b7<=x.l.length/\n0=.int .i64 b7/\c.length=b7/\CsI w C.heap.size N0 mb d5 w.heap.size Y.heap.size a0.heap.size d.heap.size a3.heap.size A.heap.size Q U R P G x (.slice (some ⟨h0,i6,none⟩) x.x.length o1) (.slice r0 x.l.length r4) 3 a7.1 (.slice L 1 M) e6 c N w9 wr/\d8=cd c (c9.drop b7) N) (λn0 _=>x.l.length - (intOf n0).toNat)
  case atStart=>exact⟨0,[],a7.2,_,aA _,rfl,rfl,q2.o,q9.o⟩
  case round=>
   obtain⟨b7,c,N,w9,b4,rfl,rfl,hi,O⟩:=hrel;clear q9;have b9:=Hd hi;obtain⟨a8,a9,rfl⟩:=hi.own.form;have x9:=Hd (d7.o.frS hi.fr hi.mk_ hi.cn);have L2:=hi.sz;by_cases f8:c.length<x.l.length
   ·rw[List.drop_eq_getElem_cons (by rw[t7];exact f8),List.getElem_of_eq y5.o,List.getElem_map] at O;obtain⟨i1,f4,f9⟩:=y0.o;have L1:=ay ao x.l x.l[c.length] (an f8);obtain⟨G3,I0,C3,-,v1⟩:=q4.o.frS hi.fr;obtain⟨b,o,f1,D5,K0,J9,K2,s2,D3,l0⟩:=v1 _ f8;injection C3 with r5 r6 r7;subst r5;subst D5;obtain⟨w7,w8,rfl,r9,s0⟩:=RS_iff.1 l0;have M6:=r9.oneCell;have M8:=s0.oneCell;obtain⟨A7,A8,A9,B0⟩:=s2.get4;obtain⟨F,s5,m8,l2⟩:=bK wr (.int .i64 x.l[c.length].op) (.string x.l[c.length].name) w7 w8 177;have J6:=s5.symm;have K3:wr.heap.size<F.heap.size:=l2.lt;have g4:=Hd (x9.o.ext m8);have z6:=Hd (λ(V:World) (v6:Ext F V)=>y4.o x.l[c.length] (an f8) d5 w6 x1 N s V _ (g4.o.ext v6) zO (RSK.of l0 (g4.o.ext v6).cx.ext g4.o.cx.hB g4.o.lo));have g9:=Hd m8;have x5:=Hd l2;generalize x.l[c.length]=r at*;have e7:=Hd O;clear s5 m8 l2 s2 l0 O hi r9 s0 v1 D3 r6 r7;go_wp2_with fail
    refine pv 9 (eqS [6,8] [.pointer (some ⟨d.heap.size,5,none⟩),.slice a8 c.length a9,.pointer (some ⟨mb,0,none⟩),.pointer (some ⟨d5,0,none⟩),.agg #[.int .i64 r.op,.string r.name,w7,w8],.bool G,undef,.int .i64 c.length,undef]) (gw 6 75 (λV=>Ext F V) (TJ (cz G r s N) N0 mb Q U R P N F) 8 77 (ZK F)) (λf0 V=>∃D,cz G r s N=.error D/\f0=aR D/\FrS mb F V) zK (λ_ _ _ _ f=>f) zK zK ?_ ⟨(af _).drew,trivial⟩ ?_ (λa2 f0 V g m7=>by
     obtain⟨D,y,rfl,b6⟩:=m7;obtain⟨tA,B1⟩:=a2;simp only at g;subst g;exact⟨rfl,.no (by rw[g5.o,k2.o];simp only[bind,Except.bind];rw[q6.o];simp only;rw[<-q7.o,e7.o,cd,y];rfl) ((b9.o.fr.trans g9.o.chg).trans b6)⟩) ?_
    ·simp[GuardsMet]
    ·refine⟨?_,?_,?_,?_,?_,?_,?_,?_,?_,trivial⟩;rotate_left 6
     ·refine StepI.turn2 rfl zK zD zD ?_;intro a2 m u g E;have i9:=ab g 2 71 zK rfl;simp[eqS] at i9;have j0:=ab g 3 72 zK rfl;simp[eqS] at j0;have j1:=ab g 4 73 zK rfl;simp[eqS] at j1;have j2:=ab g 5 74 zK rfl;simp[eqS] at j2;clear g E;have z7:=Hd (z6.o m u);have c6:=Hd u;clear u;go_simp;refine z7.o.mono ?_;rintro e g3 (⟨h,c5,y,rfl,D,rfl,e4,K,q,a1⟩|⟨D,y,rfl,q⟩);rotate_left
      ·exact⟨rfl,D,y,rfl,c6.o.chg.trans q⟩
      have k1:=Hd (show TJ (cz G r s N) N0 mb Q U R P N F (.agg D.toArray) g3 from⟨h,D,y,rfl,e4.imp (λb _ t=>ad c6.o.size t),K,c6.o.chg.trans q,a1⟩);have y6:=Hd (show∀c5,ZK F c5 m->ZK F c5 g3 from λc5 D7=>by
       obtain⟨a,c3,h2,k6⟩:=D7;exact⟨a,c3,h2,q.blk k6 (show¬a=mb by omega)⟩)
      clear y e4 K q a1;go_simp;first|exact⟨_,rfl,trivial,k1.o,y6.o⟩
     rotate_left 1
     ·refine StepI.lay2 rfl zK zD zD (λ_ _ f b6=>f.trans b6) (λ_ _ _ f b6=>f.ext b6) ?_;intro a2 m u g E;clear g E;have v3:F.heap.size<=m.heap.size:=by
       rcases u with u|⟨c5,h,D,-,-,-,-,u,-⟩
       ·exact u.size
       ·exact u.size
      obtain⟨A0,s6,v8,t2⟩:=aV m (.int .i64 0) (.int .i64 0) (.int .i64 0) (.int .i64 0) (.slice none 0 0) (.slice none 0 0) 73;have J7:=s6.symm;have q1:=Hd (aq v8 (show ZK F (.slice (some ⟨m.heap.size,0,none⟩) 1 1) A0 from⟨_,rfl,v3,t2⟩));clear s6 v8 t2 u v3;go_simp;first|exact⟨_,rfl,trivial,q1.o.1,q1.o.2⟩
     all_goals
      refine StepI.plain (S:=[6,8]) (T:=[75,77]) (I:=FrS mb F) oD (qR (λ_ f=>f.chg) (λ_ _ f=>by obtain⟨h,D,c3,h2,k6,f2,f3,J5⟩:=f;exact f3)) zD zD ?_;intro a2 m b1 g E;try (have i7:=ab g 0 69 zD rfl;simp[eqS] at i7)
      try (have i8:=ab g 1 70 zD rfl;simp[eqS] at i8)
      have p0:=ah E 9 zK;simp at p0;have o8:=ah E 4 zK;simp at o8;have o9:=ah E 5 zK;simp at o9;have E5:=ah E 11 zK;simp at E5;have E7:=ah E 7 zK;simp at E7;clear g E;have f7:FrS mb wr m:=g9.o.chg.trans b1;have n1:=(f7.blk b9.o.bt (show¬d.heap.size=mb by omega)).cell 5;have n2:=(f7.blk b9.o.bm (show¬w.heap.size=mb by omega)).cell 0;have n3:=(f7.blk b9.o.bs (show¬Y.heap.size=mb by omega)).cell 0;have D8:=(f7.blk b9.o.bk (show¬a3.heap.size=mb by omega)).cell 0;obtain⟨I3,r5,r6,r7⟩:=(b1.blk x5.o (show¬wr.heap.size=mb by omega)).get4;try simp only[List.getElem?_cons_succ,List.getElem?_cons_zero] at n1 n2 n3 D8
      clear b1 f7;exact zB
    ·intro a2 m b4
     change wpAny _ .any _ _ 5 #[true,true,true,true,true,true,true,true,true,false,false,false,false,false] _ _
     obtain⟨b0,rfl,e2,a4,u⟩:=b4.fin (n:=120) rfl;have C7:(TJ (cz G r s N) N0 mb Q U R P N F) (b0 75) m:=u.1;have C8:(ZK F) (b0 77) m:=u.2;have w2:b0 70=.slice a8 c.length a9:=e2 1 70 rfl rfl;have w4:b0 76=.int .i64 c.length:=e2 7 76 rfl rfl;have v2:∀b8:Nat,(b8<69\/77<b8)->b0 b8=_:=λb8 L3=>a4 b8 (by simp;omega)
     clear e2 a4 u b4;obtain⟨h,D,y,w3,e4,K,q,a1⟩:=C7;obtain⟨B2,w5,K5,e1⟩:=C8;obtain⟨p3,p4,rfl,f2,f3⟩:=RT9_iff.1 e4;have M9:=f2.oneCell;have N1:=f3.oneCell;simp[List.range,List.range.loop,v2,w2,w3,w4,w5];clear v2 w2 w3 w4 w5 f2 f3;have t5:FrS mb wr m:=g9.o.chg.trans q;have h6:=b9.o.frS t5 K a1 m6 i1 k8;have q3:=Hd h6;have z1:=Hd e4;have g6:=Hd y;have O0:wr.heap.size<=F.heap.size:=g9.o.size;have O1:F.heap.size<=m.heap.size:=q.size;have D0:c.length<=1000000000:=by omega
     clear y e4 K q a1 t5;refine rY (i:=9) zK rfl ?_;refine nj rfl (.tmp 70) (.tmp 77) 68 rfl C.heap.size _ 80 kB underlying68 rfl zD c (.slice a8 c.length a9) rfl h6.own B2 1 rfl e1 D0 h6.sz ?_;intro a c2 d6 b5 e3 C5 C6;refine wpList_nil ?_
     change wpAny _ .any _ _ 4 #[true,true,true,true,true,true,true,true,true,true,false,false,false,false] _ _
     simp only[Act.put,List.setIfInBounds_toArray,List.set_cons_zero,List.set_cons_succ];have l8:Chg (λb=>C.heap.size<=b) m d6:=Chg.grown (bg _ m) e3 (λa i3 _=>C5 a i3);have K4:=b5.base;have h3:=l8.blk h6.bt (show¬C.heap.size<=d.heap.size by omega);have q8:=Hd (show RT9 (λb=>C.heap.size<=b/\b≠a) d6 h.1 [.int .i64 h.1.op,.int .i64 h.1.sig,.int .i64 h.1.hi,.int .i64 h.1.lo,p3,p4] from RT9.turn (X:=λb=>(Value.slice a8 c.length a9).ownBlock=some b) ⟨e3.os,e3.tape,e3.output,e3.size,λb7 b4 b6=>e3.block b7 b4 λe=>b6 e.symm⟩ (λb t a5=>by
      have f8:=t.elim Tag.lt Tag.lt;have c3:∀h5,(Value.slice a8 c.length a9).ownBlock=some h5->h5<wr.heap.size:=λh5 e=>(b9.o.own.lt h5 e).2
      have L4:F.heap.size<=b:=a5;refine⟨λe=>by have:=c3 b e;omega,by have:=b9.o.sz;omega,λe=>?_⟩;subst e;rcases C6 with f|f
      ·have:=c3 b f;omega
      ·omega) h.1 _ z1.o)
     refine wpAny_take (i:=12) (v:=.pointer (some ⟨d.heap.size,5,none⟩)) rfl zK zK zK (λ_ _ _ f=>f) (.inl ⟨by simp[Region.wanted],λw=>by simp[execOp,go_sem]⟩) ?_;simp only[Act.put,List.setIfInBounds_toArray,List.set_cons_zero,List.set_cons_succ];refine wpAny_take (i:=10) (v:=.pointer (some ⟨a,c.length*6,none⟩)) rfl zK zK zK (λ_ _ _ f=>f) (.inl ⟨by simp[Region.wanted],λw=>by simp[execOp,go_sem,Act.eval];intro f;omega⟩) ?_;simp only[Act.put,List.setIfInBounds_toArray,List.set_cons_zero,List.set_cons_succ];refine rZ (i:=11) (j:=13) zK zK zK zK zK ?_ ?_
     ·refine jS rfl rfl ?_;obtain⟨o2,p1⟩:=b5.cell 0 zD;obtain⟨o3,E8⟩:=b5.cell 1 zD;obtain⟨o4,E9⟩:=b5.cell 2 zD;obtain⟨o5,F0⟩:=b5.cell 3 zD;obtain⟨o6,F1⟩:=b5.cell 4 zD;obtain⟨o7,F2⟩:=b5.cell 5 zD;simp only[zT,List.getElem?_cons_succ,List.getElem?_cons_zero,Nat.add_zero] at o2 o3 o4 o5 o6 o7 p1;obtain⟨J,b2⟩:∃J,J=((((((d6.setCell ⟨a,c.length*6,none⟩ (.int .i64 h.1.op)).setCell ⟨a,c.length*6+1,none⟩ (.int .i64 h.1.sig)).setCell ⟨a,c.length*6+2,none⟩ (.int .i64 h.1.hi)).setCell ⟨a,c.length*6+3,none⟩ (.int .i64 h.1.lo)).setCell ⟨a,c.length*6+4,none⟩ p3).setCell ⟨a,c.length*6+5,none⟩ p4):=⟨_,rfl⟩;have B4:=b2.symm;have c4:Chg (λb=>b=a) d6 J:=by rw[b2];exact(((((dk (X:=λb=>b=a) (bg _ d6) (p:=⟨a,_,none⟩) rfl _).setCell (p:=⟨a,_,none⟩) rfl _).setCell (p:=⟨a,_,none⟩) rfl _).setCell (p:=⟨a,_,none⟩) rfl _).setCell (p:=⟨a,_,none⟩) rfl _).setCell (p:=⟨a,_,none⟩) rfl _
      have D4:OwnT C.heap.size (c++[h.1]) (.slice (some ⟨a,0,none⟩) (c.length+1) c2) J:=by rw[b2];exact b5.fill q8.o
      have k4:=c4.blk h3 (show¬d.heap.size=a by omega);have p2:=k4.cell 5;have r8:=k4.frozen 5;simp only[List.getElem?_cons_succ,List.getElem?_cons_zero] at p2;obtain⟨Z,b3⟩:∃Z,Z=J.setCell ⟨d.heap.size,5,none⟩ (.slice (some ⟨a,0,none⟩) (c.length+1) c2):=⟨_,rfl⟩;have B5:=b3.symm;have d0:Chg (λb=>b=d.heap.size) J Z:=by rw[b3];exact dD _ _ _ _
      have e8:Blk Z d.heap.size 73 [.int .i64 3,.int .i64 0,.int .i64 0,.int .i64 0,.slice L 1 M,.slice (some ⟨a,0,none⟩) (c.length+1) c2]:=by rw[b3];simpa using k4.set_ 5 (.slice (some ⟨a,0,none⟩) (c.length+1) c2)
      have g2:=D4.chg d0 (λb t=>by have:b=d.heap.size:=t;omega);have f6:Chg (λb=>C.heap.size<=b\/b=d.heap.size) m Z:=((l8.mono (λ_ _ f=>.inl f)).trans (c4.mono (λb _ f=>.inl (by have:b=a:=f;omega)))).trans (d0.mono (λ_ _ f=>.inr f));have k0:=Hd (CsI.more d7.o.mk_ q3.o f6 f4 f9 k8 m6 e8 g2);clear f6 c4 d0 b2 b3 g2 e8;go_wp2_with fail
      go_roundw;case rel=>exact⟨c.length+1,c++[h.1],h.2,_,zO,zN,zS,k0.o,by rw[e7.o,cd,g6.o];rfl⟩
      case measure=>simp[intOf];omega
     ·refine jS rfl rfl ?_;have p2:=h3.cell 5;have r8:=h3.frozen 5;simp only[List.getElem?_cons_succ,List.getElem?_cons_zero] at p2;obtain⟨J,b2⟩:∃J,J=d6.setCell ⟨d.heap.size,5,none⟩ (.slice (some ⟨a,0,none⟩) (c.length+1) c2):=⟨_,rfl⟩;have B4:=b2.symm;have c4:Chg (λb=>b=d.heap.size) d6 J:=by rw[b2];exact dD _ _ _ _
      have A3:Blk J d.heap.size 73 [.int .i64 3,.int .i64 0,.int .i64 0,.int .i64 0,.slice L 1 M,.slice (some ⟨a,0,none⟩) (c.length+1) c2]:=by rw[b2];simpa using h3.set_ 5 (.slice (some ⟨a,0,none⟩) (c.length+1) c2)
      have d2:=b5.chg c4 (λb t=>by have:b=d.heap.size:=t;omega);obtain⟨o2,p1⟩:=d2.cell 0 zD;obtain⟨o3,E8⟩:=d2.cell 1 zD;obtain⟨o4,E9⟩:=d2.cell 2 zD;obtain⟨o5,F0⟩:=d2.cell 3 zD;obtain⟨o6,F1⟩:=d2.cell 4 zD;obtain⟨o7,F2⟩:=d2.cell 5 zD;simp only[zT,List.getElem?_cons_succ,List.getElem?_cons_zero,Nat.add_zero] at o2 o3 o4 o5 o6 o7 p1;obtain⟨Z,b3⟩:∃Z,Z=((((((J.setCell ⟨a,c.length*6,none⟩ (.int .i64 h.1.op)).setCell ⟨a,c.length*6+1,none⟩ (.int .i64 h.1.sig)).setCell ⟨a,c.length*6+2,none⟩ (.int .i64 h.1.hi)).setCell ⟨a,c.length*6+3,none⟩ (.int .i64 h.1.lo)).setCell ⟨a,c.length*6+4,none⟩ p3).setCell ⟨a,c.length*6+5,none⟩ p4):=⟨_,rfl⟩;have B5:=b3.symm;have d0:Chg (λb=>b=a) J Z:=by rw[b3];exact(((((dk (X:=λb=>b=a) (bg _ J) (p:=⟨a,_,none⟩) rfl _).setCell (p:=⟨a,_,none⟩) rfl _).setCell (p:=⟨a,_,none⟩) rfl _).setCell (p:=⟨a,_,none⟩) rfl _).setCell (p:=⟨a,_,none⟩) rfl _).setCell (p:=⟨a,_,none⟩) rfl _
      have g2:OwnT C.heap.size (c++[h.1]) (.slice (some ⟨a,0,none⟩) (c.length+1) c2) Z:=by
       rw[b3];exact d2.fill (RT9.turn c4 (λb _ a5=>⟨λe=>by have:b=d.heap.size:=e;omega,a5⟩) h.1 _ q8.o)
      have e8:=d0.blk A3 (show¬d.heap.size=a by omega);have f6:Chg (λb=>C.heap.size<=b\/b=d.heap.size) m Z:=((l8.mono (λ_ _ f=>.inl f)).trans (c4.mono (λ_ _ f=>.inr f))).trans (d0.mono (λb _ f=>.inl (by have:b=a:=f;omega)));have k0:=Hd (CsI.more d7.o.mk_ q3.o f6 f4 f9 k8 m6 e8 g2);clear f6 c4 d0 b2 b3 g2 e8;go_wp2_with fail
      go_roundw;case rel=>exact⟨c.length+1,c++[h.1],h.2,_,zO,zN,zS,k0.o,by rw[e7.o,cd,g6.o];rfl⟩
      case measure=>simp[intOf];omega
   ·have g:c9.drop c.length=[]:=by rw[List.drop_eq_nil_iff,t7];omega
    rw[g] at O;have e7:=Hd (show d8=.ok (c,N) from O);have A5:=hi.bt;have A4:=hi.br;have A2:=Hd hi.fr;have p9:=Hd hi.cn;have z9:=Hd hi.mk_;have t3:SlE9 (λb=>w.heap.size<=b) wr [a7.1] (.slice L 1 M):=SlE9.turn hi.se (bg (λ_=>False) wr) (λb _ a5=>⟨id,a5.1⟩);have t6:=hi.own.slY;have g6:=Hd (show aK G x s e6=.ok (.mk 3 0 0 0 [a7.1] c,N) by rw[g5.o,k2.o];simp only[bind,Except.bind];rw[q6.o];simp only;rw[<-q7.o,e7.o];rfl);clear O g hi;have r2:=A5;have e9:=A4;obtain⟨i7,i8,i9,j0,j1,j2⟩:=r2.get6;obtain⟨I4,I5,I6,I7,I8,r8⟩:=e9.free6;obtain⟨I9,J0,J1,J2,J3,J4⟩:=e9.get6;obtain⟨c7,h7⟩:∃c7,c7=(((((wr.setCell ⟨A.heap.size,0,none⟩ (.int .i64 3)).setCell ⟨A.heap.size,1,none⟩ (.int .i64 0)).setCell ⟨A.heap.size,2,none⟩ (.int .i64 0)).setCell ⟨A.heap.size,3,none⟩ (.int .i64 0)).setCell ⟨A.heap.size,4,none⟩ (.slice L 1 M)).setCell ⟨A.heap.size,5,none⟩ (.slice a8 c.length a9):=⟨_,rfl⟩;have J8:=h7.symm;have r1:Blk c7 A.heap.size 73 [.int .i64 3,.int .i64 0,.int .i64 0,.int .i64 0,(.slice L 1 M),(.slice a8 c.length a9)]:=by rw[h7];exact e9.store6 _ _ _ _ _ _
    have f5:Chg (λb=>b=A.heap.size) wr c7:=by rw[h7];exact gT _ _ _ _ _ _ _ _
    have m1:FrS mb w c7:=A2.o.trans_new f5 (λb t=>by have:b=A.heap.size:=t;omega);have y9:=Hd (d7.o.mk_.back m1 z9.o f5 (λt=>by have:mb=A.heap.size:=t;omega) p9.o);have y2:=Hd (show SlE9 (λb=>w.heap.size<=b) c7 [a7.1] (.slice L 1 M) from SlE9.turn t3 f5 (λb t a5=>⟨λe=>absurd (t.one (show Tag _ b _ from(show b=A.heap.size from e)▸e9.tag)) zD,zO⟩));have y7:=Hd (show SlT9 (λb=>w.heap.size<=b) c7 c (.slice a8 c.length a9) from SlT9.turn t6 f5 (λb t a5=>⟨λe=>by have:b=A.heap.size:=e;omega,zO⟩));have y3:=Hd m1;obtain⟨D9,E0,E1,E2,E3,E4⟩:=r1.get6;clear t6 t3 r2 e9 h7 r1 f5 m1;go_wp2_with fail
    refine bodyPost_ret (v:=.agg #[.int .i64 3,.int .i64 0,.int .i64 0,.int .i64 0,(.slice L 1 M),(.slice a8 c.length a9)]) ?_ rfl (.ok g6.o ⟨[.int .i64 3,.int .i64 0,.int .i64 0,.int .i64 0,(.slice L 1 M),(.slice a8 c.length a9)],rfl,RT9_iff.2 ⟨_,_,rfl,y2.o,y7.o⟩,y9.o,y3.o,p9.o⟩);simp[results,results149,go_sem,D9,E0,E1,E2,E3,E4]
theorem qj{α b:Type}(f:α->b):∀l:List α,l.zip (l.map f)=l.map (λa=>(a,f a))
 |[]=>rfl
 |a::r=>by simp[qj f r]
theorem zy(b:Bool)(a:S)(s:Sc)(m:Mk):aK b (S.mk 5 ⟨#[]⟩ [] [a]) s m=fZ (aK b a) s m:=by
 rw[fu];unfold eR fZ;have c:(S.mk 5 ⟨#[]⟩ [] [a]).op=5:=rfl;rw[if_neg (show¬(S.mk 5 ⟨#[]⟩ [] [a]).op=1 by rw[c];decide)];simp only[if_pos c];show(do let m1<-aW 1 m;let z<-bB [aK b a s] m1;return(DT.mk 5 0 0 0 [] z.1,z.2))=_;simp only[bB,bind,Except.bind,pure,Except.pure];cases aW 1 m with
 |error e=>rfl
 |ok m1=>
  simp only[];cases aK b a s m1<;>rfl
theorem yX(f6:World)(B N0 mb:Nat)(U Y V R:Value)(u:Bool)(x:S)(g9:x.op=2)(y3:∀g,g∈x.x->VX g)(x5:∀g,g∈x.x->MayX g)(h2:x.x.length=1)(w9:∀g,g∈x.l->dG f6 B N0 mb U Y V R u 149 (aK u) g):dG f6 B N0 mb U Y V R u 149 (aK u) x:=by
 intro d2 q3 r1 f4 s w g0 f o5 Q;have d4:=Hd f;have o6:=f.mk_.blk.lt;have M8:=f.c1;obtain⟨I0,I1,rfl,e3,o4⟩:=Q;have Q0:=o4.oneCell;have P8:=e3.oneCell;have s4:=Hd o4;have B6:=Hd e3;obtain⟨Z,v7,y4,n0⟩:=aL w (.pointer (some ⟨mb,0,none⟩)) 97;obtain⟨a1,v9,e3,n1⟩:=aL Z (.pointer (some ⟨d2,0,none⟩)) 100;obtain⟨a7,w0,k1,n2⟩:=bK a1 (.int .i64 x.op) (.string x.name) I0 I1 177;obtain⟨E,w1,h5,n3⟩:=aL a7 (.bool u) 4;obtain⟨e7,w2,f3,n4⟩:=aV E (.int .i64 0) (.int .i64 0) (.int .i64 0) (.int .i64 0) (.slice none 0 0) (.slice none 0 0) 73;have D4:=v7.symm;have D8:=v9.symm;have v6:=w0.symm;have D9:=w1.symm;have Q4:w.heap.size<Z.heap.size:=n0.lt;have Q5:Z.heap.size<a1.heap.size:=n1.lt;have Q6:a1.heap.size<a7.heap.size:=n2.lt;have Q7:a7.heap.size<E.heap.size:=n3.lt;have Q8:E.heap.size<e7.heap.size:=n4.lt;have r6:=Hd (n0.ext (e3.trans (k1.trans (h5.trans f3))));have r7:=Hd (n1.ext (k1.trans (h5.trans f3)));have l3:=Hd (n2.ext (h5.trans f3));have r4:=Hd (n3.ext f3);have z9:=Hd n4;have m1:=Hd (y4.trans (e3.trans (k1.trans (h5.trans f3))));have l6:=Hd (f.ext m1.o);obtain⟨m3,n9⟩:=ae (W:=e7) (w:=e7) (af _);have E0:=w2.symm.trans n9;obtain⟨C7,K4,K5,K6⟩:=l3.o.later4;have P3:=cellAt (r6.o.cell 0);have P4:=cellAt (r7.o.cell 0);have O1:=cellAt (r4.o.cell 0);have B4:=Hd n9;clear n9 v7 v9 w0 w1 w2 y4 e3 k1 h5 f3 n0 n1 n2 n3 n4 f o4;have N6:1+aa al x.x+aa ao x.l<=1000000:=by rw[<-bW];omega
 have N7:s.env.length+2+aa ao x.l<=1000000:=by
  have:=aw al x.x cR;rw[bW] at o5;omega
 obtain⟨t2,t6,G1,-,-⟩:=s4.o;subst G1;obtain⟨P2,q2,rfl,N4,x4⟩:=B6.o;have k0:0<x.x.length:=by omega
 obtain⟨i5,k2,R4,F4,E8,F6,m5,F8,m7⟩:=x4 0 k0;subst F4;have B5:=Hd (XOk.of (an k0) m7 zO y3);have B0:=Hd (x5 _ (an k0));obtain⟨I2,rfl,v4⟩:=RX_iff.1 m7;simp only[Nat.zero_mul,Nat.add_zero] at m5;have i1:=Hd (show aK u x s f4=(do let b1<-aW 1 f4;let g<-aG s x.x[0] b1;let z<-bB (x.l.map λg=>if g.op=2 then fZ (aK u g) s else aK u g s) g.2;return(.mk 2 0 0 0 [g.1] z.1,z.2)) by
  rw[fu];unfold eR;rw[if_neg zO];simp only[if_neg (show¬x.op=5 by omega),if_neg (show¬x.op=6 by omega),if_neg (show¬x.op=3 by omega),if_pos g9,qj,List.map_map,dh (k:=0) k0];rfl)
 generalize x.x[0]=x0 at*;have s5:=Hd g9;have A6:=Hd w9;have A3:=Hd m5;have u0:=v4.oneCell;have N3:(0:Int)<(x.x.length:Int):=by omega
 have N5:x.l.length<=1000000:=by have:=aw ao x.l da;omega
 have I9:=Hd o5;rw[g9] at v6 C7 l3;rw[g9];clear g9 w9 x4 m7 v4 F6 E8 m5 F8 y3 x5 e3 o5 h2;have B7:=Hd (ej N0 mb U Y V R f4 1 m3.w (B4.o▸l6.o.mk_) l6.o.c0 l6.o.c1 zD zD);go_enter func149,ntmps149;go_wp2_with fail
 go_at_call 75;refine B7.o.mono ?_;rintro e d (⟨b1,d3,C,rfl,rfl,N,t⟩|⟨G,C,rfl,t⟩);rotate_left
 ·exact⟨rfl,.no (by rw[i1.o,C];rfl) ((m1.o.trans m3.ext).chg.trans t)⟩
 have o3:FrS mb e7 d:=m3.ext.chg.trans t;obtain⟨C2,w5,y8,c2⟩:=aV d (.int .i64 0) (.int .i64 0) (.int .i64 0) (.int .i64 0) (.slice none 0 0) (.slice none 0 0) 73;have E6:=w5.symm;obtain⟨J1,J2,J3,J4,J5,J6⟩:=c2.get6;obtain⟨O2,O4,O6,O8,P0,P1⟩:=c2.free6;obtain⟨K,j2⟩:∃K,K=(((((C2.setCell ⟨d.heap.size,0,none⟩ (.int .i64 5)).setCell ⟨d.heap.size,1,none⟩ (.int .i64 0)).setCell ⟨d.heap.size,2,none⟩ (.int .i64 0)).setCell ⟨d.heap.size,3,none⟩ (.int .i64 0)).setCell ⟨d.heap.size,4,none⟩ (.slice none 0 0)).setCell ⟨d.heap.size,5,none⟩ (.slice none 0 0):=⟨_,rfl⟩;have E1:=j2.symm;have n5:Blk K d.heap.size 73 [.int .i64 5,.int .i64 0,.int .i64 0,.int .i64 0,.slice none 0 0,.slice none 0 0]:=by rw[j2];exact c2.store6 _ _ _ _ _ _
 have o8:Ext d K:=by rw[j2];exact(((((y8.setCell (ac _) _).setCell (ac _) _).setCell (ac _) _).setCell (ac _) _).setCell (ac _) _).setCell (ac _) _
 have Q9:e7.heap.size<=d.heap.size:=o3.size;have R0:d.heap.size<K.heap.size:=n5.lt;have d7:FrS mb e7 K:=o3.trans o8.chg;have l5:=Hd (m1.o.chg.trans d7);have l1:=Hd (d7.blk r6.o (show¬w.heap.size=mb by omega));have l2:=Hd (d7.blk r7.o (show¬Z.heap.size=mb by omega));have l4:=Hd (d7.blk l3.o (show¬a1.heap.size=mb by omega));have r5:=Hd (d7.blk r4.o (show¬a7.heap.size=mb by omega));have A0:=Hd (d7.blk z9.o (show¬E.heap.size=mb by omega));have A1:=Hd n5;have s0:=Hd (ee C zD);have B2:=Hd (N.ext o8);have l7:=Hd (d4.o.frS l5.o B2.o s0.o);have m0:=Hd C;have J7:=l1.o.cell 0;have J8:=l2.o.cell 0;have K3:=r5.o.cell 0;obtain⟨J9,K0,K1,K2⟩:=l4.o.get4;clear w5 y8 c2 j2 n5 o8 t o3 d7 N C;go_wp2_with fail
 refine eO 8 (eqS [6] [.pointer (some ⟨mb,0,none⟩),.pointer (some ⟨d2,0,none⟩),.pointer (some ⟨a1.heap.size,2,none⟩),.slice (some ⟨i5,k2,none⟩) x.x.length q2,.pointer (some ⟨i5,k2,none⟩),.agg #[.int .i64 x0.op,.string x0.name,.int .i64 x0.n,.int .i64 x0.w,.int .u64 x0.v,I2],undef,.pointer (some ⟨d.heap.size,0,none⟩)]) (phJ 6 90 (λL=>Ext K L) (WhJ (aG s x0 b1) N0 mb U Y V R b1 K)) (λf9 L=>∃G,aG s x0 b1=.error G/\f9=aR G/\FrS mb K L) zK (λ_ _ _ _ f=>f) zK zK ?_ ((af _).drew) ?_ (λa6 f9 L m o7=>by
  obtain⟨G,C,rfl,c4⟩:=o7;obtain⟨tA,D1⟩:=a6;simp only at m;subst m;exact⟨rfl,.no (by rw[i1.o,m0.o];simp only[bind,Except.bind];rw[C]) (l5.o.trans c4)⟩) ?_
 ·simp[GuardsMet]
 ·refine⟨?_,?_,?_,?_,?_,?_,?_,?_,trivial⟩;rotate_left 6
  ·refine StepI.turn rfl zK ?_;intro a6 q A m H;have k3:=ab m 0 84 zK rfl;simp[eqS] at k3;have k4:=ab m 1 85 zK rfl;simp[eqS] at k4;have k8:=ab m 5 89 zK rfl;simp[eqS] at k8;clear m H;have B9:=Hd (ir f6 B N0 mb d2 q3 U Y V R r1 b1 s x0 _ q (l7.o.ext A) B5.o B0.o);have d5:=Hd A;clear A;go_simp;refine B9.o.mono ?_;rintro e i0 (⟨h,d3,C,rfl,e2,N,t,a3⟩|⟨G,C,rfl,t⟩);rotate_left
   ·exact⟨rfl,G,C,rfl,d5.o.chg.trans t⟩
   have l9:=Hd (show WhJ (aG s x0 b1) N0 mb U Y V R b1 K d3 i0 from⟨h,C,SlE9.turn e2 (bg (λ_=>False) i0) (λb _ a9=>⟨id,ad d5.o.size a9⟩),N,d5.o.chg.trans t,a3⟩);clear C e2 N t a3;go_simp;first|exact⟨_,rfl,trivial,l9.o⟩
  all_goals
   refine StepI.plain (S:=[6]) (T:=[90]) (I:=FrS mb K) gP (hR (λ_ f=>f.chg) (λ_ _ f=>by obtain⟨h,c9,h2,m4,g1,g2⟩:=f;exact g1)) zD zD ?_;intro a6 q b7 m H;try (have k5:=ab m 2 86 zD rfl;simp[eqS] at k5)
   try (have k6:=ab m 3 87 zD rfl;simp[eqS] at k6)
   try (have k7:=ab m 4 88 zD rfl;simp[eqS] at k7)
   have q8:=ah H 9 zK;simp at q8;have q6:=ah H 4 zK;simp at q6;have q7:=ah H 5 zK;simp at q7;have H2:=ah H 6 zK;simp at H2;clear m H;have y6:Ext f6 q:=b7.ext l7.o.cx.ext (λa5 a4=>(show a5=mb from a4)▸l7.o.lo);obtain⟨t7,C8,C9,D0,K8,K9⟩:=(A3.o.ext y6).get6;have p2:=(b7.blk l1.o (show¬w.heap.size=mb by omega)).cell 0;have p3:=(b7.blk l2.o (show¬Z.heap.size=mb by omega)).cell 0;have p4:=(b7.blk l4.o (show¬a1.heap.size=mb by omega)).cell 2;try simp only[List.getElem?_cons_succ,List.getElem?_cons_zero] at p2 p3 p4
   clear b7 y6;exact zB
 ·intro a6 q a4;obtain⟨b5,rfl,f0,a8,A⟩:=a4.fin (n:=120) rfl;replace A:(WhJ (aG s x0 b1) N0 mb U Y V R b1 K) (b5 90) q:=A;have p5:=a8 4 zK;have p6:=a8 5 zK;have p7:=a8 6 zK;have p8:=a8 7 zK;have p9:=a8 8 zK;have q0:=a8 9 zK;have z3:b5 91=.pointer (some ⟨d.heap.size,0,none⟩):=f0 7 91 rfl rfl;clear f0 a8;obtain⟨b2,x8,e2,N,t,a3⟩:=A;obtain⟨O,P,y2⟩:=e2.form;have q1:b5 90=.slice O 1 P:=y2;rw[q1] at e2;clear y2;simp at p5 p6 p7 p8 p9 q0;simp only[List.drop_succ_cons,List.drop_zero];simp[List.range,List.range.loop,p5,p6,p7,p8,p9,q0,z3,q1];clear p5 p6 p7 p8 p9 q0 z3 q1;have i6:=t.blk A1.o (show¬d.heap.size=mb by omega);have H9:K.heap.size<=q.heap.size:=t.size;have z6:=i6.cell 0;have I7:=i6.frozen 0;obtain⟨i3,j3⟩:∃i3,i3=q.setCell ⟨d.heap.size,0,none⟩ (.int .i64 2):=⟨_,rfl⟩;have E2:=j3.symm;have i8:Blk i3 d.heap.size 73 [.int .i64 2,.int .i64 0,.int .i64 0,.int .i64 0,.slice none 0 0,.slice none 0 0]:=by rw[j3];simpa using i6.set_ 0 (.int .i64 2)
  have z7:=i8.cell 4;have I8:=i8.frozen 4;simp only[List.getElem?_cons_succ,List.getElem?_cons_zero] at z6 z7;obtain⟨F,j4⟩:∃F,F=i3.setCell ⟨d.heap.size,4,none⟩ (.slice O 1 P):=⟨_,rfl⟩;have E3:=j4.symm;have t5:Blk F d.heap.size 73 [.int .i64 2,.int .i64 0,.int .i64 0,.int .i64 0,.slice O 1 P,.slice none 0 0]:=by rw[j4];simpa using i8.set_ 4 (.slice O 1 P)
  have d9:Chg (λb=>b=d.heap.size) q F:=by rw[j4,j3];exact(dD _ _ _ _).trans (dD _ _ _ _)
  have o1:FrS mb w F:=(l5.o.trans t).trans_new d9 (λb y=>by have:b=d.heap.size:=y;omega);have n8:=s0.o.trans a3;have e8:∀a c5 g0,Blk K a c5 g0->¬a=mb->¬a=d.heap.size->Blk F a c5 g0:=λa c5 g0 y c9 h2=>d9.blk (t.blk y c9) h2
  have s2:=Hd (show CsI w F.heap.size N0 mb d2 w.heap.size Z.heap.size a1.heap.size d.heap.size a7.heap.size E.heap.size U Y V R u x (.slice (some ⟨i5,k2,none⟩) x.x.length q2) (.slice t2 x.l.length t6) 2 b2.1 (.slice O 1 P) f4 [] b2.2 (.slice none 0 0) F from
   ⟨o1,d4.o.mk_.back o1 N d9 (λy=>by have:mb=d.heap.size:=y;omega) n8,n8,e8 _ _ _ l1.o zO zO,e8 _ _ _ l2.o zO zO,by rw[s5.o];exact e8 _ _ _ l4.o zO zO,e8 _ _ _ r5.o zO zO,e8 _ _ _ A0.o zO zO,t5,OwnT.none_,
    SlE9.turn e2 d9 (λb y a9=>⟨λe=>by have:b=d.heap.size:=e;omega,zO,aQ y.lt d9.size⟩),ac _⟩)
  have s6:=Hd x8;have R1:K.heap.size<=F.heap.size:=ad H9 d9.size;obtain⟨z5,I4,I5,I6⟩:=s2.o.bx.get4;rw[s5.o] at z5;clear e2 N t a3 x8 i6 j3 i8 j4 t5 d9 o1 n8 e8;obtain⟨b6,j8⟩:∃b6,b6=x.l.map (λg=>if g.op=2 then fZ (aK u g) s else aK u g s):=⟨_,rfl⟩;obtain⟨c7,Q⟩:∃c7,c7=bB b6 b2.2:=⟨_,rfl⟩;have s9:=Hd (show c7=cd [] (b6.drop 0) b2.2 from by rw[List.drop_zero,jR,Q]);have s7:=Hd (show c7=bB (x.l.map λg=>if g.op=2 then fZ (aK u g) s else aK u g s) b2.2 from by rw[Q,j8]);have A7:=Hd j8;have x3:b6.length=x.l.length:=by rw[j8,List.length_map]
  have j7:∀a,a=w.heap.size\/a=Z.heap.size\/a=a1.heap.size\/a=d.heap.size\/a=a7.heap.size\/a=E.heap.size->w.heap.size<=a:=λa j9=>by omega
  have g3:∀a,a=w.heap.size\/a=Z.heap.size\/a=a1.heap.size\/a=d.heap.size\/a=a7.heap.size\/a=E.heap.size->w.heap.size<=a/\a<F.heap.size:=λa j9=>by omega
  have g8:∀a,a=w.heap.size\/a=Z.heap.size\/a=a1.heap.size\/a=a7.heap.size\/a=E.heap.size->¬a=d.heap.size:=λa j9=>by omega
  have m6:w.heap.size<=F.heap.size:=by omega
  have A2:=Hd (aq j7 (aq g3 g8));clear j8 Q j7 g3 g8 D4 D8 v6 D9 E0 E6 E1;go_wp2_with fail
  clear E2 E3 z5 I4 I5 I6 z6 I7 z7 I8;go_loopw [96] (λp1 wr=>∃(a5:Nat) (c:List DT) (J:Mk) (z4:Value),a5<=x.l.length/\p1=.int .i64 a5/\c.length=a5/\CsI w F.heap.size N0 mb d2 w.heap.size Z.heap.size a1.heap.size d.heap.size a7.heap.size E.heap.size U Y V R u x (.slice (some ⟨i5,k2,none⟩) x.x.length q2) (.slice t2 x.l.length t6) 2 b2.1 (.slice O 1 P) f4 c J z4 wr/\c7=cd c (b6.drop a5) J) (λp1 _=>x.l.length - (intOf p1).toNat)
  case atStart=>exact⟨0,[],b2.2,_,aA _,rfl,rfl,s2.o,s9.o⟩
  case round=>
   obtain⟨a5,c,J,z4,a4,rfl,rfl,hi,Q⟩:=hrel;clear s9;have c6:=Hd hi;obtain⟨b3,b4,rfl⟩:=hi.own.form;have r9:=Hd (d4.o.frS hi.fr hi.mk_ hi.cn);have N9:=hi.sz;by_cases g7:c.length<x.l.length
   ·rw[List.drop_eq_getElem_cons (by rw[x3];exact g7),List.getElem_of_eq A7.o,List.getElem_map] at Q;obtain⟨j7,g3,g8⟩:=A2.o;have N8:=ay ao x.l x.l[c.length] (an g7);have F7:=an g7;obtain⟨J0,K7,E7,-,x9⟩:=s4.o.frS hi.fr;obtain⟨b,o,g0,G0,M7,M6,M9,v5,x6,m8⟩:=x9 _ g7;injection E7 with t8 t9 v0;subst t8;subst G0;obtain⟨k9,l0,rfl,v2,v3⟩:=RS_iff.1 m8;have P9:=v2.oneCell;have Q1:=v3.oneCell;obtain⟨t7,C8,C9,D0⟩:=v5.get4;have m9:=m8;generalize x.l[c.length]=g at*;have o2:=A6.o g F7;by_cases e0:g.op=2
    case' pos=>
     obtain⟨a2,w3,y7,j5⟩:=bK wr (.int .i64 g.op) (.string g.name) k9 l0 177;obtain⟨t1,w4,o9,n6⟩:=bK a2 (.int .i64 g.op) (.string g.name) k9 l0 177;have E4:=w3.symm;have E5:=w4.symm;have M2:wr.heap.size<a2.heap.size:=j5.lt;have D2:a2.heap.size<t1.heap.size:=n6.lt;have j6:=j5.ext o9;obtain⟨f5,h7,h8,h9⟩:=j5.get4;obtain⟨H0,P5,P6,P7⟩:=j6.get4;obtain⟨O3,O5,O7,O9⟩:=j6.free4;obtain⟨D,b0⟩:∃D,D=S.mk 5 ⟨#[]⟩ [] [g]:=⟨_,rfl⟩;obtain⟨u2,h0⟩:∃u2:Value,u2=.slice none 0 0:=⟨_,rfl⟩;obtain⟨u3,h1⟩:∃u3:Value,u3=.slice (some ⟨a2.heap.size,0,none⟩) 1 1:=⟨_,rfl⟩;obtain⟨r,d0⟩:∃r,r=(((t1.setCell ⟨wr.heap.size,0,none⟩ (.int .i64 5)).setCell ⟨wr.heap.size,1,none⟩ (.string ⟨#[]⟩)).setCell ⟨wr.heap.size,2,none⟩ (.slice none 0 0)).setCell ⟨wr.heap.size,3,none⟩ (.slice (some ⟨a2.heap.size,0,none⟩) 1 1):=⟨_,rfl⟩;have D5:=d0.symm;have h4:Ext wr r:=by rw[d0];exact((((y7.trans o9).setCell (ac _) _).setCell (ac _) _).setCell (ac _) _).setCell (ac _) _
     have e9:Blk r wr.heap.size 177 [.int .i64 D.op,.string D.name,u2,u3]:=by rw[d0,b0,h0,h1];exact j6.store4 _ _ _ _
     have w7:Blk r a2.heap.size 177 [.int .i64 g.op,.string g.name,k9,l0]:=by
      rw[d0];exact(((n6.far (p:=⟨wr.heap.size,0,none⟩) (show a2.heap.size≠wr.heap.size by omega) _).far (p:=⟨wr.heap.size,1,none⟩) (show a2.heap.size≠wr.heap.size by omega) _).far (p:=⟨wr.heap.size,2,none⟩) (show a2.heap.size≠wr.heap.size by omega) _).far (p:=⟨wr.heap.size,3,none⟩) (show a2.heap.size≠wr.heap.size by omega) _
     have E9:wr.heap.size<r.heap.size:=e9.lt;have e5:=Hd (r9.o.ext h4);have t0:=Hd (λ(L:World) (h3:Ext r L)=>rP f6 B N0 mb U Y V R u D (by rw[b0];rfl) (λI3 p0=>by rw[b0] at p0;rw[List.mem_singleton.1 (show I3∈[g] from p0)];exact o2) d2 q3 r1 J s L [.int .i64 D.op,.string D.name,u2,u3] (e5.o.ext h3) (by
      have e:ao D=1+ao g:=by rw[b0,bW];simp[S.x,S.l,aa]
      omega) ⟨u2,u3,rfl,by rw[b0,h0];exact cm,by
      rw[b0,h1];refine⟨_,1,rfl,ac _,λa5 a4=>?_⟩;obtain rfl:a5=0:=by simp[S.l] at a4;omega
      have c2:=w7.ext h3;exact⟨a2.heap.size,0,_,rfl,c2.lt,by have:=d4.o.mk_.blk.lt;omega,rfl,c2.cells,x6,m9⟩⟩)
     have e6:=Hd (show c7=(do let h<-aK u D s J;cd (c++[h.1]) (b6.drop (c.length+1)) h.2) from by
      rw[Q,cd,if_pos e0,b0,zy])
     have x7:(g.op==2)=true:=beq_iff_eq.2 e0;rw[e0] at t7 E4 E5 f5 H0;clear e0 x7 w3 w4 y7 o9 j5 n6 j6 w7 d0 D2 b0 h0 h1
    case' neg=>
     obtain⟨D,b0⟩:∃D,D=g:=⟨_,rfl⟩;obtain⟨u2,h0⟩:∃u2:Value,u2=k9:=⟨_,rfl⟩;obtain⟨u3,h1⟩:∃u3:Value,u3=l0:=⟨_,rfl⟩;subst b0 h0 h1;obtain⟨r,d0,h4,e9⟩:=bK wr (.int .i64 D.op) (.string D.name) u2 u3 177;have D5:=d0.symm;have E9:wr.heap.size<r.heap.size:=e9.lt;obtain⟨f5,h7,h8,h9⟩:=e9.get4;have e5:=Hd (r9.o.ext h4);have t0:=Hd (λ(L:World) (h3:Ext r L)=>o2 d2 q3 r1 J s L _ (e5.o.ext h3) zO (RSK.of m9 (e5.o.ext h3).cx.ext e5.o.cx.hB e5.o.lo));have e6:=Hd (show c7=(do let h<-aK u D s J;cd (c++[h.1]) (b6.drop (c.length+1)) h.2) from by
      rw[Q,cd,if_neg e0])
     have x7:(D.op==2)=false:=beq_eq_false_iff_ne.2 e0;clear e0 d0
    all_goals
     have i4:=Hd h4;have z8:=Hd e9;clear h4 e9 v5 m8 m9 Q hi v2 v3 x9 x6 t9 v0 o2;go_wp2_with fail
     refine pv 9 (eqS [6,8] [.pointer (some ⟨d.heap.size,5,none⟩),.slice b3 c.length b4,.pointer (some ⟨mb,0,none⟩),.pointer (some ⟨d2,0,none⟩),.agg #[.int .i64 D.op,.string D.name,u2,u3],.bool u,undef,.int .i64 c.length,undef]) (gw 6 112 (λL=>Ext r L) (TJ (aK u D s J) N0 mb U Y V R J r) 8 114 (ZK r)) (λf9 L=>∃G,aK u D s J=.error G/\f9=aR G/\FrS mb r L) zK (λ_ _ _ _ f=>f) zK zK ?_ ⟨(af _).drew,trivial⟩ ?_ (λa6 f9 L m o7=>by
      obtain⟨G,C,rfl,c4⟩:=o7;obtain⟨tA,D1⟩:=a6;simp only at m;subst m;exact⟨rfl,.no (by rw[i1.o,m0.o];simp only[bind,Except.bind];rw[s6.o];simp only;rw[<-s7.o,e6.o,C];rfl) ((c6.o.fr.trans i4.o.chg).trans c4)⟩) ?_
     ·simp[GuardsMet]
     ·refine⟨?_,?_,?_,?_,?_,?_,?_,?_,?_,trivial⟩;rotate_left 6
      ·refine StepI.turn2 rfl zK zD zD ?_;intro a6 q A m H;have k5:=ab m 2 108 zK rfl;simp[eqS] at k5;have k6:=ab m 3 109 zK rfl;simp[eqS] at k6;have k7:=ab m 4 110 zK rfl;simp[eqS] at k7;have k8:=ab m 5 111 zK rfl;simp[eqS] at k8;clear m H;have B8:=Hd (t0.o q A);have d5:=Hd A;clear A;go_simp;refine B8.o.mono ?_;rintro e i0 (⟨h,d3,C,rfl,G,rfl,f2,N,t,a3⟩|⟨G,C,rfl,t⟩);rotate_left
       ·exact⟨rfl,G,C,rfl,d5.o.chg.trans t⟩
       have l9:=Hd (show TJ (aK u D s J) N0 mb U Y V R J r (.agg G.toArray) i0 from⟨h,G,C,rfl,f2.imp (λb _ y=>ad d5.o.size y),N,d5.o.chg.trans t,a3⟩);have A8:=Hd (show∀d3,ZK r d3 q->ZK r d3 i0 from λd3 G2=>by
        obtain⟨a,c9,h2,m4⟩:=G2;exact⟨a,c9,h2,t.blk m4 (show¬a=mb by omega)⟩)
       clear C f2 N t a3;go_simp;first|exact⟨_,rfl,trivial,l9.o,A8.o⟩
      rotate_left 1
      ·refine StepI.lay2 rfl zK zD zD (λ_ _ f c4=>f.trans c4) (λ_ _ _ f c4=>f.ext c4) ?_;intro a6 q A m H;clear m H;have y1:r.heap.size<=q.heap.size:=by
        rcases A with A|⟨d3,h,G,-,-,-,-,A,-⟩
        ·exact A.size
        ·exact A.size
       obtain⟨C1,v8,y5,w6⟩:=aV q (.int .i64 0) (.int .i64 0) (.int .i64 0) (.int .i64 0) (.slice none 0 0) (.slice none 0 0) 73;have M4:=v8.symm;have s1:=Hd (aq y5 (show ZK r (.slice (some ⟨q.heap.size,0,none⟩) 1 1) C1 from⟨_,rfl,y1,w6⟩));clear v8 y5 w6 A y1;go_simp;first|exact⟨_,rfl,trivial,s1.o.1,s1.o.2⟩
      all_goals
       refine StepI.plain (S:=[6,8]) (T:=[112,114]) (I:=FrS mb r) oD (qR (λ_ f=>f.chg) (λ_ _ f=>by obtain⟨h,G,c9,h2,m4,g1,g2,M3⟩:=f;exact g2)) zD zD ?_;intro a6 q b7 m H;try (have k3:=ab m 0 106 zD rfl;simp[eqS] at k3)
       try (have k4:=ab m 1 107 zD rfl;simp[eqS] at k4)
       have q8:=ah H 9 zK;simp at q8;have q6:=ah H 4 zK;simp at q6;have q7:=ah H 5 zK;simp at q7;have H1:=ah H 13 zK;simp at H1;have H3:=ah H 7 zK;simp at H3;clear m H;have g6:FrS mb wr q:=i4.o.chg.trans b7;have p2:=(g6.blk c6.o.bt (show¬d.heap.size=mb by omega)).cell 5;have p3:=(g6.blk c6.o.bm (show¬w.heap.size=mb by omega)).cell 0;have p4:=(g6.blk c6.o.bs (show¬Z.heap.size=mb by omega)).cell 0;have G3:=(g6.blk c6.o.bk (show¬a7.heap.size=mb by omega)).cell 0;obtain⟨L0,t8,t9,v0⟩:=(b7.blk z8.o (show¬wr.heap.size=mb by omega)).get4;try simp only[List.getElem?_cons_succ,List.getElem?_cons_zero] at p2 p3 p4 G3
       clear b7 g6;exact zB
     ·intro a6 q a4
      change wpAny _ .any _ _ 5 #[true,true,true,true,true,true,true,true,true,false,false,false,false,false] _ _
      obtain⟨b5,rfl,f0,a8,A⟩:=a4.fin (n:=120) rfl;have F2:(TJ (aK u D s J) N0 mb U Y V R J r) (b5 112) q:=A.1;have F3:(ZK r) (b5 114) q:=A.2;have y9:b5 107=.slice b3 c.length b4:=f0 1 107 rfl rfl;have z1:b5 113=.int .i64 c.length:=f0 7 113 rfl rfl;have y0:∀c5:Nat,(c5<106\/114<c5)->b5 c5=_:=λc5 O0=>a8 c5 (by simp;omega)
      clear f0 a8 A a4;obtain⟨h,G,C,z0,f2,N,t,a3⟩:=F2;obtain⟨D3,z2,N2,c2⟩:=F3;obtain⟨r2,r3,rfl,g1,g2⟩:=RT9_iff.1 f2;have Q2:=g1.oneCell;have Q3:=g2.oneCell;simp[List.range,List.range.loop,y0,y9,z0,z1,z2];clear y0 y9 z0 z1 z2 g1 g2;have x1:FrS mb wr q:=i4.o.chg.trans t;have j0:=c6.o.frS x1 N a3 o6 j7 m6;have s3:=Hd j0;have B3:=Hd f2;have i2:=Hd C;have R2:wr.heap.size<=r.heap.size:=i4.o.size;have R3:r.heap.size<=q.heap.size:=t.size;have F5:c.length<=1000000000:=by omega
      clear C f2 N t a3 x1;refine rY (i:=9) zK rfl ?_;refine nj rfl (.tmp 107) (.tmp 114) 68 rfl F.heap.size _ 80 kB underlying68 rfl zD c (.slice b3 c.length b4) rfl j0.own D3 1 rfl c2 F5 j0.sz ?_;intro a c8 e4 c3 f1 F0 F1;refine wpList_nil ?_
      change wpAny _ .any _ _ 4 #[true,true,true,true,true,true,true,true,true,true,false,false,false,false] _ _
      simp only[Act.put,List.setIfInBounds_toArray,List.set_cons_zero,List.set_cons_succ];have n7:Chg (λb=>F.heap.size<=b) q e4:=Chg.grown (bg _ q) f1 (λa j9 _=>F0 a j9);have N1:=c3.base;have i7:=n7.blk j0.bt (show¬F.heap.size<=d.heap.size by omega);have s8:=Hd (show RT9 (λb=>F.heap.size<=b/\b≠a) e4 h.1 [.int .i64 h.1.op,.int .i64 h.1.sig,.int .i64 h.1.hi,.int .i64 h.1.lo,r2,r3] from RT9.turn (X:=λb=>(Value.slice b3 c.length b4).ownBlock=some b) ⟨f1.os,f1.tape,f1.output,f1.size,λa5 a4 c4=>f1.block a5 a4 λe=>c4 e.symm⟩ (λb y a9=>by
       have g7:=y.elim Tag.lt Tag.lt;have c9:∀i9,(Value.slice b3 c.length b4).ownBlock=some i9->i9<wr.heap.size:=λi9 e=>(c6.o.own.lt i9 e).2
       have p0:r.heap.size<=b:=a9;refine⟨λe=>by have:=c9 b e;omega,by have:=c6.o.sz;omega,λe=>?_⟩;subst e;rcases F1 with f|f
       ·have:=c9 b f;omega
       ·omega) h.1 _ B3.o)
      refine wpAny_take (i:=12) (v:=.pointer (some ⟨d.heap.size,5,none⟩)) rfl zK zK zK (λ_ _ _ f=>f) (.inl ⟨by simp[Region.wanted],λw=>by simp[execOp,go_sem]⟩) ?_;simp only[Act.put,List.setIfInBounds_toArray,List.set_cons_zero,List.set_cons_succ];refine wpAny_take (i:=10) (v:=.pointer (some ⟨a,c.length*6,none⟩)) rfl zK zK zK (λ_ _ _ f=>f) (.inl ⟨by simp[Region.wanted],λw=>by simp[execOp,go_sem,Act.eval];intro f;omega⟩) ?_;simp only[Act.put,List.setIfInBounds_toArray,List.set_cons_zero,List.set_cons_succ];refine rZ (i:=11) (j:=13) zK zK zK zK zK ?_ ?_
      ·refine jS rfl rfl ?_;obtain⟨f5,q9⟩:=c3.cell 0 zD;obtain⟨h7,H4⟩:=c3.cell 1 zD;obtain⟨h8,H5⟩:=c3.cell 2 zD;obtain⟨h9,H6⟩:=c3.cell 3 zD;obtain⟨q4,H7⟩:=c3.cell 4 zD;obtain⟨q5,H8⟩:=c3.cell 5 zD;simp only[zT,List.getElem?_cons_succ,List.getElem?_cons_zero,Nat.add_zero] at f5 h7 h8 h9 q4 q5 q9;obtain⟨M,b8⟩:∃M,M=((((((e4.setCell ⟨a,c.length*6,none⟩ (.int .i64 h.1.op)).setCell ⟨a,c.length*6+1,none⟩ (.int .i64 h.1.sig)).setCell ⟨a,c.length*6+2,none⟩ (.int .i64 h.1.hi)).setCell ⟨a,c.length*6+3,none⟩ (.int .i64 h.1.lo)).setCell ⟨a,c.length*6+4,none⟩ r2).setCell ⟨a,c.length*6+5,none⟩ r3):=⟨_,rfl⟩;have D6:=b8.symm;have d1:Chg (λb=>b=a) e4 M:=by rw[b8];exact(((((dk (X:=λb=>b=a) (bg _ e4) (p:=⟨a,_,none⟩) rfl _).setCell (p:=⟨a,_,none⟩) rfl _).setCell (p:=⟨a,_,none⟩) rfl _).setCell (p:=⟨a,_,none⟩) rfl _).setCell (p:=⟨a,_,none⟩) rfl _).setCell (p:=⟨a,_,none⟩) rfl _
       have F9:OwnT F.heap.size (c++[h.1]) (.slice (some ⟨a,0,none⟩) (c.length+1) c8) M:=by rw[b8];exact c3.fill s8.o
       have m2:=d1.blk i7 (show¬d.heap.size=a by omega);have r0:=m2.cell 5;have v1:=m2.frozen 5;simp only[List.getElem?_cons_succ,List.getElem?_cons_zero] at r0;obtain⟨a0,b9⟩:∃a0,a0=M.setCell ⟨d.heap.size,5,none⟩ (.slice (some ⟨a,0,none⟩) (c.length+1) c8):=⟨_,rfl⟩;have D7:=b9.symm;have d8:Chg (λb=>b=d.heap.size) M a0:=by rw[b9];exact dD _ _ _ _
       have f7:Blk a0 d.heap.size 73 [.int .i64 2,.int .i64 0,.int .i64 0,.int .i64 0,.slice O 1 P,.slice (some ⟨a,0,none⟩) (c.length+1) c8]:=by rw[b9];simpa using m2.set_ 5 (.slice (some ⟨a,0,none⟩) (c.length+1) c8)
       have h6:=F9.chg d8 (λb y=>by have:b=d.heap.size:=y;omega);have g5:Chg (λb=>F.heap.size<=b\/b=d.heap.size) q a0:=((n7.mono (λ_ _ f=>.inl f)).trans (d1.mono (λb _ f=>.inl (by have:b=a:=f;omega)))).trans (d8.mono (λ_ _ f=>.inr f));have l8:=Hd (CsI.more d4.o.mk_ s3.o g5 g3 g8 m6 o6 f7 h6);clear g5 d1 d8 b8 b9 h6 f7;go_wp2_with fail
       go_roundw;case rel=>exact⟨c.length+1,c++[h.1],h.2,_,zO,zN,zS,l8.o,by rw[e6.o,i2.o];rfl⟩
       case measure=>simp[intOf];omega
      ·refine jS rfl rfl ?_;have r0:=i7.cell 5;have v1:=i7.frozen 5;simp only[List.getElem?_cons_succ,List.getElem?_cons_zero] at r0;obtain⟨M,b8⟩:∃M,M=e4.setCell ⟨d.heap.size,5,none⟩ (.slice (some ⟨a,0,none⟩) (c.length+1) c8):=⟨_,rfl⟩;have D6:=b8.symm;have d1:Chg (λb=>b=d.heap.size) e4 M:=by rw[b8];exact dD _ _ _ _
       have C4:Blk M d.heap.size 73 [.int .i64 2,.int .i64 0,.int .i64 0,.int .i64 0,.slice O 1 P,.slice (some ⟨a,0,none⟩) (c.length+1) c8]:=by rw[b8];simpa using i7.set_ 5 (.slice (some ⟨a,0,none⟩) (c.length+1) c8)
       have e1:=c3.chg d1 (λb y=>by have:b=d.heap.size:=y;omega);obtain⟨f5,q9⟩:=e1.cell 0 zD;obtain⟨h7,H4⟩:=e1.cell 1 zD;obtain⟨h8,H5⟩:=e1.cell 2 zD;obtain⟨h9,H6⟩:=e1.cell 3 zD;obtain⟨q4,H7⟩:=e1.cell 4 zD;obtain⟨q5,H8⟩:=e1.cell 5 zD;simp only[zT,List.getElem?_cons_succ,List.getElem?_cons_zero,Nat.add_zero] at f5 h7 h8 h9 q4 q5 q9;obtain⟨a0,b9⟩:∃a0,a0=((((((M.setCell ⟨a,c.length*6,none⟩ (.int .i64 h.1.op)).setCell ⟨a,c.length*6+1,none⟩ (.int .i64 h.1.sig)).setCell ⟨a,c.length*6+2,none⟩ (.int .i64 h.1.hi)).setCell ⟨a,c.length*6+3,none⟩ (.int .i64 h.1.lo)).setCell ⟨a,c.length*6+4,none⟩ r2).setCell ⟨a,c.length*6+5,none⟩ r3):=⟨_,rfl⟩;have D7:=b9.symm;have d8:Chg (λb=>b=a) M a0:=by rw[b9];exact(((((dk (X:=λb=>b=a) (bg _ M) (p:=⟨a,_,none⟩) rfl _).setCell (p:=⟨a,_,none⟩) rfl _).setCell (p:=⟨a,_,none⟩) rfl _).setCell (p:=⟨a,_,none⟩) rfl _).setCell (p:=⟨a,_,none⟩) rfl _).setCell (p:=⟨a,_,none⟩) rfl _
       have h6:OwnT F.heap.size (c++[h.1]) (.slice (some ⟨a,0,none⟩) (c.length+1) c8) a0:=by
        rw[b9];exact e1.fill (RT9.turn d1 (λb _ a9=>⟨λe=>by have:b=d.heap.size:=e;omega,a9⟩) h.1 _ s8.o)
       have f7:=d8.blk C4 (show¬d.heap.size=a by omega);have g5:Chg (λb=>F.heap.size<=b\/b=d.heap.size) q a0:=((n7.mono (λ_ _ f=>.inl f)).trans (d1.mono (λ_ _ f=>.inr f))).trans (d8.mono (λb _ f=>.inl (by have:b=a:=f;omega)));have l8:=Hd (CsI.more d4.o.mk_ s3.o g5 g3 g8 m6 o6 f7 h6);clear g5 d1 d8 b8 b9 h6 f7;go_wp2_with fail
       go_roundw;case rel=>exact⟨c.length+1,c++[h.1],h.2,_,zO,zN,zS,l8.o,by rw[e6.o,i2.o];rfl⟩
       case measure=>simp[intOf];omega
   ·have m:b6.drop c.length=[]:=by rw[List.drop_eq_nil_iff,x3];omega
    rw[m] at Q;have e6:=Hd (show c7=.ok (c,J) from Q);have C6:=hi.bt;have C5:=hi.br;have C3:=Hd hi.fr;have r8:=Hd hi.cn;have C0:=Hd hi.mk_;have w8:SlE9 (λb=>w.heap.size<=b) wr [b2.1] (.slice O 1 P):=SlE9.turn hi.se (bg (λ_=>False) wr) (λb _ a9=>⟨id,a9.1⟩);have x2:=hi.own.slY;have i2:=Hd (show aK u x s f4=.ok (.mk 2 0 0 0 [b2.1] c,J) by rw[i1.o,m0.o];simp only[bind,Except.bind];rw[s6.o];simp only;rw[<-s7.o,e6.o];rfl);clear Q m hi;have t4:=C6;have f8:=C5;obtain⟨k3,k4,k5,k6,k7,k8⟩:=t4.get6;obtain⟨L1,L2,L3,L4,L5,v1⟩:=f8.free6;obtain⟨L6,L7,L8,L9,M0,M1⟩:=f8.get6;obtain⟨d6,j1⟩:∃d6,d6=(((((wr.setCell ⟨E.heap.size,0,none⟩ (.int .i64 2)).setCell ⟨E.heap.size,1,none⟩ (.int .i64 0)).setCell ⟨E.heap.size,2,none⟩ (.int .i64 0)).setCell ⟨E.heap.size,3,none⟩ (.int .i64 0)).setCell ⟨E.heap.size,4,none⟩ (.slice O 1 P)).setCell ⟨E.heap.size,5,none⟩ (.slice b3 c.length b4):=⟨_,rfl⟩;have M5:=j1.symm;have t3:Blk d6 E.heap.size 73 [.int .i64 2,.int .i64 0,.int .i64 0,.int .i64 0,(.slice O 1 P),(.slice b3 c.length b4)]:=by rw[j1];exact f8.store6 _ _ _ _ _ _
    have g4:Chg (λb=>b=E.heap.size) wr d6:=by rw[j1];exact gT _ _ _ _ _ _ _ _
    have o0:FrS mb w d6:=C3.o.trans_new g4 (λb y=>by have:b=E.heap.size:=y;omega);have B1:=Hd (d4.o.mk_.back o0 C0.o g4 (λy=>by have:mb=E.heap.size:=y;omega) r8.o);have A4:=Hd (show SlE9 (λb=>w.heap.size<=b) d6 [b2.1] (.slice O 1 P) from SlE9.turn w8 g4 (λb y a9=>⟨λe=>absurd (y.one (show Tag _ b _ from(show b=E.heap.size from e)▸f8.tag)) zD,zO⟩));have A9:=Hd (show SlT9 (λb=>w.heap.size<=b) d6 c (.slice b3 c.length b4) from SlT9.turn x2 g4 (λb y a9=>⟨λe=>by have:b=E.heap.size:=e;omega,zO⟩));have A5:=Hd o0;obtain⟨G4,G5,G6,G7,G8,G9⟩:=t3.get6;clear x2 w8 t4 f8 j1 t3 g4 o0;go_wp2_with fail
    refine bodyPost_ret (v:=.agg #[.int .i64 2,.int .i64 0,.int .i64 0,.int .i64 0,(.slice O 1 P),(.slice b3 c.length b4)]) ?_ rfl (.ok i2.o ⟨[.int .i64 2,.int .i64 0,.int .i64 0,.int .i64 0,(.slice O 1 P),(.slice b3 c.length b4)],rfl,RT9_iff.2 ⟨_,_,rfl,A4.o,A9.o⟩,B1.o,A5.o,r8.o⟩);simp[results,results149,go_sem,G4,G5,G6,G7,G8,G9]
theorem ra(f:World)(B N0 mb:Nat)(i k j g:Value)(c:Bool):∀x:S,VS x->
 (MayS x->dG f B N0 mb i k j g c 149 (aK c) x)/\(∀q,MayArm q x->dG f B N0 mb i k j g c 186 (cz c) x):=by
 intro x;induction x using S.ind with
 |h x ih=>
  intro s;obtain⟨-,n,m⟩:=VS_iff.1 s;refine⟨λp=>?_,λq p=>?_⟩
  ·obtain⟨o,-,r⟩:=MayS_iff.1 p;rcases r with⟨d,l,v,-⟩|⟨d,l,-,-,-,e⟩|⟨d,l,e⟩|⟨d,-,e⟩|⟨d,l,e⟩
   ·exact yV f B N0 mb i k j g c x d n o l (λb a=>by
     intro w;have t:b∈x.x:=List.mem_of_mem_head? a;have:=(MayX_iff.1 (o b t)).1.1;unfold eg at this;omega)
   ·exact yX f B N0 mb i k j g c x d n o l (λb a=>(ih b a (m b a)).1 (e b a))
   ·exact yW f B N0 mb i k j g c x d n o l (λb a=>by
     obtain⟨u,hi,rfl⟩:=List.mem_iff_getElem.1 a;exact(ih _ a (m _ a)).2 _ (e.2 u hi))
   ·exact rP f B N0 mb i k j g c x d (λb a=>(ih b a (m b a)).1 (e b a))
   ·exact yY f B N0 mb i k j g c x d n l (λb a=>(ih b a (m b a)).1 (e b a))
  ·obtain⟨-,-,-,-,e⟩:=MayArm_iff.1 p;exact tj f B N0 mb i k j g c x n (λb a=>(ih b a (m b a)).1 (e b a))
