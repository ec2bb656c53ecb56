import Derived.Test.YtlfmlodanoolhaaGreatDoorV22
set_option linter.all false
set_option maxRecDepth 200000
set_option maxHeartbeats 0
namespace Go.Proofs.YtlfmlodanoolhaaGreatDoor
open Go Go.RowKit Go.Proofs.Tryz
attribute [local go_sem] bc
theorem BI(g:SRow)(F:shapeRows[4]? =some g)(H of:ByteArray)(P Q R S T U:Option Addr)(u v y z A B:Nat)(h sl j i k bl:Nat)(g2:k+bl<=1000000000)
 (b1 b2 ba bs bL be bp bb:Bool) (W:World) (b9:Tabs W) (g0:((h:Int)==g.x)=false) (g1:¬(h:Int)=g.x)
 (l:ECalls Tryz.prog 174 #[.string H,.bool g.name] W (.bool b1)) (m:ECalls Tryz.prog 174 #[.string of,.bool g.of] W (.bool b2))
 (t:ECalls Tryz.prog 173 #[.slice P h u,.func (.func 135) #[] #[]] W (.bool ba))
 (s:ECalls Tryz.prog 176 #[.slice Q sl v,.func (.func 177) #[] #[]] W (.bool bs))
 (q:ECalls Tryz.prog 139 #[.slice R j y,.func (.func 140) #[] #[]] W (.bool bL))
 (p:ECalls Tryz.prog 139 #[.slice S i z,.func (.func 140) #[] #[]] W (.bool be))
 (r:ECalls Tryz.prog 136 #[.slice T k A,.func (.func 137) #[] #[]] W (.bool bp))
 (n:ECalls Tryz.prog 136 #[.slice U bl B,.func (.func 137) #[] #[]] W (.bool bb)):
 Calls Tryz.prog 140 #[.agg #[.int .i64 4,.string H,.string of,.slice P h u,.slice Q sl v,.slice R j y,.slice S i z,.slice T k A,.slice U bl B]] W
  λe f7=>e=.returned (.bool (dP b1 b2 h g (decide (0<sl)) (decide (0<j)) (decide (0<i)) (decide ((0:Int)<(k:Int)+bl)) ba bs bL be bp bb))/\Ext W f7:=by
 obtain⟨L,M,O,N,K,J,I⟩:=g;obtain⟨b7,E⟩:∃f,decide (0<sl)=f:=⟨_,rfl⟩;obtain⟨b6,D⟩:∃f,decide (0<j)=f:=⟨_,rfl⟩;obtain⟨b5,C⟩:∃f,decide (0<i)=f:=⟨_,rfl⟩;obtain⟨c7,c0⟩:∃f,decide ((0:Int)<(k:Int)+bl)=f:=⟨_,rfl⟩;have e7:decide ((0:Int)<(sl:Int))=b7:=by rw[<-E];simp
 have e6:decide ((0:Int)<(j:Int))=b6:=by rw[<-D];simp
 have e5:decide ((0:Int)<(i:Int))=b5:=by rw[<-C];simp
 obtain⟨c2,G⟩:∃c2,c2=dP b1 b2 h ⟨L,M,O,N,K,J,I⟩ b7 b6 b5 c7 ba bs bL be bp bb:=⟨_,rfl⟩;rw[E,D,C,c0,<-G];have a3:=Hd G;clear G;obtain⟨V,X,Y,Z,a0,a1,a2⟩:=Cells.later7 (b9.shapes 4 _ F);have e8:=Hd F;clear F b9;obtain⟨d,b8,e3,c,e9,a4,a5,a6,a7,a8,a9,b0,b3,b4⟩:=jb W (.int .i64 4) (.string H) (.string of) (.slice P h u) (.slice Q sl v) (.slice R j y) (.slice S i z) (.slice T k A) (.slice U bl B) 37;have V:∀e:Later d,e.w.cell? ⟨0,28,none⟩=some (.bool L):=am V c;have X:∀e:Later d,e.w.cell? ⟨0,29,none⟩=some (.bool M):=am X c;have Y:∀e:Later d,e.w.cell? ⟨0,30,none⟩=some (.int .i64 O):=am Y c;have Z:∀e:Later d,e.w.cell? ⟨0,31,none⟩=some (.bool N):=am Z c;have a0:∀e:Later d,e.w.cell? ⟨0,32,none⟩=some (.bool K):=am a0 c;have a1:∀e:Later d,e.w.cell? ⟨0,33,none⟩=some (.bool J):=am a1 c;have a2:∀e:Later d,e.w.cell? ⟨0,34,none⟩=some (.bool I):=am a2 c;obtain⟨f8,f9,e4,c1,f0,c8,c9,d0,d1,d2,d3,d4⟩:=kl b8.w (.bool L) (.bool M) (.int .i64 O) (.bool N) (.bool K) (.bool J) (.bool I) 221;have a:=b8.ext.trans c1;have c4:=am a4 a;have c5:=am a5 a;have c6:=am a6 a;have f1:=am a7 a;have f2:=am a8 a;have f3:=am a9 a;have f4:=am b0 a;have f5:=am b3 a;have f6:=am b4 a;have b:=c.trans a;have l:=Hd (l.later b);have m:=Hd (m.later b);have t:=Hd (t.later b);have s:=Hd (s.later b);have q:=Hd (q.later b);have p:=Hd (p.later b);have r:=Hd (r.later b);have n:=Hd (n.later b)
 rename_i d5 d6 e2 e1 d9 d8 e0 d7
 clear d5 d6 e2 e1 d9 d8 e0 d7 c c1 a e9 f0 a5 a6 a7 a8 a9 b0 b3 b4
 go_in
 go_wp2_with (first
  |(go_at_call 174;with_reducible refine(l.o.at_ _).mono ?_;rintro _ _ ⟨rfl,e,rfl⟩)
  |(go_at_call 174;with_reducible refine(m.o.at_ _).mono ?_;rintro _ _ ⟨rfl,e,rfl⟩)
  |(go_at_call 173;with_reducible refine(t.o.at_ _).mono ?_;rintro _ _ ⟨rfl,e,rfl⟩)
  |(go_at_call 176;with_reducible refine(s.o.at_ _).mono ?_;rintro _ _ ⟨rfl,e,rfl⟩)
  |(go_at_call 139;with_reducible refine(q.o.at_ _).mono ?_;rintro _ _ ⟨rfl,e,rfl⟩)
  |(go_at_call 139;with_reducible refine(p.o.at_ _).mono ?_;rintro _ _ ⟨rfl,e,rfl⟩)
  |(go_at_call 136;with_reducible refine(r.o.at_ _).mono ?_;rintro _ _ ⟨rfl,e,rfl⟩)
  |(go_at_call 136;with_reducible refine(n.o.at_ _).mono ?_;rintro _ _ ⟨rfl,e,rfl⟩))
 all_goals
  go_ret;refine⟨?_,b.trans (ag _)⟩;rw[a3.o];refine congrArg (λc3=>Ending.returned (Value.bool c3)) ?_;clear E D C c0 e7 e6 e5;clear a3 l m t s q p r n a4 c4 c5 c6 c8 c9 d0 d1 d2 d3 d4 f1 f2 f3 f4 f5 f6 e3 e4 e8 V X Y Z a0 a1 a2 b;unfold dP
  simp_all
  try omega
theorem xS{x:Itm}{c:SRow}(r:fH x↔fJ c x)(u:x.op≠4)(ba bs bL be bp bb:Bool)(t:ba=yes (∀a,a∈x.x->MayX a))(h2:bs=yes (∀a,a∈x.s->MayS a))(h3:bL=yes (∀a,a∈x.l->MayI a))(v:be=yes (∀a,a∈x.els->MayI a))
 (w:bp=yes (∀a,a∈x.params->cq a)) (y:bb=yes (∀a,a∈x.binds->cq a)):
 dP (yes (cV (c.name=true) x.name)) (yes (cV (c.of=true) x.of)) x.x.length c (decide (0<x.s.length)) (decide (0<x.l.length)) (decide (0<x.els.length)) (decide ((0:Int)<(x.params.length:Int)+x.binds.length)) ba bs bL be bp bb=yes (MayI x):=by
 subst t h2 h3 v w y;rw[di MayI_iff,di (show fH x/\_↔fJ c x/\_ from⟨λb=>⟨r.1 b.1,b.2⟩,λb=>⟨r.2 b.1,b.2⟩⟩)];rw[Bool.eq_iff_iff];unfold dP fJ el dS;simp only[Bool.and_eq_true,yes_iff,Bool.or_eq_true,beq_iff_eq,Bool.not_eq_true',decide_eq_false_iff_not];generalize cV (c.name=true) x.name=F1;generalize cV (c.of=true) x.of=F2;generalize (∀a,a∈x.x->MayX a)=P1;generalize (∀a,a∈x.s->MayS a)=P2;generalize (∀a,a∈x.l->MayI a)=P3;generalize (∀a,a∈x.els->MayI a)=P4;generalize (∀a,a∈x.params->cq a)=P5;generalize (∀a,a∈x.binds->cq a)=P6;constructor
 ·rintro⟨d,i,j,k,m,n,o,p,q,e,f,g,h⟩;exact⟨⟨d,i,j,λb=>(u b).elim,dB k (λb=>by omega),dB m (λb=>by omega),dB n (λb=>by omega),dB o (λb=>by omega)⟩,p,q,e,f,g,h⟩
 ·rintro⟨⟨d,i,j,-,k,m,n,o⟩,p,q,e,f,g,h⟩;exact⟨d,i,j,dB k (λb=>by omega),dB m (λb=>by omega),dB n (λb=>by omega),dB o (λb=>by omega),p,q,e,f,g,h⟩
theorem Ae{x:Itm}{c:SRow}(u:fH x↔fJ c x)(w:x.op=4)(t ba bs bL be bp bb:Bool)(ht:t=yes (fy x.x))(v:ba=yes (∀a,a∈x.x->MayX a))(h2:bs=yes (∀a,a∈x.s->MayS a))(h3:bL=yes (∀a,a∈x.l->MayI a))(y:be=yes (∀a,a∈x.els->MayI a))
 (z:bp=yes (∀a,a∈x.params->cq a)) (A:bb=yes (∀a,a∈x.binds->cq a)):
 dP (yes (cV (c.name=true) x.name)) (yes (cV (c.of=true) x.of)) x.x.length c (decide (0<x.s.length)) (decide (0<x.l.length)) (decide (0<x.els.length)) (decide ((0:Int)<(x.params.length:Int)+x.binds.length)) (t && ba) bs bL be bp bb=yes (MayI x):=by
 subst v h2 h3 y z A ht;rw[di MayI_iff,di (show fH x/\_↔fJ c x/\_ from⟨λb=>⟨u.1 b.1,b.2⟩,λb=>⟨u.2 b.1,b.2⟩⟩)];rw[Bool.eq_iff_iff];unfold dP fJ el dS;simp only[Bool.and_eq_true,yes_iff,Bool.or_eq_true,beq_iff_eq,Bool.not_eq_true',decide_eq_false_iff_not];generalize cV (c.name=true) x.name=F1;generalize cV (c.of=true) x.of=F2;generalize (∀a,a∈x.x->MayX a)=P1;generalize (∀a,a∈x.s->MayS a)=P2;generalize (∀a,a∈x.l->MayI a)=P3;generalize (∀a,a∈x.els->MayI a)=P4;generalize (∀a,a∈x.params->cq a)=P5;generalize (∀a,a∈x.binds->cq a)=P6;constructor
 ·rintro⟨d,i,j,k,m,n,o,⟨r,p⟩,q,e,f,g,h⟩;exact⟨⟨d,i,j,λ_=>r,dB k (λb=>by omega),dB m (λb=>by omega),dB n (λb=>by omega),dB o (λb=>by omega)⟩,p,q,e,f,g,h⟩
 ·rintro⟨⟨d,i,j,r,k,m,n,o⟩,p,q,e,f,g,h⟩;exact⟨d,i,j,dB k (λb=>by omega),dB m (λb=>by omega),dB n (λb=>by omega),dB o (λb=>by omega),⟨r w,p⟩,q,e,f,g,h⟩
theorem xR{b1 b2:Bool}{b:Nat}{a:SRow}{cS cL cE cB ba bs bL be bp bb:Bool}(h:¬(b:Int)=a.x):dP b1 b2 b a cS cL cE cB ba bs bL be bp bb=false:=by
 unfold dP;rw[beq_eq_false_iff_ne.2 h];simp
theorem xF(B:Nat)(x:Itm):VI x->aj x<=65536->pB B x:=by
 induction x using Itm.ind with
 |h x ih1 ih2=>
 intro b7 d4 w c8 g b4 f;obtain⟨a4,a5,a6,a7,a8,a9,rfl,I,J,K,L,M,N⟩:=RI_iff.1 b4;obtain⟨c2,c3,c6,c5,c1,c0,c4,b9⟩:=VI_iff.1 b7;have d3:=bq x;by_cases X:x.op<1\/10<x.op
 ·rw[yes_no.2 (λH:MayI x=>wB X (MayI_iff.1 H).1)];exact xG _ X _ _ _ _ _ _ _ _ rfl rfl I.oneCell J.oneCell K.oneCell L.oneCell M.oneCell N.oneCell w
 ·obtain⟨i,n⟩:∃i:Nat,x.op=i:=⟨x.op.toNat,zO⟩;obtain⟨d,k⟩:∃d,shapeRows[i]? =some d:=⟨shapeRows[i]'(show i<11 by omega),ea _⟩;have O:=wE (x:=x) i d k zO zO n;have p:ECalls Tryz.prog 174 #[.string x.name,.bool d.name] w (.bool (yes (cV (d.name=true) x.name))):=λc b=>qv _ _ c (g.ext b) c2
  have q:ECalls Tryz.prog 174 #[.string x.of,.bool d.of] w (.bool (yes (cV (d.of=true) x.of))):=λc b=>qv _ _ c (g.ext b) c3
  have z:ECalls Tryz.prog 173 #[a4,.func (.func 135) #[] #[]] w (.bool (yes (∀a,a∈x.x->MayX a))):=
   λc b=>fT B x.x zO c6 c a4 (g.ext b) (I.extRX b f) (ad f b.size)
  have y:ECalls Tryz.prog 176 #[a5,.func (.func 177) #[] #[]] w (.bool (yes (∀a,a∈x.s->MayS a))):=
   λc b=>xL B x.s zO c5 c a5 (g.ext b) (J.extRS b f) (ad f b.size)
  have u:ECalls Tryz.prog 139 #[a6,.func (.func 140) #[] #[]] w (.bool (yes (∀a,a∈x.l->MayI a))):=
   λc b=>lN B x.l (λa j=>ih1 a j (c1 a j) (by have:=ay aj x.l a j;omega)) (by have:=aw aj x.l cQ;omega) c a6 (g.ext b) (K.extRI b f) (ad f b.size)
  have t:ECalls Tryz.prog 139 #[a7,.func (.func 140) #[] #[]] w (.bool (yes (∀a,a∈x.els->MayI a))):=
   λc b=>lN B x.els (λa j=>ih2 a j (c0 a j) (by have:=ay aj x.els a j;omega)) (by have:=aw aj x.els cQ;omega) c a7 (g.ext b) (L.extRI b f) (ad f b.size)
  have v:ECalls Tryz.prog 136 #[a8,.func (.func 137) #[] #[]] w (.bool (yes (∀a,a∈x.params->cq a))):=
   λc b=>lM B x.params zO c4 c a8 (g.ext b) (M.extRB b f) (ad f b.size)
  have r:ECalls Tryz.prog 136 #[a9,.func (.func 137) #[] #[]] w (.bool (yes (∀a,a∈x.binds->cq a))):=
   λc b=>lM B x.binds zO b9 c a9 (g.ext b) (N.extRB b f) (ad f b.size)
  have d2:=aw au x.params du;have d1:=aw au x.binds du;have d5:=aw al x.x cR;obtain⟨a3,A,rfl,-,b6⟩:=I;obtain⟨P,C,rfl,-,-⟩:=J;obtain⟨Q,D,rfl,-,-⟩:=K;obtain⟨R,E,rfl,-,-⟩:=L;obtain⟨S,F,rfl,-,-⟩:=M;obtain⟨T,G,rfl,-,-⟩:=N;by_cases V:i=4
  ·subst V;by_cases m:(x.x.length:Int)=d.x
   ·have W:0<x.x.length:=by
     simp only[shapeRows,List.getElem?_cons_succ,List.getElem?_cons_zero,Option.some.injEq] at k;subst k;simp only at m;omega
    obtain⟨b0,o,d6,d7,d8,d9,e0,e1,rfl,d0,b5,U,b8,Y,Z,a0,a1,a2⟩:=b6.open6 W;obtain⟨c7,b3,c9⟩:=RX_iff.1 b5;cases b3;simp only[Nat.zero_mul,Nat.add_zero] at U;rw[<-Ae O n (yes (fy x.x)) _ _ _ _ _ _ rfl rfl rfl rfl rfl rfl rfl,n]
    exact AP d k x.name x.of _ P Q R S T A C D E F G x.x.length x.s.length x.l.length x.els.length x.params.length x.binds.length zO _ _ _ _ _ _ _ _ _ w g (beq_iff_eq.2 m) zO b0 o rfl _ _ _ _ _ _ b8 Y Z a0 a1 a2
     (λe=>U.ext e.ext) (λc b=>by rw[di (kG W)];exact my _ _ _ _ _ _ Y Z a0 a1 a2 c) p q z y u t v r
   ·rw[show yes (MayI x)=false from yes_no.2 (λH=>m (O.1 (MayI_iff.1 H).1).2.2.1),n];rw[<-xR (b1:=yes (cV (d.name=true) x.name)) (b2:=yes (cV (d.of=true) x.of)) (cS:=decide (0<x.s.length)) (cL:=decide (0<x.l.length)) (cE:=decide (0<x.els.length)) (cB:=decide ((0:Int)<(x.params.length:Int)+x.binds.length)) (ba:=yes (∀a,a∈x.x->MayX a)) (bs:=yes (∀a,a∈x.s->MayS a)) (bL:=yes (∀a,a∈x.l->MayI a)) (be:=yes (∀a,a∈x.els->MayI a)) (bp:=yes (∀a,a∈x.params->cq a)) (bb:=yes (∀a,a∈x.binds->cq a)) m];exact BI d k x.name x.of a3 P Q R S T A C D E F G x.x.length x.s.length x.l.length x.els.length x.params.length x.binds.length zO _ _ _ _ _ _ _ _ w g (beq_eq_false_iff_ne.2 m) m p q z y u t v r
  ·rw[<-xS O zO _ _ _ _ _ _ rfl rfl rfl rfl rfl rfl,n];exact zX i d k zO zO V x.name x.of a3 P Q R S T A C D E F G x.x.length x.s.length x.l.length x.els.length x.params.length x.binds.length zO _ _ _ _ _ _ _ _ w g p q z y u t v r
theorem xH(B:Nat)(x:Mdl)(w:World)(y:List Value)(g:Tabs w)(K:RM w B x y)(i:B<=w.heap.size)(N:ar x<=65536)(O:VM x):
 Calls Tryz.prog 91 #[.agg y.toArray] w λe d=>e=.returned (.bool (yes (dc x)))/\Ext w d:=by
 obtain⟨n,p,q,rfl,j,k,l⟩:=K;obtain⟨P,D,E,C⟩:=O;have M:ar x=1+aa au x.params+aa aJ x.ports+aa aj x.items:=by unfold ar;omega
 have S:=j.oneCell;have T:=k.oneCell;have U:=l.oneCell;obtain⟨f,Q,L,c,R,G,H,I,J⟩:=en w (.string x.name) n p q 30;have m:B<=f.heap.size:=ad i c.size
 have r:=Hd (show ECalls Tryz.prog 134 #[.string x.name] f (.bool (yes (bn x.name))) from
  λd b=>by rw[it];exact eN x.name d ((g.ext (c.trans b)).lib) P)
 have t:=Hd (show ECalls Tryz.prog 136 #[n,.func (.func 137) #[] #[]] f (.bool (yes (∀a,a∈x.params->cq a))) from
  λd b=>lM B x.params zO D d n (g.ext (c.trans b)) (j.extRB (c.trans b) i) (ad m b.size))
 have u:=Hd (show ECalls Tryz.prog 138 #[p,.func (.func 133) #[] #[]] f (.bool (yes (∀a,a∈x.ports->fV a))) from
  λd b=>xJ B x.ports zO E d p (g.ext (c.trans b)) (k.extRP (c.trans b) i) (ad m b.size))
 have s:=Hd (show ECalls Tryz.prog 139 #[q,.func (.func 140) #[] #[]] f (.bool (yes (∀a,a∈x.items->MayI a))) from
  λd b=>lN B x.items (λa z=>xF B a (C a z) (by have:=ay aj x.items a z;omega)) (by have:=aw aj x.items cQ;omega) d q (g.ext (c.trans b)) (l.extRI (c.trans b) i) (ad m b.size))
 obtain⟨A,h⟩:∃A,A=yes (dc x):=⟨_,rfl⟩;rw[<-h];unfold dc at h;rw[hT,hT,hT] at h;have v:=Hd h;clear g N M h j k l D E C;generalize yes (bn x.name)=b1 at*;generalize yes (∀a,a∈x.params->cq a)=b2 at*;generalize yes (∀a,a∈x.ports->fV a)=b3 at*;generalize yes (∀a,a∈x.items->MayI a)=b4 at*
 go_in
 go_wp2_with (first
  |(go_at_call 134;refine(r.o.at_ _).mono ?_;rintro _ _ ⟨rfl,e,rfl⟩)
  |(go_at_call 136;refine(t.o.at_ _).mono ?_;rintro _ _ ⟨rfl,e,rfl⟩)
  |(go_at_call 138;refine(u.o.at_ _).mono ?_;rintro _ _ ⟨rfl,e,rfl⟩)
  |(go_at_call 139;refine(s.o.at_ _).mono ?_;rintro _ _ ⟨rfl,e,rfl⟩))
 all_goals
  go_ret;refine⟨?_,c.trans (ag _)⟩;rw[v.o];refine congrArg (λF=>Ending.returned (Value.bool F)) ?_;clear v r t u s G H I J L c
  simp_all
theorem re(f:Nat)(s:Enters Tryz.prog f)(i:Value)(n d:Nat)(b:Bool)(w:World)(C:n<=1000000000)(B:d<=1000000000)
 (k:n<=65536->d<=64->∀c,Ext w c->Calls Tryz.prog f #[i] c λe u=>e=.returned (.bool b)/\Ext c u):
 Calls Tryz.prog 86 #[av n d,.func (.func f) #[] #[i]] w λe c=>e=.returned (.int .i64 (aB n d b))/\Ext w c:=by
 unfold av;have A:=s.o;obtain⟨l,a⟩:∃l,l=aB n d b:=⟨_,rfl⟩;rw[<-a];unfold aB at a;obtain⟨p,y,z,h,D,v,x⟩:=si w (.int .i64 n) (.int .i64 d) 141;by_cases g:65536<n
 ·rw[if_pos (.inl g)] at a;subst a;have q:(65536:Int)<n:=by omega
  clear g
  go_in
  go_wp2_with fail
  go_ret;exact⟨rfl,h.trans (ag _)⟩
 ·have q:¬(65536:Int)<n:=by omega
  by_cases j:64<d
  ·rw[if_pos (.inr j)] at a;subst a;have r:(64:Int)<d:=by omega
   clear g j
   go_in
   go_wp2_with fail
   go_ret;exact⟨rfl,h.trans (ag _)⟩
  ·have r:¬(64:Int)<d:=by omega
   rw[if_neg zO] at a;have m:=Hd (show ECalls Tryz.prog f #[i] p (.bool b) from λc t=>k zO zO c (h.trans t));clear g j k;cases b
   all_goals
    simp only[if_true,Bool.false_eq_true,if_false] at a;subst a
    go_in
    go_wp2_with fail
    refine(m.o.at_ _).mono ?_;rintro _ _ ⟨rfl,e,rfl⟩;go_wp2_with fail
    go_ret;exact⟨rfl,h.trans (ag _)⟩
theorem uJ:Enters Tryz.prog 179:=⟨λ_ _=>by kernel_rfl⟩
theorem uI:Enters Tryz.prog 89:=⟨λ_ _=>by kernel_rfl⟩
theorem nZ(B:Nat)(x:X)(w:World)(G:List Value)(J:Tabs w)(s:RX w B x G)(r:B<=w.heap.size)(O:al x<=1000000000)(P:VX x):
 Calls Tryz.prog 145 #[.agg G.toArray] w λe a=>e=.returned (.int .i64 (aB (al x) (aM x) (yes (MayX x))))/\Ext w a:=by
 have p:=Hd s;obtain⟨q,rfl,I⟩:=RX_iff.1 s;have a0:=I.oneCell;have Y:=fo x;obtain⟨d,W,U,i,Z,z,A,C,D,E,F⟩:=cA w (.int .i64 x.op) (.string x.name) (.int .i64 x.n) (.int .i64 x.w) (.int .u64 x.v) q 40;have H:B<=d.heap.size:=ad r i.size
 have k:=Hd (show ECalls Tryz.prog 167 #[.agg #[.int .i64 x.op,.string x.name,.int .i64 x.n,.int .i64 x.w,.int .u64 x.v,q]] d (av (al x) (aM x)) from
  λa b=>iQ B x a _ (p.o.ext (i.trans b) r) (ad H b.size) O)
 have y:=Hd (λ(u:al x<=65536)=>show ECalls Tryz.prog 135 #[.agg #[.int .i64 x.op,.string x.name,.int .i64 x.n,.int .i64 x.w,.int .u64 x.v,q]] d (.bool (yes (MayX x))) from
  λa b=>jX B x a _ (J.ext (i.trans b)) (p.o.ext (i.trans b) r) (ad H b.size) u P)
 have l:=Hd (show ECalls Tryz.prog 86 #[av (al x) (aM x),.func (.func 179) #[] #[.pointer (some ⟨w.heap.size,0,none⟩)]] d (.int .i64 (aB (al x) (aM x) (yes (MayX x)))) from
  λa b=>re _ uJ _ _ _ _ a O zO λu _ a1 V=>by
   have m:=Hd (y.o u);obtain⟨h,K⟩:=ae (b.trans V);generalize yes (MayX x)=bb at*;suffices j:Calls Tryz.prog 179 #[.pointer (some ⟨w.heap.size,0,none⟩)] h.w λe a=>e=.returned (.bool bb)/\Ext h.w a by rw[K];exact j
   have T:=Hd (af h.w);obtain⟨f,t⟩:∃f,f=h.w:=⟨_,rfl⟩;have c:Ext d f:=by rw[t];exact h.ext
   have m:=Hd (m.o.later c);have z:=am z c;have A:=am A c;have C:=am C c;have D:=am D c;have E:=am E c;have F:=am F c;rw[<-t];obtain⟨S,L⟩:=ae (af f);suffices j:Calls Tryz.prog 179 #[.pointer (some ⟨w.heap.size,0,none⟩)] S.w λe a=>e=.returned (.bool bb)/\Ext f a by rw[<-L] at j;exact j
   clear t L K T U k;generalize w.heap.size=g at*
   go_in
   go_wp2_with (go_at_call 135;refine(m.o.at_ _).mono ?_;rintro _ _ ⟨rfl,e,rfl⟩)
   go_ret;exact⟨rfl,ag _⟩)
 obtain⟨R,N⟩:∃R,R=aB (al x) (aM x) (yes (MayX x)):=⟨_,rfl⟩;rw[<-N] at l⊢;clear s I P N y p J;generalize al x=s1 at*;generalize aM x=s2 at*;obtain⟨Q,M⟩:∃Q,Q=av s1 s2:=⟨_,rfl⟩;rw[<-M] at k l;clear M
 go_in
 go_wp2_with (first
  |(go_at_call 167;refine(k.o.at_ _).mono ?_;rintro _ _ ⟨rfl,e,rfl⟩)
  |(go_at_call 86;refine(l.o.at_ _).mono ?_;rintro _ _ ⟨rfl,e,rfl⟩))
 go_ret;exact⟨rfl,i.trans (ag _)⟩
noncomputable def ed(l:List Mdl):Int:=if 64<l.length then 2 else aB (aa ar l) (ai bH l) (yes (∀a,a∈l->dc a))
theorem wY(B:Nat)(l:List Mdl)(w:World)(v:Value)(z:Tabs w)(y:Sl (RM w B) w B 4 l v)(x:B<=w.heap.size)(L:aa ar l<=1000000000)(C:∀a,a∈l->VM a):
 Calls Tryz.prog 59 #[.agg #[v]] w λe b=>e=.returned (.int .i64 (ed l))/\Ext w b:=by
 have m:=Hd y;have Z:=y.oneCell;have X:=jV l;have Y:=aw ar l gj;obtain⟨h,W,R,d,a0,E⟩:=ja w v 24;have G:B<=h.heap.size:=ad x d.size
 have j:=Hd (show ECalls Tryz.prog 87 #[v,.func (.func 88) #[] #[]] h (av (aa ar l) (ai bH l)) from
  λb c=>AD _ zQ ar bH B l (λf p D s t u=>uf B f D s t u (by have:=ay ar l f p;omega)) b v (m.o.extRM (d.trans c) x) (ad G c.size) L gj)
 have q:=Hd (λ(J:aa ar l<=65536)=>show ECalls Tryz.prog 90 #[v,.func (.func 91) #[] #[]] h (.bool (yes (∀a,a∈l->dc a))) from
  λb c=>zv _ Bx dc B l b (λf p D s T t u=>xH B f D s (z.ext ((d.trans c).trans T)) t u (by have:=ay ar l f p;omega) (C f p)) v (m.o.extRM (d.trans c) x) (ad G c.size) zO)
 have k:=Hd (show ECalls Tryz.prog 86 #[av (aa ar l) (ai bH l),.func (.func 89) #[] #[.pointer (some ⟨w.heap.size,0,none⟩)]] h (.int .i64 (aB (aa ar l) (ai bH l) (yes (∀a,a∈l->dc a)))) from
  λb c=>re _ uI _ _ _ _ b L zO λJ _ U S=>by
   have r:=Hd (q.o J);obtain⟨i,A⟩:∃i,i=U:=⟨_,rfl⟩;have M:Ext h i:=by rw[A];exact c.trans S
   have r:=Hd (r.o.later M);have E:=am E M;rw[<-A];obtain⟨P,H⟩:=ae (af i);generalize yes (∀a,a∈l->dc a)=bb at*;suffices F:Calls Tryz.prog 89 #[.pointer (some ⟨w.heap.size,0,none⟩)] P.w λe b=>e=.returned (.bool bb)/\Ext i b by rw[<-H] at F;exact F
   clear A H R j;generalize w.heap.size=g at*
   go_in
   go_wp2_with (go_at_call 90;refine(r.o.at_ _).mono ?_;rintro _ _ ⟨rfl,e,rfl⟩)
   go_ret;exact⟨rfl,ag _⟩)
 obtain⟨a1,V,rfl,-,-⟩:=y;unfold ed;by_cases n:64<l.length
 ·rw[if_pos n];have Q:(64:Int)<l.length:=by omega
  clear C q m z j k n
  go_in
  go_wp2_with fail
  go_ret;exact⟨rfl,d.trans (ag _)⟩
 ·rw[if_neg n];have Q:¬(64:Int)<l.length:=by omega
  obtain⟨O,K⟩:∃O,O=aB (aa ar l) (ai bH l) (yes (∀a,a∈l->dc a)):=⟨_,rfl⟩;rw[<-K] at k⊢;clear C K q m z n;generalize aa ar l=s1 at*;generalize ai bH l=s2 at*;obtain⟨N,I⟩:∃N,N=av s1 s2:=⟨_,rfl⟩;rw[<-I] at j k;clear I
  go_in
  go_wp2_with (first
   |(go_at_call 87;refine(j.o.at_ _).mono ?_;rintro _ _ ⟨rfl,e,rfl⟩)
   |(go_at_call 86;refine(k.o.at_ _).mono ?_;rintro _ _ ⟨rfl,e,rfl⟩))
  go_ret;exact⟨rfl,d.trans (ag _)⟩
