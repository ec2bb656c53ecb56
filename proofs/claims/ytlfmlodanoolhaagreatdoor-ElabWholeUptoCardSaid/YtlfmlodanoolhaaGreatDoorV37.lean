import Derived.Test.YtlfmlodanoolhaaGreatDoorV36
set_option linter.all false
set_option maxRecDepth 200000
set_option maxHeartbeats 0
namespace Go.Proofs.YtlfmlodanoolhaaGreatDoor
section
open Go Go.RowKit Go.Proofs.Tryz
attribute [local go_sem] bc
theorem Sl.cut{α:Type}{R:α->List Value->Prop}{w:World}{B b:Nat}{l:List α}{a:Option Addr}{c lo hi:Nat}(h:Sl R w B b l (.slice a l.length c))(v:lo<=hi)(h2:hi<=l.length):
 Sl R w B b ((l.take hi).drop lo) (Go.sliced a lo hi c b):=by
 obtain⟨r,u,n,x,q⟩:=h;obtain⟨rfl,-,rfl⟩:=Value.slice.inj n;refine⟨_,c - lo,by unfold Go.sliced;rw[List.length_drop,List.length_take,Nat.min_eq_left h2],by rw[List.length_drop,List.length_take];omega,λd hi=>?_⟩;rw[List.length_drop,List.length_take,Nat.min_eq_left h2] at hi;rw[List.getElem_drop,List.getElem_take];obtain⟨e,o,f,rfl,k,p,i,g,j⟩:=q (lo+d) zO;rw[if_neg zO];exact⟨e,o+lo*b,f,congrArg some (fv e o (lo*b)),k,p,by rw[show o+lo*b+d*b=o+(lo+d)*b by rw[Nat.add_mul];omega];exact i,g,j⟩
theorem zW(A:World)(B N0 mb sb mp:Nat)(j9 k1 k0 j8 f9:Value)(m:Mk)(s:Sc)(x:X)(H:List Value)(w:World)(c0:Cx A B w)(b8:XOk A B x H)(h:MkI w N0 mb j9 k1 k0 j8 m)(f5:ScI w sb mp f9 s)(e9:Good m.d.sigs s)(c3:x.op=10)(a0:0<x.l.length)(i0:x.l.length<=1000000000)
 (e8:∀j,j∈x.l->∀(y:World) (H:List Value),Ext w y->RX A B j H->bv Tryz.prog 150 #[.pointer (some ⟨mb,0,none⟩),.pointer (some ⟨sb,0,none⟩),.agg H.toArray] y (aC m.d.sigs s j) (ct y) (Ext y)):
 bv Tryz.prog 150 #[.pointer (some ⟨mb,0,none⟩),.pointer (some ⟨sb,0,none⟩),.agg H.toArray] w (aC m.d.sigs s x) (ct w) (Ext w):=by
 have a8:=Hd c0;have g6:=Hd f5;have g3:=Hd e8;obtain⟨o9,rfl,h4⟩:=RX_iff.1 b8.rx;obtain⟨f8,E,rfl,h9,c1⟩:=h4;have g1:=Hd (show Sl (RX A B) A B 6 x.l (.slice f8 x.l.length E) from⟨f8,E,rfl,h9,c1⟩);obtain⟨G,I,o6,h8,h6,i1,b5,i2,b7⟩:=c1 0 a0;subst h8;obtain⟨k4,rfl,e1⟩:=RX_iff.1 b7;simp only[Nat.zero_mul,Nat.add_zero] at b5;have i:=dh (k:=0) a0;have g9:=Hd (b8.part (an a0) b7);have g4:=Hd e9;have u0:=e1.oneCell;obtain⟨O,c6⟩:∃O,O=Go.sliced (some ⟨G,I,none⟩) 1 x.l.length E 6:=⟨_,rfl⟩;have g8:=Hd (show Sl (RX A B) A B 6 (x.l.drop 1) O from by have:=g1.o.cut (lo:=1) (hi:=x.l.length) a0 (ac _);rw[List.take_length] at this;rw[c6];exact this);have g7:=Hd (show Value.slice (if E=1 then some ⟨G,I,none⟩ else some ⟨G,I+6,none⟩) (x.l.length - 1) (E - 1)=O from by
  rw[c6];simp[Go.sliced,fv])
 clear c6;generalize a2:x.l[0]=x0 at*;have o2:(1:Int)<=(x.l.length:Int):=by omega
 have o3:(x.l.length:Int)<=(E:Int):=by omega
 have o1:(0:Int)<(x.l.length:Int):=by omega
 obtain⟨N,c5⟩:∃N,N=cj s x0:=⟨_,rfl⟩;obtain⟨a7,b6⟩:∃a7,a7=aC m.d.sigs s:=⟨_,rfl⟩;obtain⟨M,c4⟩:∃M:Int->Rs (DE×Int),M=λf=>(do let z<-cF ((x.l.drop 1).map a7) 1;return(DE.mk 8 f 0 0 0 0 x.n z.1,z.2)):=⟨_,rfl⟩
 have a9:=Hd (show aC m.d.sigs s x=(do let j<-(do let f<-N;M f);df j) by
  rw[dI,c4,c5,b6];unfold dn;rw[if_neg zO,if_neg zO,if_neg zO,if_neg zO,if_neg zO,if_pos c3,show xAt x.l 0=x0 from i,<-List.map_drop];cases cj s x0 with
  |error e=>rfl
  |ok f=>
   simp only[bind,Except.bind,pure,Except.pure];cases cF ((x.l.drop 1).map (aC m.d.sigs s)) 1<;>rfl)
 obtain⟨c,e2,a3,e4⟩:=aV w (.int .i64 10) (.string x.name) (.int .i64 x.n) (.int .i64 x.w) (.int .u64 x.v) (.slice (some ⟨G,I,none⟩) x.l.length E) 40;obtain⟨J,e3,a4,e5⟩:=bM c (.int .i64 0) (.int .i64 0) (.int .u64 0) (.int .i64 0) (.int .i64 0) (.int .i64 0) (.int .i64 0) (.slice none 0 0) (.int .i64 0) 203;have n8:=e2.symm;have D:w.heap.size<=c.heap.size:=a3.size;obtain⟨k5,k6,k7,k8,k9,l0⟩:=(e4.ext a4).later6;obtain⟨h1,e7⟩:=ae (W:=J) (w:=J) (af _);have n9:=e3.symm.trans e7;have Q:=Hd (a3.trans a4);have d4:=Hd e5;have d8:=Hd (λ(y:World) (V:Ext w y)=>jq A B x0 _ sb mp f9 s y (a8.o.later V) g9.o (g6.o.ext V) g4.o.env);have d9:=Hd (λ(f:Int) (y:World) (V:Ext w y)=>lT A B (.pointer (some ⟨mb,0,none⟩)) (.pointer (some ⟨sb,0,none⟩)) (aC m.d.sigs s) 8 f 0 0 0 0 x.n (x.l.drop 1) O y g8.o a8.o.hB (a8.o.ext.trans V) (by rw[List.length_drop];omega) (λj c7 k2 H h2 h3=>g3.o j (List.mem_of_mem_drop c7) k2 H (V.trans h2) h3));rw[<-b6] at d9;rw[<-c5] at d8;have e0:=Hd (λ(f:Int)=>congrFun c4 f);obtain⟨l2,l3,l4,l5,l6,l7⟩:=(b5.ext (c0.ext.trans (a3.trans a4))).later6;clear c1 b7 e1 i1 h6 e9 i a2 b5 i2 e7 e2 e3 a3 a4 e4 e5 b8 h f5 c0 i0 e8 c5 b6 c4;have o4:=@hmf_ Tryz.prog;rw[c3];clear c3
 go_enter_defers func150,ntmps150
 go_wp2_with fail
 refine bD 15 (W:=J) (Ext) (cr 9 10 14 N (λf=>.agg #[.int .i64 8,.int .i64 f,.int .u64 0,.int .i64 0,.int .i64 0,.int .i64 0,.int .i64 x.n,.slice none 0 0]) M J [.pointer (some ⟨mb,0,none⟩),.pointer (some ⟨sb,0,none⟩),.pointer (some ⟨w.heap.size,2,none⟩),.int .i64 x.n,.pointer (some ⟨sb,0,none⟩),.pointer (some ⟨w.heap.size,5,none⟩),.slice (some ⟨G,I,none⟩) x.l.length E,.pointer (some ⟨G,I,none⟩),.agg #[.int .i64 x0.op,.string x0.name,.int .i64 x0.n,.int .i64 x0.w,.int .u64 x0.v,k4],undef,undef,.pointer (some ⟨w.heap.size,5,none⟩),.slice (some ⟨G,I,none⟩) x.l.length E,O,undef]) (expP N M J) (λ_=>true) zK (bo) zK zK ?_ (ag h1) (λo5 v w y h a1=>qs h a1) ?_ (λF l1 k3 b i3=>by
  obtain⟨r,u,rfl,a1⟩:=i3;obtain⟨o7,l8⟩:=F;simp only at b;subst b;have h5:=(d4.o.ext a1).cell 8;have g5:=Hd (show RunsP (aC m.d.sigs s x) (ct w) (Ext w) (.panicked (aR r)) k3 from .no (by rw[a9.o,u];rfl) (Q.o.trans a1));exact fA (by simpa using h5) zD g5.o) ?_
 ·exact⟨rfl,rfl,rfl,rfl,rfl,rfl,rfl,rfl,rfl,rfl,rfl,rfl,rfl,rfl,rfl,trivial⟩
 ·refine⟨?_,?_,?_,?_,?_,?_,?_,?_,?_,?_,?_,?_,?_,?_,?_,trivial⟩;rotate_left 9
  ·intro F Y i b q;obtain⟨g,rfl⟩:=ae i;have j1:=ab b 4 109 zK rfl;simp[cr] at j1;have j3:=ab b 8 113 zK rfl;simp[cr] at j3;clear b q;go_simp;refine(d8.o g.w (Q.o.trans g.ext)).mono ?_;rintro e g0 (⟨f,j7,u,rfl,rfl,a6⟩|⟨r,u,rfl,a6⟩);rotate_left
   ·exact⟨rfl,r,by rw[u];rfl,rfl,g.ext.trans a6⟩
   have b0:=Hd u;clear u;go_simp;first|exact⟨_,rfl,a6,f,b0.o,rfl⟩|exact⟨a6,f,b0.o,rfl⟩|exact⟨_,rfl,f,b0.o,rfl⟩
  ·intro F Y i b q;obtain⟨g,rfl⟩:=ae i;have j0:=ab b 3 108 zK rfl;simp[cr] at j0;obtain⟨b4,f2,c9⟩:=ab b 9 114 zK rfl;simp at c9;have b2:=Hd f2;clear f2;clear b q;go_simp;first|exact⟨_,rfl,af _,b4,b2.o,rfl⟩|exact⟨af _,b4,b2.o,rfl⟩|exact⟨_,rfl,b4,b2.o,rfl⟩
  rotate_left 2
  ·intro F Y i b q;obtain⟨g,rfl⟩:=ae i;have i7:=ab b 12 117 zK rfl;simp[cr] at i7;clear b q;go_simp;first|exact⟨_,rfl,af _,g7.o⟩
  ·intro F Y i b q;obtain⟨g,rfl⟩:=ae i;have i4:=ab b 0 105 zK rfl;simp[cr] at i4;have i5:=ab b 1 106 zK rfl;simp[cr] at i5;obtain⟨K,f3,d0⟩:=ab b 10 115 zK rfl;simp at d0;have Z:=Hd f3;clear f3;have i8:=ab b 13 118 zK rfl;simp[cr] at i8;clear b q;go_simp;refine(d9.o K g.w (Q.o.trans g.ext)).mono ?_;rintro e g0 (⟨j,j7,u,rfl,r,rfl,L,a5,T,U⟩|⟨r,u,rfl,a5⟩);rotate_left
   ·exact⟨rfl,r,by rw[Z.o];exact(e0.o K).trans u,rfl,g.ext.trans a5⟩
   have b3:=Hd (aq (L.imp (λC _ b9=>ad g.ext.size b9):RE9 (λC=>J.heap.size<=C) g0 j.1 r) (aq T U));have b1:=Hd ((e0.o K).trans u);clear L u T U;go_simp;first|exact⟨_,rfl,a5,K,j,r,Z.o,b1.o,rfl,b3.o⟩|exact⟨a5,K,j,r,Z.o,b1.o,rfl,b3.o⟩|exact⟨_,rfl,K,j,r,Z.o,b1.o,rfl,b3.o⟩
  all_goals
   intro F Y i b q;obtain⟨g,rfl⟩:=ae i;try (have i9:=ab b 2 107 zD rfl;simp[cr] at i9)
   try (have c9:=ab b 5 110 zD rfl;simp[cr] at c9)
   try (have d0:=ab b 6 111 zD rfl;simp[cr] at d0)
   try (have j2:=ab b 7 112 zD rfl;simp[cr] at j2)
   try (have i6:=ab b 11 116 zD rfl;simp[cr] at i6)
   have j4:=ah q 0 zK;simp at j4;have j5:=ah q 1 zK;simp at j5;have j6:=ah q 5 zK;simp at j6;clear b q;exact zA
 ·intro F Y h7;obtain⟨l9,rfl,i,e6,f4⟩:=h7.fin (n:=133) rfl;obtain⟨g,rfl⟩:=ae i;have c8:=f4 6 zK;obtain⟨f,j,r,f0,f1,f7,L,T,U⟩:=e6 14 119 rfl rfl;clear e6 f4;simp at c8;simp only[List.drop_succ_cons,List.drop_zero];simp[List.range,List.range.loop,c8,f7];clear c8 f7;obtain⟨o8,rfl,f6⟩:=RE9_iff.1 L;obtain⟨d2,d3,rfl⟩:=f6.form;obtain⟨a,d1⟩:=j;have S:=d4.o.ext (ag g);have a2:=Q.o.trans (ag g);have d6:=Hd (show(do let f<-N;M f)=.ok (a,d1) from(by rw[f0];exact f1));obtain⟨m9,n0,n1,n2,n3,n4,n5,n6,n7⟩:=S.get9;obtain⟨m0,m1,m2,m3,m4,m5,m6,m7,m8⟩:=S.free9;obtain⟨P,R⟩:∃P,P=((((((((g.w.setCell ⟨c.heap.size,0,none⟩ (.int .i64 a.op)).setCell ⟨c.heap.size,1,none⟩ (.int .i64 a.w)).setCell ⟨c.heap.size,2,none⟩ (.int .u64 a.v)).setCell ⟨c.heap.size,3,none⟩ (.int .i64 a.sig)).setCell ⟨c.heap.size,4,none⟩ (.int .i64 a.hi)).setCell ⟨c.heap.size,5,none⟩ (.int .i64 a.lo)).setCell ⟨c.heap.size,6,none⟩ (.int .i64 a.n)).setCell ⟨c.heap.size,7,none⟩ (.slice d2 a.l.length d3)).setCell ⟨c.heap.size,8,none⟩ (.int .i64 d1):=⟨_,rfl⟩;have o0:=R.symm;have g2:=Hd (show Blk P c.heap.size 203 [.int .i64 a.op,.int .i64 a.w,.int .u64 a.v,.int .i64 a.sig,.int .i64 a.hi,.int .i64 a.lo,.int .i64 a.n,.slice d2 a.l.length d3,.int .i64 d1] by rw[R];exact S.store9 _ _ _ _ _ _ _ _ _);have d7:=Hd (show Ext w P by rw[R];exact((((((((a2.setCell D _).setCell D _).setCell D _).setCell D _).setCell D _).setCell D _).setCell D _).setCell D _).setCell D _);have h0:=Hd (show RE9 (λC=>w.heap.size<=C) P a [.int .i64 a.op,.int .i64 a.w,.int .u64 a.v,.int .i64 a.sig,.int .i64 a.hi,.int .i64 a.lo,.int .i64 a.n,.slice d2 a.l.length d3] by
   rw[R];refine RE9.turn (X:=λC=>C=c.heap.size) ?_ (λC b9 c7=>⟨λe=>?_,ad Q.o.size c7⟩) a _ L
   ·exact((((((((dk (X:=λC=>C=c.heap.size) (bg _ g.w) (p:=⟨c.heap.size,0,none⟩) rfl _).setCell (p:=⟨c.heap.size,1,none⟩) rfl _).setCell (p:=⟨c.heap.size,2,none⟩) rfl _).setCell (p:=⟨c.heap.size,3,none⟩) rfl _).setCell (p:=⟨c.heap.size,4,none⟩) rfl _).setCell (p:=⟨c.heap.size,5,none⟩) rfl _).setCell (p:=⟨c.heap.size,6,none⟩) rfl _).setCell (p:=⟨c.heap.size,7,none⟩) rfl _).setCell (p:=⟨c.heap.size,8,none⟩) rfl _
   ·exact absurd (b9.one (e▸S.tag)) zD)
  have d5:=Hd (aq T U);clear S a2 R L f6 f0 f1 T U;go_wp2_with fail
  refine fK rfl g2.o (λc2=>?_) (λc2=>?_)
  ·exact .ok (by rw[a9.o,d6.o];exact jM c2) ⟨_,rfl,h0.o,d7.o,d5.o.1,d5.o.2⟩
  ·exact .no (by rw[a9.o,d6.o];exact jZ c2) d7.o
theorem sZ(n:Int):(bd (bw (bw (bw (bw [] (.int .i64 5) (.int .i64 4)) (.int .i64 6) (.int .i64 5)) (.int .i64 7) (.int .i64 6)) (.int .i64 8) (.int .i64 7)) (.int .i64 n)).getD (.int .i64 0)=.int .i64 (opD n):=by
 simp only[ge,Value.int.injEq,true_and];unfold opD;by_cases d:n=8
 ·subst d;simp[bd]
 rw[if_neg (λe:(8:Int)=n=>d e.symm)];by_cases c:n=7
 ·subst c;simp[bd]
 rw[if_neg (λe:(7:Int)=n=>c e.symm)];by_cases b:n=6
 ·subst b;simp[bd]
 rw[if_neg (λe:(6:Int)=n=>b e.symm)];by_cases a:n=5
 ·subst a;simp[bd]
 rw[if_neg (λe:(5:Int)=n=>a e.symm)];simp[bd,a,b,c,d]
theorem xB(I:World)(B N0 mb sb mp:Nat)(i6 i8 i7 i4 i5:Value)(m:Mk)(s:Sc)(x:X)(k:List Value)(w:World)(e6:Cx I B w)(e3:XOk I B x k)(h:MkI w N0 mb i6 i8 i7 i4 m)(f5:ScI w sb mp i5 s)(D:x.op≠1)(h2:x.op≠2)(h3:x.op≠3)(V:x.op≠4)(Z:x.op≠9)(U:x.op≠10)(f1:x.l.length<=1000000000)
 (e9:∀f,f∈x.l->∀(q:World) (k:List Value),Ext w q->RX I B f k->bv Tryz.prog 150 #[.pointer (some ⟨mb,0,none⟩),.pointer (some ⟨sb,0,none⟩),.agg k.toArray] q (aC m.d.sigs s f) (ct q) (Ext q)):
 bv Tryz.prog 150 #[.pointer (some ⟨mb,0,none⟩),.pointer (some ⟨sb,0,none⟩),.agg k.toArray] w (aC m.d.sigs s x) (ct w) (Ext w):=by
 have c9:=Hd e6;have j0:=Hd f5;have g6:=Hd e9;obtain⟨g3,rfl,Y⟩:=RX_iff.1 e3.rx;have g4:=Hd Y;have l5:=Y.oneCell;obtain⟨P,a0⟩:∃P,P=aC m.d.sigs s:=⟨_,rfl⟩;obtain⟨O,a7⟩:∃O:Rs (DE×Int),O=(do let z<-cF (x.l.map P) 1;return(DE.mk (opD x.op) 0 0 0 0 0 x.n z.1,z.2)):=⟨_,rfl⟩;have Q:=Hd (show aC m.d.sigs s x=(do let f<-O;df f) by
  rw[dI,a7,a0];unfold dn;rw[if_neg D,if_neg h2,if_neg h3,if_neg V,if_neg Z,if_neg U];simp only[bind,Except.bind,pure,Except.pure];cases cF (x.l.map (aC m.d.sigs s)) 1<;>rfl)
 obtain⟨b,e1,a8,e4⟩:=aV w (.int .i64 x.op) (.string x.name) (.int .i64 x.n) (.int .i64 x.w) (.int .u64 x.v) g3 40;obtain⟨A,e2,a9,e5⟩:=bM b (.int .i64 0) (.int .i64 0) (.int .u64 0) (.int .i64 0) (.int .i64 0) (.int .i64 0) (.int .i64 0) (.slice none 0 0) (.int .i64 0) 203;have l0:=e1.symm;have j:w.heap.size<=b.heap.size:=a8.size;obtain⟨g9,j1,h0,j2,j3,h1⟩:=(e4.ext a9).later6;obtain⟨c,e7⟩:=ae (W:=A) (w:=A) (af _);have l1:=e2.symm.trans e7;have J:=Hd (a8.trans a9);have c8:=Hd e5;have d3:=Hd (λ(q:World) (f7:Ext w q)=>lT I B (.pointer (some ⟨mb,0,none⟩)) (.pointer (some ⟨sb,0,none⟩)) (aC m.d.sigs s) (opD x.op) 0 0 0 0 0 x.n x.l g3 q g4.o c9.o.hB (c9.o.ext.trans f7) f1 (λf b0 i9 k D h2=>g6.o f b0 i9 k (f7.trans D) h2));rw[<-a0] at d3;have d4:=Hd a7;clear e7 e1 e2 a8 a9 e4 e5 Y e3 h f5 e6 f1 e9 a0 a7;have l3:=@hmf_ Tryz.prog;have l6:(x.op==1)=false:=beq_eq_false_iff_ne.2 D;have l8:(x.op==2)=false:=beq_eq_false_iff_ne.2 h2;have l9:(x.op==3)=false:=beq_eq_false_iff_ne.2 h3;have m0:(x.op==4)=false:=beq_eq_false_iff_ne.2 V;have m1:(x.op==9)=false:=beq_eq_false_iff_ne.2 Z;have l7:(x.op==10)=false:=beq_eq_false_iff_ne.2 U;have u:Tryz.prog.underlying 240=some (.map 3 3):=underlying240;have r:Tryz.prog.underlying 3=some (.int .i64):=underlying3;have f9:∀w:World,(zeroValue 3).run Tryz.prog w=.ok (.int .i64 0) w:=λ_=>by kernel_rfl
 obtain⟨R,M⟩:∃g,g=c.w.alloc (.map #[] 0):=⟨_,rfl⟩;have g1:MV R c.w.heap.size []:=by rw[M];exact MV.new _
 have b1:∀b9,b9∈([]:List (Value×Value))->MapKept.IsKey (.int .i64) b9.1:=λb9 h5=>by cases h5
 have c0:Below c.w.heap.size c.w R:=by rw[M];exact aE _ _
 obtain⟨h6,i0,b5⟩:=g1.update u r (bj 5) b1 (.int .i64 4);have b2:=cK (v:=.int .i64 4) b1 (bj 5);obtain⟨d5,a1⟩:∃g,g=aH R c.w.heap.size h6:=⟨_,rfl⟩;rw[<-a1] at i0 b5;have c1:Below c.w.heap.size c.w d5:=by rw[a1];exact c0.trans (dj (ac _) c0.size)
 obtain⟨h7,i1,b6⟩:=b5.update u r (bj 6) b2 (.int .i64 5);have b3:=cK (v:=.int .i64 5) b2 (bj 6);obtain⟨d6,a2⟩:∃g,g=aH d5 c.w.heap.size h7:=⟨_,rfl⟩;rw[<-a2] at i1 b6;have c2:Below c.w.heap.size c.w d6:=by rw[a2];exact c1.trans (dj (ac _) c1.size)
 obtain⟨h8,i2,b7⟩:=b6.update u r (bj 7) b3 (.int .i64 6);have b4:=cK (v:=.int .i64 6) b3 (bj 7);obtain⟨d7,a3⟩:∃g,g=aH d6 c.w.heap.size h8:=⟨_,rfl⟩;rw[<-a3] at i2 b7;have c3:Below c.w.heap.size c.w d7:=by rw[a3];exact c2.trans (dj (ac _) c2.size)
 obtain⟨h9,i3,b8⟩:=b7.update u r (bj 8) b4 (.int .i64 7);have g0:=cK (v:=.int .i64 7) b4 (bj 8);obtain⟨S,a4⟩:∃g,g=aH d7 c.w.heap.size h9:=⟨_,rfl⟩;rw[<-a4] at i3 b8;have c4:Below c.w.heap.size c.w S:=by rw[a4];exact c3.trans (dj (ac _) c3.size)
 have f0:=b8.lookup u r (bj x.op) g0 (f9 _) false;rw[sZ] at f0;simp only[Bool.false_eq_true,if_false] at f0;obtain⟨K,e8⟩:=ae (W:=A) ((ag c).trans c4);have d8:=g9 K;have d9:=h0 K;have e0:=h1 K;rw[<-e8] at d8 d9 e0;have y:=Hd (show Ext A S from(ag c).trans c4);have k9:=M.symm;clear f9 u r g1 b1 c0 b5 b2 c1 b6 b3 c2 b7 b4 c3 b8 g0 c4 e8 K M a1 a2 a3 a4 D h2 h3 V Z U;have l4:=@run_makeMap Tryz.prog
 go_enter_defers func150,ntmps150
 go_wp2_with fail
 go_at_call 189;refine(d3.o S (J.o.trans y.o)).mono ?_;rintro e g2 (⟨f,m2,N,rfl,T,rfl,G,H,f2,f3⟩|⟨T,N,rfl,H⟩);rotate_left
 ·have h4:=(c8.o.ext (y.o.trans H)).cell 8;have g7:=Hd (show RunsP (aC m.d.sigs s x) (ct w) (Ext w) (.panicked (aR T)) g2 from .no (by rw[Q.o,d4.o,N];rfl) ((J.o.trans y.o).trans H));exact fA (by simpa using h4) zD g7.o
 have f4:=d4.o.trans N;have G:=(G.imp (λi _ a5=>ad y.o.size a5):RE9 (λi=>A.heap.size<=i) g2 f.1 T);obtain⟨L,rfl⟩:=ae (y.o.trans H);clear N H;obtain⟨m3,rfl,f6⟩:=RE9_iff.1 G;obtain⟨c6,c7,rfl⟩:=f6.form;obtain⟨a,c5⟩:=f;have F:=c8.o.ext (ag L);have f8:=J.o.trans (ag L);have d1:=Hd (show O=.ok (a,c5) from f4);obtain⟨d8,k3,d9,k4,k5,e0,k6,k7,k8⟩:=F.get9;obtain⟨j4,j5,j6,j7,j8,j9,k0,k1,k2⟩:=F.free9;obtain⟨C,E⟩:∃C,C=((((((((L.w.setCell ⟨b.heap.size,0,none⟩ (.int .i64 a.op)).setCell ⟨b.heap.size,1,none⟩ (.int .i64 a.w)).setCell ⟨b.heap.size,2,none⟩ (.int .u64 a.v)).setCell ⟨b.heap.size,3,none⟩ (.int .i64 a.sig)).setCell ⟨b.heap.size,4,none⟩ (.int .i64 a.hi)).setCell ⟨b.heap.size,5,none⟩ (.int .i64 a.lo)).setCell ⟨b.heap.size,6,none⟩ (.int .i64 a.n)).setCell ⟨b.heap.size,7,none⟩ (.slice c6 a.l.length c7)).setCell ⟨b.heap.size,8,none⟩ (.int .i64 c5):=⟨_,rfl⟩;have l2:=E.symm;have g5:=Hd (show Blk C b.heap.size 203 [.int .i64 a.op,.int .i64 a.w,.int .u64 a.v,.int .i64 a.sig,.int .i64 a.hi,.int .i64 a.lo,.int .i64 a.n,.slice c6 a.l.length c7,.int .i64 c5] by rw[E];exact F.store9 _ _ _ _ _ _ _ _ _);have d2:=Hd (show Ext w C by rw[E];exact((((((((f8.setCell j _).setCell j _).setCell j _).setCell j _).setCell j _).setCell j _).setCell j _).setCell j _).setCell j _);have g8:=Hd (show RE9 (λi=>w.heap.size<=i) C a [.int .i64 a.op,.int .i64 a.w,.int .u64 a.v,.int .i64 a.sig,.int .i64 a.hi,.int .i64 a.lo,.int .i64 a.n,.slice c6 a.l.length c7] by
  rw[E];refine RE9.turn (X:=λi=>i=b.heap.size) ?_ (λi a5 b0=>⟨λe=>?_,ad J.o.size b0⟩) a _ G
  ·exact((((((((dk (X:=λi=>i=b.heap.size) (bg _ L.w) (p:=⟨b.heap.size,0,none⟩) rfl _).setCell (p:=⟨b.heap.size,1,none⟩) rfl _).setCell (p:=⟨b.heap.size,2,none⟩) rfl _).setCell (p:=⟨b.heap.size,3,none⟩) rfl _).setCell (p:=⟨b.heap.size,4,none⟩) rfl _).setCell (p:=⟨b.heap.size,5,none⟩) rfl _).setCell (p:=⟨b.heap.size,6,none⟩) rfl _).setCell (p:=⟨b.heap.size,7,none⟩) rfl _).setCell (p:=⟨b.heap.size,8,none⟩) rfl _
  ·exact absurd (a5.one (e▸F.tag)) zD)
 have d0:=Hd (aq f2 f3);clear F f8 E G f6 f4 f2 f3;go_wp2_with fail
 refine fK rfl g5.o (λa6=>?_) (λa6=>?_)
 ·exact .ok (by rw[Q.o,d1.o];exact jM a6) ⟨_,rfl,g8.o,d2.o,d0.o.1,d0.o.2⟩
 ·exact .no (by rw[Q.o,d1.o];exact jZ a6) d2.o
end
section
open Go Go.RowKit Go.Proofs.Tryz
def RT9(Y:Nat->Prop)(w:World):DT->List Value->Prop
 |.mk op sig hi lo e l,cs=>∃g,SlY Y 60 (RE9 Y w) w 8 e g/\∃d f,cs=[.int .i64 op,.int .i64 sig,.int .i64 hi,.int .i64 lo,g,.slice d l.length f]/\l.length<=f/\
   ∀c,(h:c<l.length)->∃a o b,d=some ⟨a,o,none⟩/\Y a/\Tag w a 73/\b.length=6/\Cells w a (o+c*6) b/\(∀v,v∈b->v.oneCell'=true)/\RT9 Y w l[c] b
termination_by x=>SizeOf.sizeOf x
decreasing_by
 have:=List.sizeOf_lt_of_mem (an h);simp only[DT.mk.sizeOf_spec];omega
theorem RT9_iff{Y:Nat->Prop}{w:World}{x:DT}{h:List Value}:
 RT9 Y w x h↔∃i j,h=[.int .i64 x.op,.int .i64 x.sig,.int .i64 x.hi,.int .i64 x.lo,i,j]/\SlY Y 60 (RE9 Y w) w 8 x.e i/\SlY Y 73 (RT9 Y w) w 6 x.l j:=by
 obtain⟨op,sig,hi,lo,e,l⟩:=x;rw[RT9];constructor
 ·rintro⟨k,c,a,b,d,f,g⟩;exact⟨_,_,d,c,a,b,rfl,f,g⟩
 ·rintro⟨_,_,d,c,a,b,rfl,f,g⟩;exact⟨_,c,a,b,d,f,g⟩
theorem RT9.rt6{Y:Nat->Prop}{w:World}(x:DT):∀a,RT9 Y w x a->RT6 w x a:=by
 induction x using DT.ind with
 |h x ih=>
  intro a b;obtain⟨e,f,rfl,c,d⟩:=RT9_iff.1 b;exact RT6_iff.2 ⟨e,f,rfl,c.slT (λg _=>RE9.re8 g),d.slT ih⟩
theorem RT9.turn{X Y Y':Nat->Prop}{w f:World}(e:Chg X w f)(d:∀a,Tag w a 60\/Tag w a 73->Y a->¬X a/\Y' a)(x:DT):∀c,RT9 Y w x c->RT9 Y' f x c:=by
 induction x using DT.ind with
 |h x ih=>
  intro c g;obtain⟨k,l,rfl,i,j⟩:=RT9_iff.1 g;exact RT9_iff.2 ⟨k,l,rfl,i.turn e (λa b=>d a (.inl b)) (λn _=>RE9.turn e (λa b=>d a (.inl b)) n),j.turn e (λa b=>d a (.inr b)) ih⟩
theorem RT9.ext{Y:Nat->Prop}{w b:World}(c:Ext w b){x:DT}{a:List Value}(h:RT9 Y w x a):RT9 Y b x a:=
 RT9.turn (c.chg (X:=λ_=>False)) (λe _ d=>⟨id,d⟩) x a h
theorem RT9.imp{Y Y':Nat->Prop}{w:World}(c:∀a,a<w.heap.size->Y a->Y' a){x:DT}{b:List Value}(h:RT9 Y w x b):RT9 Y' w x b:=
 RT9.turn (bg (λ_=>False) w) (λa d e=>⟨id,c a (d.elim Tag.lt Tag.lt) e⟩) x b h
theorem RT9.one{Y:Nat->Prop}{w:World}{x:DT}{a:List Value}(h:RT9 Y w x a):∀b,b∈a->b.oneCell'=true:=(RT9.rt6 x a h).one
theorem RT9.len{Y:Nat->Prop}{w:World}{x:DT}{a:List Value}(h:RT9 Y w x a):a.length=6:=(RT9.rt6 x a h).len
abbrev SlE9(Y:Nat->Prop)(w:World)(l:List DE)(v:Value):Prop:=SlY Y 60 (RE9 Y w) w 8 l v
abbrev SlT9(Y:Nat->Prop)(w:World)(l:List DT)(v:Value):Prop:=SlY Y 73 (RT9 Y w) w 6 l v
theorem SlE9.turn{X Y Y':Nat->Prop}{w d:World}{l:List DE}{v:Value}(h:SlE9 Y w l v)(c:Chg X w d)(b:∀a,Tag w a 60->Y a->¬X a/\Y' a):SlE9 Y' d l v:=
 SlY.turn h c b (λe _=>RE9.turn c b e)
theorem SlT9.turn{X Y Y':Nat->Prop}{w d:World}{l:List DT}{v:Value}(h:SlT9 Y w l v)(c:Chg X w d)(b:∀a,Tag w a 60\/Tag w a 73->Y a->¬X a/\Y' a):SlT9 Y' d l v:=
 SlY.turn h c (λa e=>b a (.inr e)) (λf _=>RT9.turn c b f)
theorem SlE9.ext{Y:Nat->Prop}{w a:World}{l:List DE}{v:Value}(h:SlE9 Y w l v)(b:Ext w a):SlE9 Y a l v:=SlE9.turn h (b.chg (X:=λ_=>False)) (λd _ c=>⟨id,c⟩)
structure OwnT(N:Nat)(l:List DT)(v:Value)(w:World):Prop where
 ex:∃xs,w.ownsRow N 73 6 v l.length xs/\Fl (RT9 (λb=>N<=b/\v.ownBlock≠some b) w) 6 l xs
theorem OwnT.none_{a:Nat}{w:World}:OwnT a [] (.slice none 0 0) w:=⟨[],World.ownsRow_nil _ _ _ _,Fl.nil⟩
theorem OwnT.ownL{a:Nat}{l:List DT}{v:Value}{w:World}(h:OwnT a l v w):OwnL (RT9 (λb=>a<=b/\v.ownBlock≠some b) w) a 73 6 l v w:=⟨h.ex⟩
theorem OwnT.form{a:Nat}{l:List DT}{v:Value}{w:World}(h:OwnT a l v w):∃b c,v=.slice b l.length c:=h.ownL.form
theorem OwnT.lt{b:Nat}{l:List DT}{v:Value}{w:World}(h:OwnT b l v w):∀a,v.ownBlock=some a->b<=a/\a<w.heap.size:=h.ownL.lt
theorem OwnT.chg{c:Nat}{X:Nat->Prop}{l:List DT}{v:Value}{w j:World}(h:OwnT c l v w)(i:Chg X w j)(g:∀a,X a->a<c):OwnT c l v j:=by
 obtain⟨B,f,u⟩:=h.ex;refine⟨B,?_,u.imp λx n=>RT9.turn i (λa _ y=>⟨λd=>absurd (g a d) zO,y⟩) x n⟩;refine⟨f.1,?_⟩;rcases f.2 with z|⟨b,k,o,p,q,e,r⟩
 ·exact .inl z
 ·have A:b<w.heap.size:=(y7n.1 e).1;exact .inr ⟨b,k,o,p,q,(i.block b A (λd=>absurd (g b d) zO)).trans e,r⟩
theorem OwnT.later{a:Nat}{l:List DT}{v:Value}{w b:World}(h:OwnT a l v w)(c:Ext w b):OwnT a l v b:=h.chg (c.chg (X:=λ_=>False)) (λ_ h=>h.elim)
theorem OwnT.slY{a:Nat}{l:List DT}{v:Value}{w:World}(h:OwnT a l v w):SlT9 (λb=>a<=b) w l v:=by
 have q:=h.lt;obtain⟨d,e,c,n,u⟩:=h.ownL.slT zD;refine⟨d,e,c,n,λy r=>?_⟩;obtain⟨b,o,f,ha,x,p,i,g,j⟩:=u y r;refine⟨b,o,f,ha,(q b ?_).1,x,p,i,g,j.imp λb _ k=>k.1⟩;rw[c,ha];rfl
theorem uU{P:Program}{w:World}{ops:Array Oper}{E:List Oper}{o:Oper}{a:Act}{Q:Exit->Act->World->Prop}(N:o.guard=none)(s x:Operand)(t:TypeId)
 (T:o.op=.call {callee:=.builtin .append,args:=#[s,x],argTypes:=#[t,t]})
 (d:Nat) (z:Value) (bytes:Nat) (hi:(P.info? 73).map (λu=>(u.zero,u.size,u.bytes))=some (some z,6,bytes)) (ht:P.underlying t=some (.slice 73))
 (a1:z.cells.size=6) (p:bytes<=1000)
 (l:List DT) (G:DT) (v:Value) (W:a.eval s=v) (D:OwnT d l v w)
 (B:Nat) (A:Nat) (j:List Value) (r:a.eval x=.slice (some ⟨B,0,none⟩) 1 A) (V:Blk w B 73 j) (c:RT9 (λb=>d<=b/\v.ownBlock≠some b) w G j)
 (S:l.length<=1000000000) (J:d<=w.heap.size)
 (h:∀i g,OwnT d (l++[G]) i g->w.grownBy g v.ownBlock->(∀n,v.ownBlock=some n->d<=n)->wpList P ops Q E (a.put o.dst i) g):wpList P ops Q (o::E) a w:=by
 obtain⟨F,H,I⟩:=D.ex;obtain⟨a4,Y,a0,Z,X⟩:=info_parts hi;have M:Flat w 6 (some ⟨B,0,none⟩) 1 j:=⟨by rw[c.len],λy q=>c.one y q,λ_=>⟨B,0,rfl,λa2 y q=>by
  have:=V.cells a2 y q;simpa using this⟩⟩
 have R:=D.lt;refine gu N s x t T d _ a4 z 6 bytes ht Y a0 Z X a1 zD p v l.length F W H (some ⟨B,0,none⟩) 1 A j r M S zD J ?_;intro i g U f L;have K:Chg (λb=>v.ownBlock=some b) w g:=⟨f.os,f.tape,f.output,f.size,λa3 O r=>f.block a3 O λe=>r e.symm⟩;have C:∀x k,RT9 (λb=>d<=b/\v.ownBlock≠some b) w x k->RT9 (λb=>d<=b/\i.ownBlock≠some b) g x k:=λx k=>
  RT9.turn K (λb p c=>⟨c.2,c.1,λe=>by
   rcases L b e with h|h
   ·exact c.2 h
   ·have:=p.elim Tag.lt Tag.lt;omega⟩) x k
 exact h i g ⟨F++j,by rw[List.length_append];exact U,(I.imp C).append (Fl.one_ c.len c.one (C _ _ c))⟩ f λn f=>(R n f).1
theorem SlY.flat{α:Type}{Y:Nat->Prop}{T:TypeId}{R:α->List Value->Prop}{w:World}{b:Nat}{l:List α}{v:Value}(h:SlY Y T R w b l v):∃g p a,v=.slice g l.length p/\Flat w b g l.length a/\Fl R b l a:=by
 obtain⟨g,p,H,K,G⟩:=h;have I:∀n,n<=l.length->∃a:List Value,a.length=n*b/\(∀c,c∈a->c.oneCell'=true)/\(0<n->∃j o,g=some ⟨j,o,none⟩/\Cells w j o a)/\Fl R b (l.take n) a:=by
  intro n;induction n with
  |zero=>intro _;exact⟨[],zS,zS,λh=>absurd h zO,by simpa using Fl.nil⟩
  |succ n ih=>
   intro L;obtain⟨a,d,q,r,k⟩:=ih zO;obtain⟨j,o,A,ha,-,-,y,D,z,F⟩:=G n zO;refine⟨a++A,by rw[List.length_append,d,y,Nat.add_mul];omega,λc f=>(y8e.1 f).elim (q c) (z c),λ_=>⟨j,o,ha,λi c f=>?_⟩,?_⟩
   ·by_cases x:i<a.length
    ·rw[List.getElem?_append_left x] at f;obtain⟨J,M,u,E⟩:=r (by
      rcases Nat.eq_zero_or_pos n with h|h
      ·subst h;simp at d;subst d;simp at x
      ·exact h)
     rw[ha] at u;injection u with e;injection e with B C;subst B;subst C;exact E i c f
    ·rw[List.getElem?_append_right zO,d] at f;have:=D (i - n*b) c f;rwa[show o+n*b+(i - n*b)=o+i by omega] at this
   ·rw[List.take_succ_eq_append_getElem zO];exact k.append (Fl.one_ y z F)
 obtain⟨a,d,q,r,k⟩:=I l.length (ac _);rw[List.take_length] at k;exact⟨g,p,a,H,⟨d,q,r⟩,k⟩
theorem uX{P:Program}{w:World}{ops:Array Oper}{B:List Oper}{o:Oper}{a:Act}{Q:Exit->Act->World->Prop}(L:o.guard=none)(s x:Operand)(t:TypeId)
 (S:o.op=.call {callee:=.builtin .append,args:=#[s,x],argTypes:=#[t,t]})
 (c:Nat) (z:Value) (bytes:Nat) (hi:(P.info? 73).map (λr=>(r.zero,r.size,r.bytes))=some (some z,6,bytes)) (ht:P.underlying t=some (.slice 73))
 (a0:z.cells.size=6) (n:bytes<=1000)
 (l k:List DT) (v u:Value) (V:a.eval s=v) (A:OwnT c l v w) (p:a.eval x=u) (U:SlT9 (λb=>c<=b/\v.ownBlock≠some b) w k u)
 (R:l.length<=1000000000) (O:k.length<=1000000000) (G:c<=w.heap.size)
 (h:∀g f,OwnT c (l++k) g f->w.grownBy f v.ownBlock->(∀j,v.ownBlock=some j->c<=j)->wpList P ops Q B (a.put o.dst g) f):wpList P ops Q (o::B) a w:=by
 obtain⟨C,E,F⟩:=A.ex;obtain⟨a2,X,Z,Y,W⟩:=info_parts hi;obtain⟨a3,a4,D,rfl,J,K⟩:=SlY.flat U;have N:=A.lt;refine gu L s x t S c _ a2 z 6 bytes ht X Z Y W a0 zD n v l.length C V E a3 k.length a4 D p J R O G ?_;intro g f T d I;have H:Chg (λb=>v.ownBlock=some b) w f:=⟨d.os,d.tape,d.output,d.size,λa1 M p=>d.block a1 M λe=>p e.symm⟩;have y:∀x i,RT9 (λb=>c<=b/\v.ownBlock≠some b) w x i->RT9 (λb=>c<=b/\g.ownBlock≠some b) f x i:=λx i=>
  RT9.turn H (λb n q=>⟨q.2,q.1,λe=>by
   rcases I b e with h|h
   ·exact q.2 h
   ·have:=n.elim Tag.lt Tag.lt;omega⟩) x i
 exact h g f ⟨C++D,by rw[List.length_append];exact T,(F.imp y).append (K.imp y)⟩ d λj d=>(N j d).1
theorem ak{α d:Type}{c:Rs α}{f:α->Rs d}{b:d}(h:(do let a<-c;f a)=.ok b):∃a,c=.ok a/\f a=.ok b:=by
 cases c with
 |error e=>cases h
 |ok a=>exact⟨a,rfl,h⟩
theorem gL{a z:DE×Int}(h:df a=.ok z):z=a/\a.2<=65536:=by
 unfold df at h;split at h
 ·injection h with h;exact⟨h.symm,by assumption⟩
 ·cases h
theorem iv{p:Prop} [Decidable p]{e:Int}{u:Unit}(h:aU p e=.ok u):p:=by
 unfold aU at h;split at h
 ·assumption
 ·cases h
theorem kc:∀(l:List (Rs (DE×Int))) (n:Int) (z:List DE×Int),(∀b,b∈l->∀c,b=.ok c->0<=c.2)->0<=n->cF l n=.ok z->0<=z.2
 |[],n,z,_,hn,a=>by injection a with a;rw[<-a];exact hn
 |b::rs,n,z,hf,hn,a=>by
  obtain⟨c,e,a⟩:=ak a;obtain⟨h,f,a⟩:=ak a;injection a with a;have i:=hf b (cc ..) c e;rw[<-a];exact kc rs _ h (λg d=>hf g (bi _ d)) zO f
theorem vz{i:List Sg}{s:Sc}:∀(x:X) (e:DE×Int),aC i s x=.ok e->0<=e.2:=by
 intro x;induction x using X.ind with
 |h x ih=>
  intro e a;rw[dI] at a;have g:∀d,d∈x.l.map (aC i s)->∀e,d=.ok e->0<=e.2:=λd f e p=>by
   obtain⟨c,b,rfl⟩:=y8f.1 f;exact ih c b e p
  unfold dn at a;split at a
  ·injection a with a;rw[<-a];exact(show(0:Int)<=1 by decide)
  split at a
  ·split at a
   ·injection a with a;rw[<-a];exact(show(0:Int)<=1 by decide)
   ·obtain⟨d,f,a⟩:=ak a;injection a with a;rw[<-a];exact(show(0:Int)<=1 by decide)
  split at a
  ·obtain⟨d,f,a⟩:=ak a;injection a with a;rw[<-a];exact(show(0:Int)<=1 by decide)
  split at a
  ·obtain⟨j,ha,a⟩:=ak a;obtain⟨c,b,a⟩:=ak a;rw[(gL a).1];exact kc _ _ c g zD b
  split at a
  ·obtain⟨n,r,a⟩:=ak a;obtain⟨u,o,a⟩:=ak a;obtain⟨c,b,a⟩:=ak a;have q:=iv o;have k:0<=c.2:=by
    rw[List.getD_eq_getElem?_getD] at b;cases he:(x.l.map (aC i s))[1]? with
    |none=>rw[he] at b;cases b
    |some d=>rw[he] at b;exact g d (List.mem_of_getElem? he) c b
   rw[(gL a).1];have:=Int.mul_nonneg (show 0<=n by omega) k;show 0<=1+n*c.2;omega
  split at a
  ·obtain⟨j,ha,a⟩:=ak a;obtain⟨c,b,a⟩:=ak a;rw[(gL a).1];exact kc _ _ c (λd f=>g d (List.mem_of_mem_drop f)) zD b
  ·obtain⟨c,b,a⟩:=ak a;rw[(gL a).1];exact kc _ _ c g zD b
def Inc{α:Type}(k:Int)(f:Mk->Rs (α×Mk)):Prop:=∀m a,f m=.ok a->m.count+k<=a.2.count/\a.2.d=m.d/\a.2.bits=m.bits
theorem cP{n:Int}{m a:Mk}(h:aW n m=.ok a):a.count=m.count+n/\a.d=m.d/\a.bits=m.bits/\a.count<=65536:=by
 unfold aW at h;split at h
 ·injection h with h;rw[<-h];exact⟨rfl,rfl,rfl,by assumption⟩
 ·cases h
theorem ii(s:Sc)(x:X):Inc 0 (aG s x):=by
 intro m i a;obtain⟨g,e,a⟩:=ak a;obtain⟨f,d,a⟩:=ak a;injection a with a;obtain⟨h,b,c,-⟩:=cP d;have:=vz x g e;rw[<-a];exact⟨by show _<=f.count;omega,b,c⟩
theorem og(s:Sc)(c:Bool)(t x:X):Inc 1 (cG s c t x):=by
 intro m p a;obtain⟨j,h,a⟩:=ak a;obtain⟨o,n,a⟩:=ak a;obtain⟨b,i,a⟩:=ak a;injection a with a;obtain⟨k,d,e,-⟩:=cP h;obtain⟨l,f,g⟩:=ii s x j b i;rw[<-a];exact⟨by show _<=b.2.count;omega,f.trans d,g.trans e⟩
theorem xO(s:Sc)(x:X):Inc 1 (eu s x):=by
 intro m i a;obtain⟨f,h,a⟩:=ak a;obtain⟨e,d,a⟩:=ak a;injection a with a;obtain⟨g,b,c,-⟩:=cP d;rw[<-a];exact⟨by show _<=e.count;omega,b,c⟩
theorem iO{α:Type}:∀(fs:List (Mk->Rs (α×Mk))),(∀c,c∈fs->Inc 1 c)->∀m b,bB fs m=.ok b->m.count+(b.1.length:Int)<=b.2.count/\b.2.d=m.d/\b.2.bits=m.bits/\b.1.length=fs.length
 |[],_,m,b,a=>by injection a with a;rw[<-a];exact⟨zS,rfl,rfl,rfl⟩
 |c::fs,hf,m,b,a=>by
  obtain⟨e,o,a⟩:=ak a;obtain⟨f,p,a⟩:=ak a;injection a with a;obtain⟨q,h,i⟩:=hf c (cc ..) m e o;obtain⟨r,j,k,l⟩:=iO fs (λg n=>hf g (bi _ n)) e.2 f p;rw[<-a];refine⟨?_,j.trans h,k.trans i,by simp[l]⟩;show m.count+((e.1::f.1).length:Int)<=f.2.count;rw[List.length_cons];omega
theorem Inc.row{α:Type}{fs:List (Mk->Rs (α×Mk))}(h:∀a,a∈fs->Inc 1 a):Inc 0 (bB fs):=λm e d=>by
 obtain⟨f,b,c,-⟩:=iO fs h m e d;exact⟨zO,b,c⟩
theorem qz{body:Int->Mk->Rs (List DT×Mk)}(f:∀v m b,body v m=.ok b->m.count+(b.1.length:Int)<=b.2.count/\b.2.d=m.d/\b.2.bits=m.bits):∀(n:Nat) (v:Int) (m:Mk) (b:List DT×Mk),eQ body n v m=.ok b->m.count+(b.1.length:Int)<=b.2.count/\b.2.d=m.d/\b.2.bits=m.bits
 |0,v,m,b,a=>by injection a with a;rw[<-a];exact⟨zS,rfl,rfl⟩
 |n+1,v,m,b,a=>by
  obtain⟨r,o,a⟩:=ak a;obtain⟨c,p,a⟩:=ak a;obtain⟨e,q,a⟩:=ak a;injection a with a;obtain⟨u,g,h,-⟩:=cP o;obtain⟨w,i,j⟩:=f v r c p;obtain⟨x,k,l⟩:=qz f n (v+1) c.2 e q;rw[<-a];refine⟨?_,k.trans (i.trans g),l.trans (j.trans h)⟩;show m.count+((c.1++e.1).length:Int)<=e.2.count;rw[List.length_append];omega
theorem qA(r:Bool):∀x:S,(∀s,Inc 1 (aK r x s))/\(∀s,Inc 1 (cz r x s)):=by
 intro x;induction x using S.ind with
 |h x ih=>
  have B:∀s c,c∈(x.l.map (aK r)).map (λc=>c s)->Inc 1 c:=λs c i=>by
   rw[List.map_map] at i;obtain⟨d,j,rfl⟩:=y8f.1 i;exact(ih d j).1 s
  have ha:∀s c,c∈(x.l.map (cz r)).map (λc=>c s)->Inc 1 c:=λs c i=>by
   rw[List.map_map] at i;obtain⟨d,j,rfl⟩:=y8f.1 i;exact(ih d j).2 s
  refine⟨λs m y a=>?_,λs m y a=>?_⟩
  ·rw[fu] at a;unfold eR at a;split at a
   ·exact og _ _ _ _ m y a
   obtain⟨k,u,a⟩:=ak a;obtain⟨I,p,q,-⟩:=cP u;split at a
   ·obtain⟨b,e,a⟩:=ak a;injection a with a;obtain⟨A,f,g⟩:=Inc.row (B s) k b e;rw[<-a];exact⟨by show _<=b.2.count;omega,f.trans p,g.trans q⟩
   split at a
   ·obtain⟨M,Q,a⟩:=ak a;obtain⟨O,R,a⟩:=ak a;obtain⟨b,e,a⟩:=ak a;injection a with a;obtain⟨A,f,g⟩:=qz (λv m y L=>by
     obtain⟨z,n,o,-⟩:=iO _ (B _) m y L;exact⟨z,n,o⟩) _ _ k b e
    rw[<-a];exact⟨by show _<=b.2.count;omega,f.trans p,g.trans q⟩
   split at a
   ·obtain⟨d,j,a⟩:=ak a;obtain⟨b,e,a⟩:=ak a;injection a with a;obtain⟨z,n,o⟩:=ii _ _ k d j;obtain⟨A,f,g⟩:=Inc.row (ha s) d.2 b e;rw[<-a];exact⟨by show _<=b.2.count;omega,f.trans (n.trans p),g.trans (o.trans q)⟩
   split at a
   ·obtain⟨d,j,a⟩:=ak a;obtain⟨b,e,a⟩:=ak a;injection a with a;obtain⟨z,n,o⟩:=ii _ _ k d j;obtain⟨A,f,g⟩:=Inc.row (fs:=(x.l.zip (x.l.map (aK r))).map λw=>if w.1.op=2 then fZ w.2 s else w.2 s) (λc i=>by
     obtain⟨w,J,rfl⟩:=y8f.1 i;obtain⟨T,U⟩:=w;have K:=(List.of_mem_zip J).2;obtain⟨D,C,rfl⟩:=y8f.1 K;simp only;split
     ·intro m y a;obtain⟨k,u,a⟩:=ak a;obtain⟨b,e,a⟩:=ak a;injection a with a;obtain⟨N,E,F,-⟩:=cP u;obtain⟨P,G,H⟩:=(ih D C).1 s k b e;rw[<-a];exact⟨by show _<=b.2.count;omega,G.trans E,H.trans F⟩
     ·exact(ih D C).1 s) d.2 b e
    rw[<-a];exact⟨by show _<=b.2.count;omega,f.trans (n.trans p),g.trans (o.trans q)⟩
   ·injection a with a;rw[<-a];exact⟨by show _<=k.count;omega,p,q⟩
  ·rw[jF] at a;obtain⟨k,u,a⟩:=ak a;obtain⟨d,j,a⟩:=ak a;obtain⟨b,e,a⟩:=ak a;injection a with a;obtain⟨I,p,q,-⟩:=cP u;obtain⟨z,n,o⟩:=Inc.row (fs:=x.x.map λl=>eu s l) (λc i=>by
    obtain⟨l,-,rfl⟩:=y8f.1 i;exact xO s l) k d j
   obtain⟨A,f,g⟩:=Inc.row (B s) d.2 b e;rw[<-a];exact⟨by show _<=b.2.count;omega,f.trans (n.trans p),g.trans (o.trans q)⟩
theorem yZ{b:Bool}{s:Sc}{l:List S}{m:Mk}{a:List DT×Mk}(h:bC b s l m=.ok a):m.count+(a.1.length:Int)<=a.2.count:=(iO _ (λe c=>by
 obtain⟨d,-,rfl⟩:=y8f.1 c;exact(qA b d).1 s) m a h).1
theorem hV{s:Sc}{x:X}{v:Int}(h:aI s x=.ok v):bU v:=by
 unfold aI ofK at h;split at h
 ·rename_i a
  injection h with h;unfold bA at h a;split at a
  ·rename_i c
   rw[if_pos c] at h;have b:=qP (bF s.env) x;unfold okK at b;rw[<-h];rcases b with⟨-,hi⟩|⟨d,-⟩
   ·exact hi
   ·exfalso;omega
  ·exact absurd a zD
 ·cases h
theorem gS{s:Sc}{x:X}{v:Int}(h:cj s x=.ok v):1<=v/\v<=64:=by
 unfold cj ofK at h;split at h
 ·rename_i a
  injection h with h;unfold hH at h a;split at a
  ·exact absurd a zD
  ·rename_i b
   rw[if_neg b] at h;have:¬((bA s.env x).1<1\/64<(bA s.env x).1):=λe=>b ⟨a,e⟩
   omega
 ·cases h
theorem eY{b:ByteArray}{a kind e:Int}{s:Sc}{m:Mk}{f:Sc×Mk}(h:cI b a kind e s m=.ok f):
 f=({s with sigs:=az s.sigs b m.d.sigs.length},{m with bits:=m.bits+a,d:={m.d with sigs:=m.d.sigs++[⟨s.path++b,a,kind,e⟩]}})/\m.d.sigs.length<512/\m.bits+a<=4096:=by
 unfold cI at h;split at h
 ·rename_i c
  injection h with h;exact⟨h.symm,c.1,c.2⟩
 ·cases h
theorem fC{a:Bool}{l:List DT}{m b:Mk}(h:ca a l m=.ok b):b={m with d:={m.d with procs:=m.d.procs++[⟨a,l⟩]}}/\m.d.procs.length<1024:=by
 unfold ca at h;split at h
 ·injection h with h;exact⟨h.symm,by assumption⟩
 ·cases h
section
variable (inst : Itm → Sc → Mk → Rs Mk) (t : Itm) (s : Sc) (m : Mk)
theorem mC(h:t.op=1):aF inst t s m=(do let v<-aI s (xAt t.x 0);return(s.con t.name v,m)):=by
 obtain⟨op,b,of,x,d,l,els,c,a⟩:=t;simp only[Itm.op] at h;subst h;rw[aF];rfl
theorem mh(h:t.op=2):aF inst t s m=(do let w<-cj s (xAt t.x 0);cI t.name w 3 0 s m):=by
 obtain⟨op,b,of,x,d,l,els,c,a⟩:=t;simp only[Itm.op] at h;subst h;rw[aF];rfl
theorem lP(h:t.op=3):aF inst t s m=(do let w<-cj s (xAt t.x 0);let b<-eH s (xAt t.x 1);cI t.name w 4 b.2 s m):=by
 obtain⟨op,c,of,x,e,l,els,d,a⟩:=t;simp only[Itm.op] at h;subst h;rw[aF];rfl
theorem kH(h:t.op=4):aF inst t s m=(do let y<-cG s false (xAt t.x 0) (xAt t.x 1) m;let m2<-ca false [y.1] y.2;return(s,m2)):=by
 obtain⟨op,b,of,x,d,l,els,c,a⟩:=t;simp only[Itm.op] at h;subst h;rw[aF];rfl
theorem ki(h:t.op=5\/t.op=6):aF inst t s m=(do let y<-bC (decide (t.op=6)) s t.s m;let m2<-ca (decide (t.op=6)) y.1 y.2;return(s,m2)):=by
 obtain⟨op,b,of,x,d,l,els,c,a⟩:=t;simp only[Itm.op] at h;rcases h with h|h<;>subst h<;>rw[aF]<;>rfl
theorem mB(h:t.op=10):aF inst t s m=(do let y<-aG s (xAt t.x 0) m;return(s,{y.2 with d:={y.2.d with chks:=y.2.d.chks++[⟨s.path++t.name,y.1⟩]}})):=by
 obtain⟨op,b,of,x,e,l,els,c,a⟩:=t;simp only[Itm.op] at h;subst h;rw[aF];rfl
theorem me(h:t.op=7):aF inst t s m=(do let m2<-inst t s m;return(s,m2)):=by
 obtain⟨op,b,of,x,d,l,els,c,a⟩:=t;simp only[Itm.op] at h;subst h;rw[aF];rfl
theorem lB(h:t.op=8):aF inst t s m=(do let v<-aI s (xAt t.x 0);if v≠0 then aZ inst t.l s m else aZ inst t.els s m):=by
 obtain⟨op,b,of,x,d,l,els,c,a⟩:=t;simp only[Itm.op] at h;subst h;rw[aF];rfl
theorem mf(h:t.op=9):aF inst t s m=(do
 let a<-aI s (xAt t.x 0)
 let b<-aI s (xAt t.x 1)
 let m2<-ff (λv c=>do let z<-aZ inst t.l (s.pass t.name t.of v) c;return z.2) (b - a).toNat a m
 return(s,m2)):=by
 obtain⟨op,e,of,x,g,l,els,f,d⟩:=t;simp only[Itm.op] at h;subst h;rw[aF];rfl
end
def iB(inst:Itm->Sc->Mk->Rs Mk):Prop:=∀t s m a,inst t s m=.ok a->m.d.sigs.length<=a.d.sigs.length
theorem jg{n:Int}{m a:Mk}(h:aW n m=.ok a):a.d=m.d:=by
 unfold aW at h;split at h
 ·injection h with h;rw[<-h]
 ·cases h
theorem oB{body:Int->Mk->Rs Mk}(c:∀v m b,body v m=.ok b->m.d.sigs.length<=b.d.sigs.length):∀(n:Nat) (v:Int) (m b:Mk),ff body n v m=.ok b->m.d.sigs.length<=b.d.sigs.length
 |0,v,m,b,a=>by injection a with a;rw[a];exact ac _
 |n+1,v,m,b,a=>by
  obtain⟨i,f,a⟩:=ak a;obtain⟨e,g,a⟩:=ak a;have:=oB c n (v+1) e b a;have h:=c v i e g;rw[jg f] at h;omega
theorem gp{inst:Itm->Sc->Mk->Rs Mk}:∀(l:List Itm),(∀t,t∈l->∀s m b,aF inst t s m=.ok b->m.d.sigs.length<=b.2.d.sigs.length)->∀s m b,aZ inst l s m=.ok b->m.d.sigs.length<=b.2.d.sigs.length
 |[],_,s,m,b,a=>by rw[aZ] at a;injection a with a;rw[<-a];exact ac _
 |t::l,hl,s,m,b,a=>by
  rw[aZ] at a;obtain⟨i,c,a⟩:=ak a;obtain⟨j,e,a⟩:=ak a;have f:=hl t (cc ..) _ _ _ e;have h:=gp l (λt g=>hl t (bi _ g)) _ _ _ a;rw[jg c] at f;omega
theorem oi{inst:Itm->Sc->Mk->Rs Mk}{t:Itm}{s:Sc}{m:Mk}(h:¬(1<=t.op/\t.op<=10)):aF inst t s m=.ok (s,m):=by
 obtain⟨op,b,of,x,d,l,els,c,a⟩:=t;simp only[Itm.op] at h;rw[aF];rw[if_neg zO,if_neg zO,if_neg zO,if_neg zO,if_neg zO,if_neg zO,if_neg zO,if_neg zO,if_neg zO];rfl
theorem mg{inst:Itm->Sc->Mk->Rs Mk}(hi:iB inst):∀(t:Itm) (s:Sc) (m:Mk) (i:Sc×Mk),aF inst t s m=.ok i->m.d.sigs.length<=i.2.d.sigs.length:=by
 intro t;induction t using Itm.ind with
 |h t ih1 ih2=>
  intro s m i a;by_cases p:t.op=1
  ·rw[mC inst t s m p] at a;obtain⟨v,-,a⟩:=ak a;injection a with a;rw[<-a];exact ac _
  by_cases r:t.op=2
  ·rw[mh inst t s m r] at a;obtain⟨v,-,a⟩:=ak a;rw[(eY a).1];simp
  by_cases u:t.op=3
  ·rw[lP inst t s m u] at a;obtain⟨v,-,a⟩:=ak a;obtain⟨o,-,a⟩:=ak a;rw[(eY a).1];simp
  by_cases w:t.op=4
  ·rw[kH inst t s m w] at a;obtain⟨b,j,a⟩:=ak a;obtain⟨n,c,a⟩:=ak a;injection a with a;rw[<-a,(fC c).1];show _<=b.2.d.sigs.length;rw[(og s false _ _ m b j).2.1];exact ac _
  by_cases j:t.op=5\/t.op=6
  ·rw[ki inst t s m j] at a;obtain⟨b,c,a⟩:=ak a;obtain⟨n,e,a⟩:=ak a;injection a with a;rw[<-a,(fC e).1];show _<=b.2.d.sigs.length;rw[(iO _ (λC z=>by obtain⟨x,-,rfl⟩:=List.mem_map.1 z;exact(qA _ x).1 s) m b c).2.1];exact ac _
  by_cases c:t.op=10
  ·rw[mB inst t s m c] at a;obtain⟨b,e,a⟩:=ak a;injection a with a;rw[<-a];show _<=b.2.d.sigs.length;rw[(ii s _ m b e).2.1];exact ac _
  by_cases e:t.op=7
  ·rw[me inst t s m e] at a;obtain⟨n,k,a⟩:=ak a;injection a with a;rw[<-a];exact hi _ _ _ _ k
  by_cases k:t.op=8
  ·rw[lB inst t s m k] at a;obtain⟨v,-,a⟩:=ak a;split at a
   ·exact gp t.l (λb g=>ih1 b g) s m i a
   ·exact gp t.els (λb g=>ih2 b g) s m i a
  by_cases y:t.op=9
  ·rw[mf inst t s m y] at a;obtain⟨B,-,a⟩:=ak a;obtain⟨o,-,a⟩:=ak a;obtain⟨n,q,a⟩:=ak a;injection a with a;rw[<-a];refine oB (λv m D f=>?_) _ _ _ _ q;obtain⟨E,A,f⟩:=ak f;injection f with f;rw[<-f];exact gp t.l (λb g=>ih1 b g) _ _ _ A
  rw[oi zO] at a;injection a with a;rw[<-a];exact ac _
theorem ofIs_mem{l:List Itm}{s:ByteArray}:s∈bX l↔∃t,t∈l/\s∈ofI t:=by
 induction l with
 |nil=>simp[bX]
 |cons x l ih=>simp[bX,ih]
theorem ofI_mem{t:Itm}{s:ByteArray}:s∈ofI t↔(t.op=7/\s=t.of)\/s∈bX t.l\/s∈bX t.els:=by
 rw[nP];by_cases a:t.op=7
 ·simp[a]
 ·simp[a]
def RkM(f:List Mdl):Nat->List ByteArray->Prop
 |0,l=>∀s,¬s∈l
 |k+1,l=>∀s,s∈l->∃of,ce f s=some of/\RkM f k (bX of.items)
theorem RkM.sub{f:List Mdl}:∀{k:Nat} {l b:List ByteArray},RkM f k l->(∀s,s∈b->s∈l)->RkM f k b
 |0,_,_,h,hs=>λs a=>h s (hs s a)
 |k+1,_,_,h,hs=>λs a=>h s (hs s a)
theorem ju{f:List Mdl}(h:cC f=0):ed f=0/\(aX f).Nodup/\(∀m,m∈f->dV m)/\(∀m,m∈f->∀s,s∈cg m->s∈aX f)/\(cY f).length=f.length:=by
 unfold cC at h;split at h
 ·rename_i a
  unfold eL at h;split at h
  ·rename_i b
   split at h
   ·rename_i c
    split at h
    ·exact absurd h zD
    ·rename_i d
     have:=(mo f).1.le;exact⟨a,b.1,b.2,c,zO⟩
   ·exact absurd h zD
  ·exact absurd h zD
 ·rename_i a;exact absurd h a
theorem vG{f:List Mdl}(h:(aX f).Nodup){m:Mdl}(b:m∈f):ce f m.name=some m:=by
 induction f with
 |nil=>cases b
 |cons a r ih=>
  unfold ce;rw[List.find?_cons];obtain⟨d,g⟩:=List.nodup_cons.1 (show(a.name::aX r).Nodup from h);rcases List.mem_cons.1 b with rfl|c
  ·rw[yes_iff.2 rfl]
  ·rw[yes_no.2 (λe=>d (by rw[e];exact y8f.2 ⟨m,c,rfl⟩))];exact ih g c
theorem AA{f:List Mdl}(k:(aX f).Nodup){c:List ByteArray}(l:Ordered f c):∀a,a<=c.length->RkM f a (c.take a):=by
 intro a;induction a with
 |zero=>intro _ s b;simp at b
 |succ a ih=>
  intro n s b;obtain⟨d,j,rfl⟩:=List.getElem_of_mem b;rw[List.length_take] at j;rw[List.getElem_take];obtain⟨m,e,g,h⟩:=l.pre d zO;rw[<-g];refine⟨m,vG k e,(ih zO).sub λs b=>?_⟩;have i:=h s (mem_uses.2 b);exact(List.take_subset_take_left _ (by omega:d<=a)) i
theorem qd{f:List Mdl}(h:cC f=0){m:Mdl}(i:m∈f):RkM f f.length (bX m.items):=by
 obtain⟨-,j,-,n,a⟩:=ju h;have b:=(mo f).1;have e:=AA j b f.length zO;rw[<-a,List.take_length] at e;rw[<-a];refine e.sub λs k=>?_
 have g:=n m i s (mem_uses.2 k);have p:(aX f).length=(cY f).length:=by simp[aX,a]
 by_cases d:s∈cY f
 ·exact d
 ·exfalso;have:=qJ (o:=s::cY f) (l:=aX f) (List.nodup_cons.2 ⟨d,b.nodup⟩) (λt c=>by
   rcases List.mem_cons.1 c with rfl|c
   ·exact g
   ·exact b.sub t c)
  rw[List.length_cons] at this;omega
mutual
def okE(a:List Sg):DE->Prop
 |.mk op w v sig hi lo n l=>(op=2->0<=sig/\sig<a.length/\0<=lo/\lo<=hi/\hi<(aD a sig).w)/\(op=3->0<=sig/\sig<a.length)/\iE a l
def iE(a:List Sg):List DE->Prop
 |[]=>True
 |e::r=>okE a e/\iE a r
end
theorem wq{a:List Sg}{l:List DE}:iE a l↔∀e,e∈l->okE a e:=by
 induction l with
 |nil=>simp[iE]
 |cons x l ih=>simp[iE,ih]
def ld(a:List Sg)(e:DE):Prop:=(e.op=2->0<=e.sig/\e.sig<a.length/\0<=e.lo/\e.lo<=e.hi/\e.hi<(aD a e.sig).w)/\(e.op=3->0<=e.sig/\e.sig<a.length)
theorem okE_iff{a:List Sg}{e:DE}:okE a e↔ld a e/\∀b,b∈e.l->okE a b:=by
 cases e;rw[okE,wq,<-and_assoc];rfl
mutual
def okT(a:List Sg)(b:Bool):DT->Prop
 |.mk op sig hi lo e l=>(op=1->0<=sig/\sig<a.length/\0<=lo/\lo<=hi/\hi<(aD a sig).w/\dg b (aD a sig).kind=true)/\(∀c,c∈e->okE a c)/\iG a b l
def iG(b:List Sg)(a:Bool):List DT->Prop
 |[]=>True
 |t::r=>okT b a t/\iG b a r
end
theorem ws{b:List Sg}{a:Bool}{l:List DT}:iG b a l↔∀e,e∈l->okT b a e:=by
 induction l with
 |nil=>simp[iG]
 |cons x l ih=>simp[iG,ih]
def sn(a:List Sg)(b:Bool)(t:DT):Prop:=t.op=1->0<=t.sig/\t.sig<a.length/\0<=t.lo/\t.lo<=t.hi/\t.hi<(aD a t.sig).w/\dg b (aD a t.sig).kind=true
theorem okT_iff{b:List Sg}{c:Bool}{t:DT}:okT b c t↔sn b c t/\(∀a,a∈t.e->okE b a)/\∀a,a∈t.l->okT b c a:=by
 cases t;rw[okT,ws];rfl
theorem mG{b n:List Sg}{a:Int}(h0:0<=a)(c:a<b.length):aD (b++n) a=aD b a:=by
 unfold aD;rw[List.getD_eq_getElem?_getD,List.getD_eq_getElem?_getD,List.getElem?_append_left zO]
theorem okE.more{g:List Sg}(n:List Sg)(e:DE):okE g e->okE (g++n) e:=by
 induction e using DE.ind with
 |h e ih=>
  intro l;obtain⟨⟨o,p⟩,q⟩:=okE_iff.1 l;refine okE_iff.2 ⟨⟨λb=>?_,λb=>?_⟩,λi f=>ih i f (q i f)⟩
  ·obtain⟨a,c,j,d,k⟩:=o b;rw[mG a c,List.length_append];exact⟨a,zO,j,d,k⟩
  ·obtain⟨a,c⟩:=p b;rw[List.length_append];exact⟨a,zO⟩
theorem okT.more{f:List Sg}(n:List Sg){e:Bool}(t:DT):okT f e t->okT (f++n) e t:=by
 induction t using DT.ind with
 |h t ih=>
  intro l;obtain⟨o,p,q⟩:=okT_iff.1 l;refine okT_iff.2 ⟨λr=>?_,λb a=>(p b a).more n,λb a=>ih b a (q b a)⟩;obtain⟨c,g,i,d,j,k⟩:=o r;rw[mG c g,List.length_append];exact⟨c,zO,i,d,j,k⟩
mutual
def nE:DE->Nat
 |.mk _ _ _ _ _ _ _ l=>1+nEs l
def nEs:List DE->Nat
 |[]=>0
 |e::r=>nE e+nEs r
end
theorem nM(l:List DE):nEs l=aa nE l:=by
 induction l with
 |nil=>rfl
 |cons x l ih=>rw[nEs,ih];rfl
theorem fd(e:DE):nE e=1+aa nE e.l:=by cases e;rw[nE,nM];rfl
mutual
def nT:DT->Nat
 |.mk _ _ _ _ e l=>1+(nEs e+nTs l)
def nTs:List DT->Nat
 |[]=>0
 |t::r=>nT t+nTs r
end
theorem sY(l:List DT):nTs l=aa nT l:=by
 induction l with
 |nil=>rfl
 |cons x l ih=>rw[nTs,ih];rfl
theorem fe(t:DT):nT t=1+(aa nE t.e+aa nT t.l):=by cases t;rw[nT,nM,sY];rfl
theorem mm{α:Type}(f:α->Nat)(l:List α)(x:α):aa f (l++[x])=aa f l+f x:=by
 induction l with
 |nil=>show f x+0=0+f x;omega
 |cons y l ih=>show f y+aa f (l++[x])=(f y+aa f l)+f x;omega
theorem yv{α:Type}(f:α->Nat)(n:Nat)(x:α):aa f (List.replicate n x)=n*f x:=by
 induction n with
 |zero=>rw[Nat.zero_mul];rfl
 |succ n ih=>rw[List.replicate_succ,Nat.succ_mul];show f x+aa f (List.replicate n x)=_;omega
def At(c:List Sg)(s:Sc):Prop:=∀b a,s.sigs b=some a->0<=a/\a<c.length
theorem qE{f:List Sg}{s:Sc}(h:At f s){d:ByteArray}{a:Int}(c:dt s d=.ok a):0<=a/\a<f.length:=by
 unfold dt at c;cases hs:s.sigs d with
 |none=>rw[hs] at c;cases c
 |some b=>rw[hs] at c;injection c with e;subst e;exact h d b hs
theorem pE{e:List Sg}{s:Sc}(h:At e s){x:X}{b:Int×Int×Int}(a:bS e s x=.ok b):0<=b.1/\b.1<e.length/\0<=b.2.2/\b.2.2<=b.2.1/\b.2.1<(aD e b.1).w:=by
 unfold bS at a;obtain⟨i,ha,a⟩:=ak a;have d:=qE h ha;simp only at a;split at a
 ·obtain⟨g,f,a⟩:=ak a;have c:=iv f;injection a with a;subst a;exact⟨d.1,d.2,Int.le_refl _,c.1,c.2⟩
 ·obtain⟨hi,-,a⟩:=ak a;obtain⟨lo,-,a⟩:=ak a;obtain⟨g,f,a⟩:=ak a;have c:=iv f;injection a with a;subst a;exact⟨d.1,d.2,c.1,c.2.1,c.2.2⟩
theorem rR{c:List Sg}{s:Sc}(h:At c s){f:Bool}{x:X}{b:Int×Int×Int}(a:cJ c s f x=.ok b):0<=b.1/\b.1<c.length/\0<=b.2.2/\b.2.2<=b.2.1/\b.2.1<(aD c b.1).w/\dg f (aD c b.1).kind=true:=by
 unfold cJ at a;obtain⟨o,-,a⟩:=ak a;obtain⟨n,k,a⟩:=ak a;simp only at a;obtain⟨v,l,a⟩:=ak a;injection a with a;subst a;obtain⟨g,i,j,d,e⟩:=pE h k;exact⟨g,i,j,d,e,iv l⟩
def EOk(b:List Sg)(a:DE×Int):Prop:=okE b a.1/\a.2=(nE a.1:Int)
theorem jQ{g:List Sg}:∀(l:List (Rs (DE×Int))) (n:Int) (z:List DE×Int),(∀d,d∈l->∀c,d=.ok c->EOk g c)->0<=n->n<=65537->cF l n=.ok z->(∀e,e∈z.1->okE g e)/\z.2=min (n+(aa nE z.1:Int)) 65537
 |[],n,z,_,h0,hn,a=>by
  injection a with a;rw[<-a];refine⟨λe b=>(by cases b),?_⟩;show n=min (n+((0:Nat):Int)) 65537;omega
 |d::rs,n,z,hf,h0,hn,a=>by
  obtain⟨c,p,a⟩:=ak a;obtain⟨f,q,a⟩:=ak a;injection a with a;obtain⟨h,i⟩:=hf d (cc ..) c p;obtain⟨j,k⟩:=jQ rs _ f (λr o=>hf r (bi _ o)) zO zO q;rw[<-a];refine⟨λe b=>?_,?_⟩
  ·rcases List.mem_cons.1 b with rfl|b
   ·exact h
   ·exact j e b
  ·show f.2=min (n+((nE c.1+aa nE f.1:Nat):Int)) 65537;rw[k,i];omega
theorem nA{c:List Sg}{e:DE}(a:e.l=[])(h:ld c e):EOk c (e,1):=⟨okE_iff.2 ⟨h,λd b=>by rw[a] at b;cases b⟩,by rw[fd,a];rfl⟩
theorem qY{a:List Sg}{s:Sc}(i:At a s){x:X}{b:Int×Int×Int}(j:bS a s x=.ok b):EOk a (fk b,1):=by
 obtain⟨c,f,g,d,e⟩:=pE i j;exact nA rfl ⟨λ_=>⟨c,f,g,d,e⟩,λh=>absurd h (by show¬(2:Int)=3;decide)⟩
theorem lE(b:List Sg)(w v:Int):EOk b (bR w v,1):=nA rfl ⟨λa=>absurd a (by show¬(1:Int)=2;decide),λa=>absurd a (by show¬(1:Int)=3;decide)⟩
theorem mY{a:List Sg}{op w v sig hi lo n:Int}{z:List DE×Int}(f:ld a (.mk op w v sig hi lo n z.1))(b:(∀e,e∈z.1->okE a e)/\z.2=min (1+(aa nE z.1:Int)) 65537){c:DE×Int}(h:df (.mk op w v sig hi lo n z.1,z.2)=.ok c):EOk a c:=by
 obtain⟨rfl,d⟩:=gL h;refine⟨okE_iff.2 ⟨f,b.1⟩,?_⟩;show z.2=_;have g:z.2<=65536:=d;have i:=b.2;rw[fd];show z.2=((1+aa nE z.1:Nat):Int);omega
theorem nU(op:Int):opD op≠2/\opD op≠3:=by
 unfold opD;split
 ·decide
 split
 ·decide
 split
 ·decide
 split<;>decide
theorem vA{f:List Sg}{s:Sc}(k:At f s):∀(x:X) (g:DE×Int),aC f s x=.ok g->EOk f g:=by
 intro x;induction x using X.ind with
 |h x ih=>
  intro g a;rw[dI] at a;have j:∀d,d∈x.l.map (aC f s)->∀g,d=.ok g->EOk f g:=λd i g o=>by
   obtain⟨c,b,rfl⟩:=y8f.1 i;exact ih c b g o
  unfold dn at a;split at a
  ·injection a with a;rw[<-a];exact lE f _ _
  split at a
  ·split at a
   ·injection a with a;rw[<-a];exact lE f _ _
   ·obtain⟨d,i,a⟩:=ak a;injection a with a;rw[<-a];exact qY k i
  split at a
  ·obtain⟨d,i,a⟩:=ak a;injection a with a;rw[<-a];exact qY k i
  split at a
  ·obtain⟨q,ha,a⟩:=ak a;obtain⟨c,b,a⟩:=ak a;exact mY ⟨λe=>absurd e (by show¬(3:Int)=2;decide),λ_=>qE k ha⟩ (jQ _ _ c j zD zD b) a
  split at a
  ·obtain⟨n,y,a⟩:=ak a;obtain⟨z,u,a⟩:=ak a;obtain⟨c,b,a⟩:=ak a;have v:=iv u;have p:EOk f c:=by
    rw[List.getD_eq_getElem?_getD] at b;cases he:(x.l.map (aC f s))[1]? with
    |none=>rw[he] at b;cases b
    |some d=>rw[he] at b;exact j d (List.mem_of_getElem? he) c b
   obtain⟨rfl,w⟩:=gL a;refine⟨okE_iff.2 ⟨⟨λe=>absurd e (by show¬(7:Int)=2;decide),λe=>absurd e (by show¬(7:Int)=3;decide)⟩,λg o=>?_⟩,?_⟩
   ·rw[List.eq_of_mem_replicate o];exact p.1
   ·rw[fd];show 1+n*c.2=((1+aa nE (List.replicate n.toNat c.1):Nat):Int);rw[yv,p.2];have r:((n.toNat:Nat):Int)=n:=by omega
    rw[Int.natCast_add,Int.natCast_mul,r];rfl
  split at a
  ·obtain⟨q,ha,a⟩:=ak a;obtain⟨c,b,a⟩:=ak a;exact mY ⟨λe=>absurd e (by show¬(8:Int)=2;decide),λe=>absurd e (by show¬(8:Int)=3;decide)⟩ (jQ _ _ c (λd i=>j d (List.mem_of_mem_drop i)) zD zD b) a
  ·obtain⟨c,b,a⟩:=ak a;exact mY ⟨λe=>absurd e (nU _).1,λe=>absurd e (nU _).2⟩ (jQ _ _ c j zD zD b) a
def Wt{α:Type}(d:Dsn)(P:α->Prop)(wt:α->Nat)(f:Mk->Rs (α×Mk)):Prop:=∀m a,m.d=d->m.count<=65536->f m=.ok a->P a.1/\m.count+(wt a.1:Int)<=a.2.count/\a.2.d=d/\a.2.bits=m.bits/\a.2.count<=65536
theorem iY{d:Dsn}{s:Sc}(k:At d.sigs s)(x:X):Wt d (okE d.sigs) nE (aG s x):=by
 intro m q b p a;obtain⟨o,c,a⟩:=ak a;obtain⟨n,l,a⟩:=ak a;injection a with a;obtain⟨e,f,g,h⟩:=cP l;rw[b] at c;obtain⟨i,j⟩:=vA k x o c;rw[<-a];exact⟨i,by show _<=n.count;rw[e,j];exact Int.le_refl _,f.trans b,g,h⟩
theorem sa{d:Dsn}{s:Sc}(h:At d.sigs s)(g:Bool)(w x:X):Wt d (okT d.sigs g) nT (cG s g w x):=by
 intro m D q B a;obtain⟨v,r,a⟩:=ak a;obtain⟨C,b,a⟩:=ak a;obtain⟨f,u,a⟩:=ak a;injection a with a;obtain⟨A,n,o,p⟩:=cP r;have i:=n.trans q;obtain⟨j,z,k,e,l⟩:=iY h x v f i p u;rw[i] at b;have b:=rR h b;rw[<-a];refine⟨okT_iff.2 ⟨λ_=>b,λy c=>by rw[List.mem_singleton.1 c];exact j,λy c=>(by cases c)⟩,?_,k,e.trans o,l⟩;rw[fe];show m.count+((1+(nE f.1+0+0):Nat):Int)<=f.2.count;omega
theorem wW(d:Dsn)(s:Sc)(x:X):Wt d (okE d.sigs) nE (eu s x):=by
 intro m q i p a;obtain⟨b,o,a⟩:=ak a;obtain⟨k,j,a⟩:=ak a;injection a with a;obtain⟨l,c,e,f⟩:=cP j;obtain⟨g,h⟩:=lE d.sigs b.1 b.2;rw[<-a];exact⟨g,by show _<=k.count;have n:(1:Int)=nE (bR b.1 b.2):=h;show m.count+(nE (bR b.1 b.2):Int)<=_;omega,c.trans i,e,f⟩
theorem hJ{α:Type}{d:Dsn}{P:α->Prop}{wt:α->Nat}:∀(fs:List (Mk->Rs (α×Mk))),(∀c,c∈fs->Wt d P wt c)->Wt d (λl=>∀b,b∈l->P b) (aa wt) (bB fs)
 |[],_,m,r,hm,hc,a=>by injection a with a;rw[<-a];exact⟨λb h=>(by cases h),by show m.count+((0:Nat):Int)<=m.count;omega,hm,rfl,hc⟩
 |c::fs,hf,m,r,hm,hc,a=>by
  obtain⟨b,h,a⟩:=ak a;obtain⟨i,v,a⟩:=ak a;injection a with a;obtain⟨j,x,n,e,f⟩:=hf c (cc ..) m b hm hc h;obtain⟨k,y,o,p,q⟩:=hJ fs (λf u=>hf f (bi _ u)) b.2 i n f v;rw[<-a];refine⟨λw g=>?_,?_,o,p.trans e,q⟩
  ·rcases List.mem_cons.1 g with rfl|g
   ·exact j
   ·exact k w g
  ·show m.count+((wt b.1+aa wt i.1:Nat):Int)<=i.2.count;omega
theorem qi{d:Dsn}{P:DT->Prop}{body:Int->Mk->Rs (List DT×Mk)}(h:∀v,Wt d (λl=>∀b,b∈l->P b) (aa nT) (body v)):∀(n:Nat) (v:Int),Wt d (λl=>∀b,b∈l->P b) (aa nT) (eQ body n v)
 |0,v,m,r,hm,hc,a=>by injection a with a;rw[<-a];exact⟨λb f=>(by cases f),by show m.count+((0:Nat):Int)<=m.count;omega,hm,rfl,hc⟩
 |n+1,v,m,r,hm,hc,a=>by
  obtain⟨C,A,a⟩:=ak a;obtain⟨b,f,a⟩:=ak a;obtain⟨g,B,a⟩:=ak a;injection a with a;obtain⟨F,x,y,z⟩:=cP A;obtain⟨j,D,o,e,u⟩:=h v C b (x.trans hm) z f;obtain⟨k,E,p,q,w⟩:=qi h n (v+1) b.2 g o u B;rw[<-a];refine⟨λi c=>?_,?_,p,q.trans (e.trans y),w⟩
  ·rcases y8e.1 c with c|c
   ·exact j i c
   ·exact k i c
  ·show m.count+((aa nT (b.1++g.1):Nat):Int)<=g.2.count;rw[iA];omega
theorem uu(d:Dsn)(k:Bool):∀x:S,(∀s,At d.sigs s->Wt d (okT d.sigs k) nT (aK k x s))/\(∀s,At d.sigs s->Wt d (okT d.sigs k) nT (cz k x s)):=by
 intro x;induction x using S.ind with
 |h x ih=>
  have M:∀s,At d.sigs s->Wt d (λl=>∀b,b∈l->okT d.sigs k b) (aa nT) (bB ((x.l.map (aK k)).map λG=>G s)):=λs g=>hJ _ λG r=>by
   rw[List.map_map] at r;obtain⟨b,f,rfl⟩:=y8f.1 r;exact(ih b f).1 s g
  have y:∀(op:Int) (e:List DE) (l:List DT),op≠1->(∀b,b∈e->okE d.sigs b)->(∀b,b∈l->okT d.sigs k b)->okT d.sigs k (.mk op 0 0 0 e l):=λop e l U R T=>okT_iff.2 ⟨λa=>absurd a U,R,T⟩
  have z:∀(op:Int) (e:List DE) (l:List DT),nT (.mk op 0 0 0 e l)=1+(aa nE e+aa nT l):=λop e l=>fe _
  refine⟨λs g m N A L a=>?_,λs g m N A L a=>?_⟩
  ·rw[fu] at a;unfold eR at a;split at a
   ·exact sa g k _ _ m N A L a
   obtain⟨u,K,a⟩:=ak a;obtain⟨Q,I,p,q⟩:=cP K;have J:=I.trans A;split at a
   ·obtain⟨c,o,a⟩:=ak a;injection a with a;obtain⟨i,D,j,e,n⟩:=M s g u c J q o;rw[<-a];refine⟨y _ _ _ zD (λb f=>(by cases f)) i,?_,j,e.trans p,n⟩;rw[z];show m.count+((1+(0+aa nT c.1):Nat):Int)<=c.2.count;omega
   split at a
   ·obtain⟨a0,-,a⟩:=ak a;obtain⟨a1,-,a⟩:=ak a;obtain⟨c,o,a⟩:=ak a;injection a with a;obtain⟨i,D,j,e,n⟩:=qi (λv=>M (s.con x.name v) g) _ _ u c J q o;rw[<-a];refine⟨y _ _ _ zD (λb f=>(by cases f)) i,?_,j,e.trans p,n⟩;rw[z];show m.count+((1+(0+aa nT c.1):Nat):Int)<=c.2.count;omega
   split at a
   ·obtain⟨b,f,a⟩:=ak a;obtain⟨c,o,a⟩:=ak a;injection a with a;obtain⟨i,D,j,e,n⟩:=iY g _ u b J q f;obtain⟨C,O,E,F,H⟩:=hJ (d:=d) (P:=okT d.sigs k) (wt:=nT) _ (λG r=>by
     rw[List.map_map] at r;obtain⟨B,w,rfl⟩:=y8f.1 r;exact(ih B w).2 s g) b.2 c j n o
    rw[<-a];refine⟨y _ _ _ zD (λB w=>by rw[List.mem_singleton.1 w];exact i) C,?_,E,F.trans (e.trans p),H⟩;rw[z];show m.count+((1+(nE b.1+0+aa nT c.1):Nat):Int)<=c.2.count;omega
   split at a
   ·obtain⟨b,f,a⟩:=ak a;obtain⟨c,o,a⟩:=ak a;injection a with a;obtain⟨i,D,j,e,n⟩:=iY g _ u b J q f;obtain⟨C,O,E,F,H⟩:=hJ (d:=d) (P:=okT d.sigs k) (wt:=nT) _ (λG r=>by
     obtain⟨X,V,rfl⟩:=y8f.1 r;obtain⟨Y,Z⟩:=X;have W:=(List.of_mem_zip V).2;obtain⟨B,w,rfl⟩:=y8f.1 W;simp only;split
     ·intro m N A L a;obtain⟨u,K,a⟩:=ak a;obtain⟨c,o,a⟩:=ak a;injection a with a;obtain⟨Q,I,p,q⟩:=cP K;obtain⟨i,D,j,e,n⟩:=(ih B w).1 s g u c (I.trans A) q o;rw[<-a];refine⟨y _ _ _ zD (λb f=>(by cases f)) (λb f=>by rw[List.mem_singleton.1 f];exact i),?_,j,e.trans p,n⟩;rw[z];show m.count+((1+(0+(nT c.1+0)):Nat):Int)<=c.2.count;omega
     ·exact(ih B w).1 s g) b.2 c j n o
    rw[<-a];refine⟨y _ _ _ zD (λB w=>by rw[List.mem_singleton.1 w];exact i) C,?_,E,F.trans (e.trans p),H⟩;rw[z];show m.count+((1+(nE b.1+0+aa nT c.1):Nat):Int)<=c.2.count;omega
   ·injection a with a;rw[<-a];refine⟨y _ _ _ zD (λb f=>(by cases f)) (λb f=>(by cases f)),?_,J,p,q⟩;rw[z];show m.count+((1+(0+0):Nat):Int)<=u.count;omega
  ·rw[jF] at a;obtain⟨u,K,a⟩:=ak a;obtain⟨b,f,a⟩:=ak a;obtain⟨c,o,a⟩:=ak a;injection a with a;obtain⟨Q,I,p,q⟩:=cP K;obtain⟨i,D,j,e,n⟩:=hJ (d:=d) (P:=okE d.sigs) (wt:=nE) _ (λG r=>by
    obtain⟨l,-,rfl⟩:=y8f.1 r;exact wW d s l) u b (I.trans A) q f
   obtain⟨C,O,E,F,H⟩:=M s g b.2 c j n o;rw[<-a];refine⟨y _ _ _ zD i C,?_,E,F.trans (e.trans p),H⟩;rw[z];show m.count+((1+(aa nE b.1+aa nT c.1):Nat):Int)<=c.2.count;omega
theorem wX{d:Dsn}{s:Sc}(c:At d.sigs s)(b:Bool)(l:List S):Wt d (λl=>∀a,a∈l->okT d.sigs b a) (aa nT) (bC b s l):=hJ _ λf e=>by
 obtain⟨a,-,rfl⟩:=y8f.1 e;exact(uu d b a).1 s c
def bl(s:ByteArray):List UInt8:=s.data.toList
theorem dK(a b:ByteArray):bl (a++b)=bl a++bl b:=by simp[bl,ByteArray.data_append]
theorem fY{a b:ByteArray}(h:bl a=bl b):a=b:=by
 cases a;cases b;unfold bl at h;simp only at h;rw[Array.toList_inj.1 h]
def lj(b:UInt8):Bool:=b !=46 && b !=91
def hZ(s:ByteArray):Prop:=s≠⟨#[]⟩/\∀a,a∈bl s->lj a=true
def EndR(b:ByteArray):Prop:=bl b=[]\/∃a t,bl b=a::t/\lj a=false
theorem iX{s:ByteArray}(h:bn s):hZ s:=by
 obtain⟨b,-,d,-⟩:=h;refine⟨λe=>?_,λg c=>?_⟩
 ·rw[e] at b;exact absurd b zD
 ·unfold bl at c;obtain⟨f,hi,rfl⟩:=List.getElem_of_mem c;rw[Array.getElem_toList];have a:=okAt_iff.1 (d f (by simpa using hi));unfold lj;simp only[Bool.and_eq_true,bne_iff_ne];constructor
  ·intro e;rw[e] at a;exact absurd a (by intro h;rcases h with h|⟨-,h⟩<;>revert h<;>decide)
  ·intro e;rw[e] at a;exact absurd a (by intro h;rcases h with h|⟨-,h⟩<;>revert h<;>decide)
theorem kO{p:UInt8->Bool}:∀(t f c d:List UInt8),(∀a,a∈t->p a=true)->(∀a,a∈f->p a=true)->(c=[]\/∃a h,c=a::h/\p a=false)->(d=[]\/∃a h,d=a::h/\p a=false)->t++c=f++d->t=f/\c=d
 |[],[],c,d,_,_,_,_,b=>⟨rfl,b⟩
 |[],a::f,c,d,_,h2,h3,_,b=>by
  rcases h3 with rfl|⟨j,h,rfl,g⟩
  ·cases b
  ·rw[List.nil_append,List.cons_append] at b;injection b with b;rw[b,h2 a (List.mem_cons_self ..)] at g;cases g
 |a::t,[],c,d,h1,_,_,h4,b=>by
  rcases h4 with rfl|⟨j,h,rfl,g⟩
  ·cases b
  ·rw[List.nil_append,List.cons_append] at b;injection b with b;rw[<-b,h1 a (List.mem_cons_self ..)] at g;cases g
 |a::t,j::f,c,d,h1,h2,h3,h4,b=>by
  rw[List.cons_append,List.cons_append] at b;injection b with e b;obtain⟨k,l⟩:=kO t f c d (λa i=>h1 a (bi _ i)) (λa i=>h2 a (bi _ i)) h3 h4 b;exact⟨by rw[e,k],l⟩
def NmT(b:ByteArray)(T:ByteArray->Prop)(n:ByteArray):Prop:=∃t a,T t/\n=b++(t++a)/\EndR a
theorem NmT.mono{b:ByteArray}{T a:ByteArray->Prop}{n:ByteArray}(h:NmT b T n)(k:∀t,T t->a t):NmT b a n:=by
 obtain⟨t,f,c,d,e⟩:=h;exact⟨t,f,k t c,d,e⟩
theorem NmT.apart{d:ByteArray}{T a:ByteArray->Prop}{n:ByteArray}(h:NmT d T n)(k:NmT d a n)(i:∀t,T t->hZ t)(j:∀t,a t->hZ t):∃t,T t/\a t:=by
 obtain⟨t,q,b,rfl,g⟩:=h;obtain⟨p,r,c,l,o⟩:=k;have e:=congrArg bl l;rw[dK,dK,dK,dK] at e;have f:=kO _ _ _ _ (i t b).2 (j p c).2 g o (List.append_cancel_left e);exact⟨t,b,by rw[fY f.1];exact c⟩
def Grow(m c:Mk)(b:ByteArray->Prop):Prop:=∃n,c.d.sigs=m.d.sigs++n/\(∀a,a∈n->(a.kind=3\/a.kind=4)/\b a.name)/\(n.map Sg.name).Nodup
theorem Grow.same{m a:Mk}{b:ByteArray->Prop}(h:a.d.sigs=m.d.sigs):Grow m a b:=⟨[],by rw[h,List.append_nil],λe c=>(by cases c),List.nodup_nil⟩
theorem Grow.mono{m e:Mk}{a N':ByteArray->Prop}(h:Grow m e a)(k:∀n,a n->N' n):Grow m e N':=by
 obtain⟨n,f,c,g⟩:=h;exact⟨n,f,λb d=>⟨(c b d).1,k _ (c b d).2⟩,g⟩
theorem Grow.trans{a b j:Mk}{f N':ByteArray->Prop}(h:Grow a b f)(k:Grow b j N')(q:∀n,f n->¬N' n):Grow a j (λn=>f n\/N' n):=by
 obtain⟨n,o,g,p⟩:=h;obtain⟨z,w,i,y⟩:=k;refine⟨n++z,by rw[w,o,List.append_assoc],λd c=>?_,?_⟩
 ·rcases y8e.1 c with c|c
  ·exact⟨(g d c).1,.inl (g d c).2⟩
  ·exact⟨(i d c).1,.inr (i d c).2⟩
 ·rw[List.map_append];refine List.nodup_append.2 ⟨p,y,λx u A v e=>?_⟩;obtain⟨d,c,rfl⟩:=y8f.1 u;obtain⟨l,r,rfl⟩:=y8f.1 v;exact q _ (g d c).2 (by rw[e];exact(i l r).2)
theorem Grow.pre{a a' b:Mk}{c:ByteArray->Prop}(h:Grow a b c)(k:a.d.sigs=a'.d.sigs):Grow a' b c:=by
 obtain⟨n,e,f⟩:=h;exact⟨n,by rw[e,k],f⟩
theorem Grow.post{a b e:Mk}{c:ByteArray->Prop}(h:Grow a b c)(k:e.d.sigs=b.d.sigs):Grow a e c:=by
 obtain⟨n,f,g⟩:=h;exact⟨n,by rw[k,f],g⟩
def wP(p:Pc):Nat:=aa nT p.l
def wC(a:Ck):Nat:=1+nE a.e
def wD(d:Dsn):Nat:=aa wP d.procs+aa wC d.chks
structure Wf(m:Mk):Prop where
 sg:∀g,g∈m.d.sigs->1<=g.w/\g.w<=64/\1<=g.kind/\g.kind<=4/\(g.kind≠4->g.init=0)
 pr:∀p,p∈m.d.procs->∀t,t∈p.l->okT m.d.sigs p.clk t
 ck:∀c,c∈m.d.chks->okE m.d.sigs c.e
 wt:(wD m.d:Int)<=m.count
 cnt:m.count<=65536
 nsg:m.d.sigs.length<=512
 npr:m.d.procs.length<=1024
theorem Wf.count{m b:Mk}{n:Int}(h:Wf m)(i:0<=n)(e:aW n m=.ok b):Wf b/\(wD b.d:Int)+n<=b.count/\b.d=m.d:=by
 obtain⟨f,a,g,c⟩:=cP e;have:=h.wt;refine⟨⟨by rw[a];exact h.sg,by rw[a];exact h.pr,by rw[a];exact h.ck,by rw[a];omega,c,by rw[a];exact h.nsg,by rw[a];exact h.npr⟩,by rw[a];omega,a⟩
theorem At.more{a n:List Sg}{s:Sc}(h:At a s):At (a++n) s:=λc b ha=>by
 have:=h c b ha;rw[List.length_append];omega
theorem At.grow{m a:Mk}{s:Sc}{b:ByteArray->Prop}(h:At m.d.sigs s)(k:Grow m a b):At a.d.sigs s:=by
 obtain⟨n,c,-⟩:=k;rw[c];exact h.more
theorem mT:EndR ⟨#[]⟩:=.inl rfl
theorem mA(a:ByteArray):a++(⟨#[]⟩:ByteArray)=a:=fY (by rw[dK];exact List.append_nil _)
theorem gq(a:ByteArray):(⟨#[]⟩:ByteArray)++a=a:=fY (by rw[dK];rfl)
theorem Wf.signal{i:ByteArray}{w kind g:Int}{s:Sc}{m:Mk}{a:Sc×Mk}(h:Wf m)(p:At m.d.sigs s)(l:1<=w/\w<=64)(k:1<=kind/\kind<=4)(hi:kind≠4->g=0)(v:cI i w kind g s m=.ok a):
 Wf a.2/\At a.2.d.sigs a.1/\a.1.path=s.path/\a.2.d.sigs=m.d.sigs++[⟨s.path++i,w,kind,g⟩]:=by
 obtain⟨rfl,z,A⟩:=eY v;refine⟨⟨λj r=>?_,λy u t x=>(h.pr y u t x).more _,λo q=>(h.ck o q).more _,h.wt,h.cnt,?_,h.npr⟩,λn b ha=>?_,rfl,rfl⟩
 ·rcases y8e.1 (show j∈m.d.sigs++[_] from r) with f|f
  ·exact h.sg j f
  ·rw[List.mem_singleton.1 f];exact⟨l.1,l.2,k.1,k.2,hi⟩
 ·show(m.d.sigs++[_]).length<=512;rw[List.length_append];simp;omega
 ·show 0<=b/\b<((m.d.sigs++[_]).length:Int);rw[List.length_append];have c:az s.sigs i (m.d.sigs.length:Int) n=some b:=ha;unfold az at c;split at c
  ·injection c with e;simp;omega
  ·have:=p n b c;simp;omega
theorem Wf.process{c:Bool}{l:List DT}{m i:Mk}(h:ca c l m=.ok i)(u:∀a,a∈m.d.sigs->1<=a.w/\a.w<=64/\1<=a.kind/\a.kind<=4/\(a.kind≠4->a.init=0))(r:∀b,b∈m.d.procs->∀t,t∈b.l->okT m.d.sigs b.clk t)(k:∀j,j∈m.d.chks->okE m.d.sigs j.e)(o:∀t,t∈l->okT m.d.sigs c t)
 (v:(wD m.d:Int)+aa nT l<=m.count) (n:m.count<=65536) (p:m.d.sigs.length<=512):Wf i/\i.d.sigs=m.d.sigs:=by
 obtain⟨rfl,x⟩:=fC h;refine⟨⟨u,λb q t g=>?_,k,?_,n,p,?_⟩,rfl⟩
 ·rcases y8e.1 (show b∈m.d.procs++[_] from q) with f|f
  ·exact r b f t g
  ·rw[List.mem_singleton.1 f] at g⊢;exact o t g
 ·show((aa wP (m.d.procs++[⟨c,l⟩])+aa wC m.d.chks:Nat):Int)<=m.count;rw[mm];have:((aa wP m.d.procs+aa wC m.d.chks:Nat):Int)+aa nT l<=m.count:=v;show((aa wP m.d.procs+aa nT l+aa wC m.d.chks:Nat):Int)<=m.count;omega
 ·show(m.d.procs++[_]).length<=1024;rw[List.length_append];simp;omega
theorem Wf.step{c:Bool}{l:List DT}{m m1 b:Mk}(h:Wf m)(a:m1.d=m.d)(f:∀t,t∈l->okT m.d.sigs c t)(i:m.count+(aa nT l:Int)<=m1.count)(e:m1.count<=65536)(g:ca c l m1=.ok b):Wf b/\b.d.sigs=m.d.sigs:=by
 have j:=h.wt;have:=Wf.process g (by rw[a];exact h.sg) (by rw[a];exact h.pr) (by rw[a];exact h.ck) (by rw[a];exact f) (by rw[a];omega) e (by rw[a];exact h.nsg);exact⟨this.1,by rw[this.2,a]⟩
def kY(inst:Itm->Sc->Mk->Rs Mk)(t:Itm):Prop:=∀s m a,At m.d.sigs s->Wf m->inst t s m=.ok a->Wf a/\Grow m a (λn=>∃b,n=s.path++(t.name++(tDot++b)))
def IG(inst:Itm->Sc->Mk->Rs Mk)(t:Itm):Prop:=∀s m a,At m.d.sigs s->Wf m->(wD m.d:Int)+1<=m.count->aF inst t s m=.ok a->Wf a.2/\At a.2.d.sigs a.1/\a.1.path=s.path/\Grow m a.2 (NmT s.path (λx=>x∈tnI t))
theorem lA{t:Itm}(c:MayI t)(h:t.op≠4/\t.op≠5/\t.op≠6/\t.op≠8):bn t.name:=by
 obtain⟨d,-⟩:=MayI_iff.1 c;obtain⟨-,-,b,-⟩:=d;rcases b with⟨-,a⟩|⟨a,-⟩
 ·exact a
 ·exact absurd h a
theorem tnIs_mem{l:List Itm}{s:ByteArray}:s∈ap l↔∃t,t∈l/\s∈tnI t:=by
 induction l with
 |nil=>simp[ap]
 |cons x l ih=>simp[ap,ih]
theorem rd:∀t:Itm,MayI t->∀s,s∈tnI t->hZ s:=by
 intro t;induction t using Itm.ind with
 |h t ih1 ih2=>
  intro e s b;rw[gb] at b;split at b
  ·rename_i f
   rw[List.mem_singleton.1 b];unfold cy at f;exact iX (lA e zO)
  ·split at b
   ·obtain⟨-,-,-,i,g,-⟩:=MayI_iff.1 e;rcases(fM _ _).1 b with a|a
    ·obtain⟨d,c,a⟩:=tnIs_mem.1 a;exact ih1 d c (i d c) s a
    ·obtain⟨d,c,a⟩:=tnIs_mem.1 a;exact ih2 d c (g d c) s a
   ·cases b
theorem ip{l:List Itm}(h:∀t,t∈l->MayI t):∀s,s∈ap l->hZ s:=λs c=>by
 obtain⟨a,d,b⟩:=tnIs_mem.1 c;exact rd a (h a d) s b
theorem igs{inst:Itm->Sc->Mk->Rs Mk}:∀(l:List Itm),(∀t,t∈l->MayI t/\IG inst t)->(ap l).Nodup->∀s m b,At m.d.sigs s->Wf m->aZ inst l s m=.ok b->Wf b.2/\At b.2.d.sigs b.1/\b.1.path=s.path/\Grow m b.2 (NmT s.path (λx=>x∈ap l))
 |[],_,_,s,m,b,hat,hw,a=>by
  rw[aZ] at a;injection a with a;rw[<-a];exact⟨hw,hat,rfl,.same rfl⟩
 |t::l,hl,hn,s,m,b,hat,hw,a=>by
  rw[aZ] at a;obtain⟨C,e,a⟩:=ak a;obtain⟨i,f,a⟩:=ak a;obtain⟨A,w,o⟩:=hw.count zD e;obtain⟨p,r,j,d⟩:=(hl t (cc ..)).2 s C i (by rw[o];exact hat) A w f;obtain⟨D,y,z⟩:=List.nodup_append.1 (show(tnI t++ap l).Nodup from hn);obtain⟨q,u,v,k⟩:=igs l (λh g=>hl h (bi _ g)) y i.1 i.2 b r p a;rw[j] at k;refine⟨q,u,v.trans j,((d.pre (by rw[o])).trans k λn e f=>?_).mono λn a=>?_⟩
  ·obtain⟨x,c,B⟩:=e.apart f (rd t (hl t (cc ..)).1) (ip λh g=>(hl h (bi _ g)).1);exact z x c x B rfl
  ·exact a.elim (λa=>a.mono λx c=>y8e.2 (.inl c)) (λa=>a.mono λx c=>y8e.2 (.inr c))
theorem tm:∀(n a b:Nat),a<=n->Lib.decDigits a=Lib.decDigits b->a=b:=by
 intro n;induction n with
 |zero=>
  intro a b ha c;obtain rfl:a=0:=by omega
  have e:=Lib.decDigits_length 0;rw[c,Lib.decDigits_length] at e;by_cases d:b<10
  ·rw[Lib.decDigits_one zD,Lib.decDigits_one d] at c;injection c with c;have:=congrArg UInt8.toNat c;simp at this;omega
  ·rw[Lib.nDigits_big d,Lib.nDigits_small (show(0:Nat)<10 by decide)] at e;have:=Lib.nDigits_pos (b / 10);omega
 |succ n ih=>
  intro a b ha c;have e:=congrArg List.length c;rw[Lib.decDigits_length,Lib.decDigits_length] at e;by_cases f:a<10
  ·by_cases d:b<10
   ·rw[Lib.decDigits_one f,Lib.decDigits_one d] at c;injection c with c;have:=congrArg UInt8.toNat c;simp at this;omega
   ·rw[Lib.nDigits_small f,Lib.nDigits_big d] at e;have:=Lib.nDigits_pos (b / 10);omega
  ·by_cases d:b<10
   ·rw[Lib.nDigits_small d,Lib.nDigits_big f] at e;have:=Lib.nDigits_pos (a / 10);omega
   ·rw[Lib.decDigits,dif_neg f,show Lib.decDigits b=Lib.decDigits (b / 10)++[UInt8.ofNat (48+b % 10)] by rw[Lib.decDigits,dif_neg d]] at c;obtain⟨h,g⟩:=List.append_inj' c rfl;have:=ih (a / 10) (b / 10) zO h;injection g with g;have:=congrArg UInt8.toNat g;simp at this;omega
theorem rq:∀(n a:Nat),a<=n->∀b,b∈Lib.decDigits a->(b !=93)=true:=by
 intro n;induction n with
 |zero=>
  intro a ha b d;obtain rfl:a=0:=by omega
  rw[Lib.decDigits_one zD] at d;rw[List.mem_singleton.1 d];decide
 |succ n ih=>
  intro a ha b d;have g:∀c,c<10->(UInt8.ofNat (48+c) !=93)=true:=λc h=>by
   have:c=0\/c=1\/c=2\/c=3\/c=4\/c=5\/c=6\/c=7\/c=8\/c=9:=by omega
   rcases this with e|e|e|e|e|e|e|e|e|e<;>subst e<;>decide
  by_cases f:a<10
  ·rw[Lib.decDigits_one f] at d;rw[List.mem_singleton.1 d];exact g a f
  ·rw[Lib.decDigits,dif_neg f] at d;rcases y8e.1 d with d|d
   ·exact ih (a / 10) zO b d
   ·rw[List.mem_singleton.1 d];exact g _ zO
theorem pJ{v:Int}(h:0<=v):bl (cT v)=Lib.decDigits v.toNat:=by
 unfold cT Lib.itoa bl;rw[if_neg zO]
theorem vo{v a:Int}(h:0<=v)(f:0<=a){b c:ByteArray}(e:bl (cT v)++(bl tShut++bl b)=bl (cT a)++(bl tShut++bl c)):v=a:=by
 rw[pJ h,pJ f] at e;have:=kO (p:=λd=>d !=93) _ _ _ _ (rq _ _ (ac _)) (rq _ _ (ac _)) (.inr ⟨93,46::bl b,rfl,rfl⟩) (.inr ⟨93,46::bl c,rfl,rfl⟩) e;have:=tm _ _ _ (ac _) this.1;omega
theorem pL{body:Int->Mk->Rs Mk}{base:ByteArray}{s:Sc}
 (i:∀v m b,At m.d.sigs s->Wf m->0<=v->body v m=.ok b->Wf b/\Grow m b (λn=>∃c,n=base++(cT v++(tShut++c)))):
 ∀(n:Nat) (v:Int) (m b:Mk),0<=v->At m.d.sigs s->Wf m->ff body n v m=.ok b->Wf b/\Grow m b (λx=>∃f c,v<=f/\x=base++(cT f++(tShut++c)))
 |0,v,m,b,_,hat,hw,a=>by injection a with a;rw[<-a];exact⟨hw,.same rfl⟩
 |n+1,v,m,b,hv,hat,hw,a=>by
  rw[ff] at a;obtain⟨y,p,a⟩:=ak a;obtain⟨k,q,a⟩:=ak a;obtain⟨u,z,j⟩:=hw.count zD p;obtain⟨l,g⟩:=i v y k (by rw[j];exact hat) u hv q;have g:=g.pre (a':=m) (by rw[j]);obtain⟨o,d⟩:=pL i n (v+1) k b zO (hat.grow g) l a;refine⟨o,(g.trans d λx h w=>?_).mono λx h=>?_⟩
  ·obtain⟨c,rfl⟩:=h;obtain⟨f,A,r,e⟩:=w;have e:=congrArg bl e;simp only[dK] at e;have:=vo hv zO (List.append_cancel_left e);omega
  ·rcases h with⟨c,rfl⟩|⟨f,c,r,rfl⟩
   ·exact⟨v,c,Int.le_refl _,rfl⟩
   ·exact⟨f,c,zO,rfl⟩
theorem qx{m a:Mk}{s:Sc}{t:Itm}{w kind f:Int}(b:cy t.op)(e:kind=3\/kind=4)(h:a.d.sigs=m.d.sigs++[⟨s.path++t.name,w,kind,f⟩]):Grow m a (NmT s.path (λx=>x∈tnI t)):=
 ⟨_,h,λg c=>by
  rw[List.mem_singleton.1 c];refine⟨e,t.name,⟨#[]⟩,?_,by rw[mA],mT⟩;rw[gb,if_pos b];exact y8d.2 rfl,zS⟩
theorem sS{inst:Itm->Sc->Mk->Rs Mk}(Q:Itm->Prop)(O:∀t b,Q t->b∈t.l->Q b)(a0:∀t b,Q t->b∈t.els->Q b)(a4:∀t,Q t->MayI t->t.op=7->kY inst t):∀(t:Itm) (C:ByteArray->Prop),Q t->MayI t->fm t->inI C t->IG inst t:=by
 intro t;induction t using Itm.ind with
 |h t ih1 ih2=>
  intro C A q a9 R s m o k g a7 a;obtain⟨-,-,-,z,S,-⟩:=MayI_iff.1 q;have M:cy t.op->tnI t=[t.name]:=λa2=>by rw[gb,if_pos a2]
  by_cases U:t.op=1
  ·rw[mC inst t s m U] at a;obtain⟨v,-,a⟩:=ak a;injection a with a;rw[<-a];exact⟨g,k,rfl,.same rfl⟩
  by_cases W:t.op=2
  ·rw[mh inst t s m W] at a;obtain⟨v,B,a⟩:=ak a;obtain⟨i,j,f,d⟩:=Wf.signal g k (gS B) ⟨zD,zD⟩ (λ_=>rfl) a;exact⟨i,j,f,qx (by unfold cy;omega) (.inl rfl) d⟩
  by_cases X:t.op=3
  ·rw[lP inst t s m X] at a;obtain⟨v,B,a⟩:=ak a;obtain⟨L,-,a⟩:=ak a;obtain⟨i,j,f,d⟩:=Wf.signal g k (gS B) ⟨zD,zD⟩ (λe=>absurd rfl e) a;exact⟨i,j,f,qx (by unfold cy;omega) (.inr rfl) d⟩
  by_cases Y:t.op=4
  ·rw[kH inst t s m Y] at a;obtain⟨b,c,a⟩:=ak a;obtain⟨r,w,a⟩:=ak a;injection a with a;rw[<-a];obtain⟨i,j,f,-,e⟩:=sa (d:=m.d) k false _ _ m b rfl g.cnt c;obtain⟨F,p⟩:=g.step f (l:=[b.1]) (λt a8=>by rw[List.mem_singleton.1 a8];exact i) (by show m.count+((nT b.1+0:Nat):Int)<=_;omega) e w;exact⟨F,by show At r.d.sigs s;rw[p];exact k,rfl,.same p⟩
  by_cases Z:t.op=5\/t.op=6
  ·rw[ki inst t s m Z] at a;obtain⟨b,c,a⟩:=ak a;obtain⟨r,w,a⟩:=ak a;injection a with a;rw[<-a];obtain⟨i,j,f,-,e⟩:=wX (d:=m.d) k _ _ m b rfl g.cnt c;obtain⟨F,p⟩:=g.step f i j e w;exact⟨F,by show At r.d.sigs s;rw[p];exact k,rfl,.same p⟩
  by_cases w:t.op=10
  ·rw[mB inst t s m w] at a;obtain⟨b,c,a⟩:=ak a;injection a with a;rw[<-a];obtain⟨i,j,f,-,e⟩:=iY (d:=m.d) k _ m b rfl g.cnt c;refine⟨⟨by show∀p,p∈b.2.d.sigs->_;rw[f];exact g.sg,by show∀K,K∈b.2.d.procs->∀t,t∈K.l->okT b.2.d.sigs K.clk t;rw[f];exact g.pr,λE a1=>?_,?_,e,by show b.2.d.sigs.length<=_;rw[f];exact g.nsg,by show b.2.d.procs.length<=_;rw[f];exact g.npr⟩,by show At b.2.d.sigs s;rw[f];exact k,rfl,.same (by show b.2.d.sigs=_;rw[f])⟩
   ·show okE b.2.d.sigs E.e;rw[f];rcases y8e.1 (show E∈b.2.d.chks++[_] from a1) with q|q
    ·rw[f] at q;exact g.ck E q
    ·rw[List.mem_singleton.1 q];exact i
   ·show((aa wP b.2.d.procs+aa wC (b.2.d.chks++[⟨s.path++t.name,b.1⟩]):Nat):Int)<=b.2.count;rw[f,mm];have G:((aa wP m.d.procs+aa wC m.d.chks:Nat):Int)+1<=m.count:=a7;show((aa wP m.d.procs+(aa wC m.d.chks+(1+nE b.1)):Nat):Int)<=b.2.count;omega
  by_cases G:t.op=7
  ·rw[me inst t s m G] at a;obtain⟨r,u,a⟩:=ak a;injection a with a;rw[<-a];obtain⟨i,j⟩:=a4 t A q G s m r k g u;refine⟨i,k.grow j,rfl,j.mono ?_⟩;rintro n ⟨o,rfl⟩;exact⟨t.name,tDot++o,by rw[M (by unfold cy;omega)];exact y8d.2 rfl,rfl,.inr ⟨46,bl o,by rw[dK];rfl,rfl⟩⟩
  by_cases u:t.op=8
  ·rw[lB inst t s m u] at a;obtain⟨v,-,a⟩:=ak a;obtain⟨y,T⟩:=(jK t).1 a9 u;obtain⟨-,a5,-⟩:=(ji C t).1 R;obtain⟨H,a3⟩:=a5 u;have P:tnI t=cX (ap t.l) (ap t.els):=by rw[gb,if_neg (by unfold cy;omega),if_pos u]
   have one:∀{l:List Itm},bf C l->∀b,b∈l->inI C b:=by
    intro l;induction l with
    |nil=>intro _ b c;cases c
    |cons x l ih=>intro a b c;exact(List.mem_cons.1 c).elim (λe=>e▸a.1) (ih a.2 b)
   split at a
   ·obtain⟨i,j,f,d⟩:=igs t.l (λb c=>⟨z b c,ih1 b c C (O t b A c) (z b c) (tokIs_iff.1 y.1 b c) (one H b c)⟩) y.2 s m o k g a;exact⟨i,j,f,d.mono λn I=>I.mono λx J=>by rw[P];exact(fM _ _).2 (.inl J)⟩
   ·obtain⟨i,j,f,d⟩:=igs t.els (λb c=>⟨S b c,ih2 b c C (a0 t b A c) (S b c) (tokIs_iff.1 T.1 b c) (one a3 b c)⟩) T.2 s m o k g a;exact⟨i,j,f,d.mono λn I=>I.mono λx J=>by rw[P];exact(fM _ _).2 (.inr J)⟩
  by_cases N:t.op=9
  ·rw[mf inst t s m N] at a;obtain⟨b4,b0,a⟩:=ak a;obtain⟨b5,-,a⟩:=ak a;obtain⟨r,V,a⟩:=ak a;injection a with a;rw[<-a];obtain⟨-,-,a6⟩:=(ji C t).1 R;obtain⟨y,-,-,H⟩:=a6 N;have one:∀{D:ByteArray->Prop} {l:List Itm},bf D l->∀b,b∈l->inI D b:=by
    intro D l;induction l with
    |nil=>intro _ b c;cases c
    |cons x l ih=>intro a b c;exact(List.mem_cons.1 c).elim (λe=>e▸a.1) (ih a.2 b)
   obtain⟨i,j⟩:=pL (base:=s.path++(t.name++tOpen)) (s:=s) (λv m b3 k g B a=>by
    obtain⟨b2,b1,a⟩:=ak a;injection a with a;obtain⟨i,j,f,d⟩:=igs t.l (λb c=>⟨z b c,ih1 b c _ (O t b A c) (z b c) (tokIs_iff.1 y.1 b c) (one H b c)⟩) y.2 (s.pass t.name t.of v) m b2 k g b1;rw[<-a];refine⟨i,d.mono ?_⟩;rintro n ⟨x,o,-,rfl,-⟩;refine⟨x++o,fY ?_⟩;show bl (s.path++(t.name++tOpen++cT v++tShut)++(x++o))=_;simp only[dK,List.append_assoc]) _ _ m r (hV b0).1 k g V
   refine⟨i,k.grow j,rfl,j.mono ?_⟩;rintro n ⟨L,o,-,rfl⟩;refine⟨t.name,tOpen++(cT L++(tShut++o)),by rw[M (by unfold cy;omega)];exact y8d.2 rfl,fY (by simp only[dK,List.append_assoc]),.inr ⟨91,bl (cT L++(tShut++o)),by rw[dK];rfl,rfl⟩⟩
  rw[oi zO] at a;injection a with a;rw[<-a];exact⟨g,k,rfl,.same rfl⟩
end
