import Derived.Test.YtlfmlodanoolhaaGreatDoorQ52
set_option linter.all false
set_option maxRecDepth 200000
set_option maxHeartbeats 0
namespace Go.Proofs.YtlfmlodanoolhaaGreatDoor
open Go Go.RowKit Go.Proofs.Tryz
attribute [local go_sem] aW
theorem nq{w:World}{B:Nat}{x:Mdl}{a b c d:Value}(h:RM w B x [a,b,c,d]):a.oneCell'=true/\b.oneCell'=true/\c.oneCell'=true/\d.oneCell'=true:=by
 obtain⟨i,j,k,e,f,g,hi⟩:=h;simp only[List.cons.injEq,and_true] at e;obtain⟨rfl,rfl,rfl,rfl⟩:=e;exact⟨rfl,f.oneCell,g.oneCell,hi.oneCell⟩
theorem te{w:World}{B:Nat}{l:List Bnd}{v:Value}(h:Sl (RB w B) w B 7 l v):∃b e,v=.slice b l.length e/\∀a (f:a<l.length),∃c o d,b=some ⟨c,o,none⟩/\d.oneCell'=true/\Cells w c (o+a*7) [.string l[a].name,.int .i64 l[a].x.op,.string l[a].x.name,.int .i64 l[a].x.n,.int .i64 l[a].x.w,.int .u64 l[a].x.v,d]:=by
 obtain⟨b,e,rfl,-,i⟩:=h;refine⟨b,e,rfl,λa f=>?_⟩;obtain⟨c,o,p,ha,-,-,g,-,m,rfl,k⟩:=i a f;obtain⟨d,rfl,j⟩:=RX_iff.1 k;exact⟨c,o,d,ha,j.oneCell,g⟩
theorem xQ(f:List Mdl)(g:ByteArray)(ps:List (ByteArray×Int)):fI (aY f g ps).1<=70000:=by
 unfold aY;cases he:bN f g ps with
 |error e=>exact(by decide:0<=70000)
 |ok d=>
  obtain⟨c,of,n,h⟩:=qa (λc=>km c) he;obtain⟨b,i,a⟩:=h.wf;have j:d.sigs.length<=512:=a.nsg;have k:d.procs.length<=1024:=a.npr;have l:(wD d:Int)<=b:=a.wt;have m:b<=65536:=a.cnt;show d.sigs.length+d.procs.length+wD d<=70000;omega
theorem xR{f:List Mdl}{a:ByteArray}(c:∀b,b∈((bd f a).getD fh).params->b.x.op=1/\b.x.w=0/\bF b.x.v):aY f a (da ((bd f a).getD fh).params)=aY f a []:=by
 cases hf:bd f a with
 |none=>rfl
 |some of=>
  rw[hf] at c;unfold aY;rw[show((some of).getD fh)=of from rfl] at c⊢;rw[CD hf c]
def dfJ(W:World)(b:ByteArray)(v:Int)(u:Value)(w:World):Prop:=∃a,u=.slice (some ⟨a,0,none⟩) 1 1/\Blk w a 85 [.string b,.int .i64 v]/\Ext W w
def dfE(W:World)(base:Nat)(l:List (ByteArray×Int))(a:ByteArray)(v:Int)(b u:Value)(w:World):Prop:=∃X,Ext W X/\X.grownBy w b.ownBlock/\OwnL RNm base 85 2 (l++[(a,v)]) u w
theorem vT(B:Nat)(f:List Mdl)(b5:Option Addr)(b6:Nat)(s:ByteArray)(w:World)(t:Tabs w)(t1:TabP w)(r6:Sl (RM w B) w B 4 f (.slice b5 f.length b6))(r:B<=w.heap.size)
 (A:aa ar f<=10000000) (t3:∀b4,b4∈f->VM b4):
 Calls Tryz.prog 8 #[.agg #[.slice b5 f.length b6],.string s] w λe q1=>e=.returned (.bool true)/\Ext w q1:=by
 have b9:=Hd r6;have e5:=Hd t;have e6:=Hd t1;have e7:=Hd t3;have e4:=Hd A;have s5:f.length<=10000000:=by have:=aw ar f fX;omega
 have w0:=Hd s5;obtain⟨w9,r7,u,r9⟩:=aI w (.slice b5 f.length b6) 24;have z5:=r7.symm;have f0:=Hd u;have v5:=Hd r9;clear r6 t t1 t3 r7 u r9 s5 A
 go_in
 go_wp2_with fail
 go_at_call 11;refine(so w9 (e5.o.ext f0.o) (TabP.ext e6.o f0.o)).mono ?_;rintro _ D8 ⟨rfl,g4⟩;have c1:=Hd (f0.o.trans g4);have q2:=Hd (v5.o.ext g4);have q:=q2.o.get1;clear g4 z5;go_wp2_with fail
 go_at_call 12;refine(sA B f s D8 _ (b9.o.extRM c1.o r) (ad r c1.o.size) (by have:=w0.o;omega)).mono ?_;rintro _ v0 ⟨A7,A8,A9,B0,rfl,d4,d5⟩;obtain⟨of,d3⟩:∃of,of=(bd f s).getD fh:=⟨_,rfl⟩;rw[<-d3] at d4;have q7:=Hd d3;have e8:=Hd (show∀c,c∈of.params->0<=c.x.v by
  rw[d3];intro c j;cases hf:bd f s with
  |none=>rw[hf] at j;exact absurd (show c∈([]:List Bnd) from j) List.not_mem_nil
  |some b4=>
   rw[hf] at j;exact(VX_iff.1 ((e7.o b4 (fZ hf).1).2.1 c j).2).1)
 generalize (bd f s).isSome=bs;obtain⟨F4,F5,F6,F7⟩:=nq d4;obtain⟨E3,Wf,z7,⟨y5,r3,r4,c8⟩,⟨z0,z1,z2,z3⟩,z8,s1,d6,-⟩:=jH v0 A7 A8 A9 B0;have f1:=Hd (c1.o.trans (d5.trans d6));have w4:=Hd (d4.keep (λt5 s8=>d6.cell (by have:=c1.o.size;have:=d5.size;omega)) (ac _));have q4:=Hd (q2.o.ext (d5.trans d6));have v9:=Hd s1;clear d4 d5 s1 d6 q d3;have q:=q4.o.get1;go_wp2_with fail
 go_at_call 13;refine(qM B f Wf _ (b9.o.extRM f1.o r) (ad r f1.o.size) (by have:=e4.o;omega)).mono ?_;rintro _ m ⟨rfl,b2⟩;have V:=Hd (f1.o.trans b2);obtain⟨t8,t9,G0,s2,s9,-,-⟩:=w4.o;simp only[List.cons.injEq,and_true] at s2;obtain⟨rfl,rfl,rfl,rfl⟩:=s2;obtain⟨F9,C0,rfl,t0⟩:=te s9;have e3:=Hd t0;have v6:=Hd (q4.o.ext b2);have e0:=Hd (v9.o.ext b2);have x2:=Hd b2;clear t0 s9 q z7 y5 r3 r4 c8 z0 z1 z2 z3 z8 b2;obtain⟨K,Q,L,M⟩:=e0.o.get4;by_cases f9:iI (aa ar f) (ai bH f)
 case neg=>
  rw[yes_no.2 f9];go_wp2_with fail
  go_ret;exact⟨rfl,V.o⟩
 rw[yes_iff.2 f9];clear f9;by_cases z4:(20:Int)<(of.params.length:Int)
 ·go_wp2_with fail
  go_ret;exact⟨rfl,V.o⟩
 have E9:decide ((20:Int)<(of.params.length:Int))=false:=decide_eq_false z4;have E6:¬20<of.params.length:=by omega
 obtain⟨c0,d2⟩:∃c0,c0=m.alloc (.cells #[] 85):=⟨_,rfl⟩;have E7:=d2.symm;have w8:=Hd (show OwnL RNm m.heap.size 85 2 (da (of.params.take 0)) (.slice (some ⟨m.heap.size,0,none⟩) 0 0) c0 by rw[d2];exact OwnL.new m 85);have v2:=Hd (show Ext m c0 by rw[d2];exact aD _ _);clear d2;go_wp2_with fail
 go_loopw [8,9] (λD5 g6 wr=>∃h:Nat,h<=of.params.length/\g6=.int .i64 h/\Ext m wr/\OwnL RNm m.heap.size 85 2 (da (of.params.take h)) D5 wr/\∀c,c∈of.params.take h->c.x.op=1/\c.x.w=0/\bF c.x.v) (λ_ g6 _=>of.params.length - (intOf g6).toNat)
 case atStart=>exact⟨0,aA _,rfl,v2.o,w8.o,λc j=>by simp at j⟩
 case round=>
  obtain⟨h,s4,rfl,i,P,a7⟩:=hrel;have E1:=Hd i;have a0:=Hd P;have v3:=Hd a7;clear K Q L M;obtain⟨K,Q,L,M⟩:=(e0.o.ext i).get4;by_cases a9:h<of.params.length
  ·obtain⟨c,o,d8,rfl,F8,f5⟩:=e3.o h a9;obtain⟨p,Z⟩:∃p,p=of.params[h]:=⟨_,rfl⟩;obtain⟨op,g2⟩:∃U,U=p.x.op:=⟨_,rfl⟩;obtain⟨d9,g3⟩:∃U,U=p.x.w:=⟨_,rfl⟩;obtain⟨b,b1⟩:∃U,U=p.x.v:=⟨_,rfl⟩;obtain⟨y,g1⟩:∃U,U=p.name:=⟨_,rfl⟩;rw[<-Z,<-g2,<-g3,<-b1,<-g1] at f5;have A4:0<=b:=by rw[b1,Z];exact e8.o _ (am a9)
   have A6:p∈of.params:=by rw[Z];exact am a9
   have w5:=Hd (show da (of.params.take h)++[(y,b)]=da (of.params.take (h+1)) by
    rw[List.take_succ_eq_append_getElem a9,<-Z,g1,b1];unfold da;rw[List.map_append];rfl)
   have v4:=Hd (show op=1->d9=0->b<=2147483647->∀c,c∈of.params.take (h+1)->c.x.op=1/\c.x.w=0/\bF c.x.v from λc9 d0 d1 c j=>by
    rw[List.take_succ_eq_append_getElem a9,<-Z] at j;rcases y9b.1 j with j|j
    ·exact v3.o c j
    ·rw[List.mem_singleton] at j;rw[j];exact⟨by rw[<-g2];exact c9,by rw[<-g3];exact d0,by rw[<-b1];exact⟨A4,d1⟩⟩)
   have q5:=Hd (f5.ext x2.o);obtain⟨x8,x9,y0,y1,y2,y3,y4⟩:=(q5.o.ext i).get7;obtain⟨r1,H,a6,⟨C1,C2,C4,C5,C6,C7⟩,⟨a2,a3,a4,y7,y8,y9⟩,z6,f7,g5,-⟩:=varX wr (.int .i64 op) (.string p.x.name) (.int .i64 p.x.n) (.int .i64 d9) (.int .u64 b) d8;have O:=Hd f7;have J:=Hd (i.trans g5);have w7:=Hd g5;obtain⟨d7,p6,p7,p8,p9,q0⟩:=f7.get6;clear f5 i P a7 f7 g5 Z g2 g3 b1 g1 A6 e8 e3;by_cases s6:op=1
   case neg=>
    have r3:(op==1)=false:=beq_eq_false_iff_ne.2 s6;go_wp2_with fail
    go_ret;exact⟨rfl,V.o.trans J.o⟩
   subst s6;by_cases s7:d9=0
   case neg=>
    have r4:(d9==0)=false:=beq_eq_false_iff_ne.2 s7;go_wp2_with fail
    go_ret;exact⟨rfl,V.o.trans J.o⟩
   subst s7;by_cases A2:b<=2147483647
   case neg=>
    have c8:(2147483647:Int)<b:=by omega
    go_wp2_with fail
    go_ret;exact⟨rfl,V.o.trans J.o⟩
   have c8:¬(2147483647:Int)<b:=by omega
   have y6:decide ((2147483647:Int)<b)=false:=decide_eq_false c8;have F0:IntKind.i64.wrap b=b:=by simp(disch:=omega) only[IntWalk.i64_in]
   go_wp2_with fail
   clear a6 C1 C2 C4 C5 C6 C7 a2 a3 a4 y7 y8 y9 z6 d7 p6 p7 p8 p9 q0 x8 x9 y0 y1 y2 y3 y4 K Q L M y6;refine eF 13 (eqS [11,12] [u8,.pointer (some ⟨v0.heap.size,1,none⟩),.slice (some ⟨c,o,none⟩) of.params.length C0,.int .i64 h,.pointer (some ⟨c,o+h*7,none⟩),.pointer (some ⟨c,o+h*7,none⟩),.string y,.pointer (some ⟨wr.heap.size,4,none⟩),.int .u64 b,.int .i64 b,.agg #[.string y,.int .i64 b],undef,undef]) (chJ [(11,λE w=>Ext H w),(12,λE w=>dfJ H y b (E 73) w)] (λE w=>dfE H m.heap.size (da (of.params.take h)) y b u8 (E 74) w)) (λ_ _=>False) zK (λ_ _ _ _ l=>l) zK zK ?_ (gv _ ((af _).drew)) ?_ (λN E4 w g s8=>s8.elim) ?_
   ·simp[GuardsMet]
   ·refine⟨?_,?_,?_,?_,?_,?_,?_,?_,?_,?_,?_,?_,?_,trivial⟩;rotate_left 11
    ·refine StepI.chain 0 rfl zK zK ?_;intro N D A k g G;replace A:=Hd A;have B5:=ab g 10 72 zK rfl;simp[eqS] at B5;clear g G;replace k:Ext H D:=k;obtain⟨r0,r8,b3,s0⟩:=cU D (.string y) (.int .i64 b) 85;have E8:=r8.symm;have w2:=Hd (show dfJ H y b (.slice (some ⟨D.heap.size,0,none⟩) 1 1) r0 from⟨_,rfl,s0,k.trans b3⟩);clear r8 b3 s0 k;go_simp;refine⟨_,rfl,trivial,?_⟩;show dfJ H y b (tau (N.put (some 73) (.slice (some ⟨D.heap.size,0,none⟩) 1 1)) 73) r0;rw[dD (by rw[A.o];exact of_decide_eq_true zK)];exact w2.o
    ·refine StepI.chain 1 rfl zK zK ?_;intro N D A k g G;replace A:=Hd A;have d7:=ab g 0 62 zK rfl;simp[eqS] at d7;clear g G;obtain⟨F,A3,j,i⟩:=k;have t6:N.tmps.getD 73 undef=.slice (some ⟨F,0,none⟩) 1 1:=A3;simp only[Array.getD_eq_getD_getElem?] at t6;refine nz (R:=RNm) (.tmp 62) (.tmp 73) 80 rfl m.heap.size 85 _ 2 24 sa underlying80 rfl zD zD (da (of.params.take h)) (y,b) u8 (by simpa [Act.eval] using d7) ((a0.o.later w7.o).later i) F 1 _ (by simpa [Act.eval] using t6) j rfl (λd8 t2=>by
      simp only[List.mem_cons,List.not_mem_nil,or_false] at t2;rcases t2 with rfl|rfl<;>rfl) rfl (by unfold da;rw[List.length_map,List.length_take];omega) (ad J.o.size i.size) ?_
     intro t7 q1 P Y _;refine⟨t7,rfl,trivial,?_⟩;show dfE H m.heap.size (da (of.params.take h)) y b u8 (tau (N.put (some 74) t7) 74) q1;rw[dD (by rw[A.o];exact of_decide_eq_true zK)];exact⟨D,i,Y,P⟩
    all_goals
     refine StepI.plain (S:=[11,12]) (T:=[73,74]) (I:=λb7=>Ext m b7/\Blk b7 wr.heap.size 40 [.int .i64 1,.string p.x.name,.int .i64 p.x.n,.int .i64 0,.int .u64 b,d8]) (fR (T:=[73,74]) (λE v1 w t k=>?_) _ ⟨λE v1 w t k=>?_,λE v1 w t k=>?_,trivial⟩) (λE2 E w l=>gF (I:=λb7=>Ext m b7/\Blk b7 wr.heap.size 40 [.int .i64 1,.string p.x.name,.int .i64 p.x.n,.int .i64 0,.int .u64 b,d8]) l (λ_ _ l=>by obtain⟨X,i,Y,-⟩:=l;exact⟨(J.o.trans i).grown Y (λF g0=>(a0.o.lt F g0).1),ox (O.o.ext i) Y (λF g0=>by have:=(a0.o.lt F g0).2;omega)⟩) ⟨λ_ _ l=>⟨J.o.trans l,O.o.ext l⟩,λ_ _ l=>by obtain⟨F,-,-,i⟩:=l;exact⟨J.o.trans i,O.o.ext i⟩,trivial⟩) zD zD ?_
     ·try simp only[t 73 zD,t 74 zD]
      exact k
     ·try simp only[t 73 zD,t 74 zD]
      exact k
     ·try simp only[t 73 zD,t 74 zD]
      exact k
     intro N D a5 g G;try (have p6:=ab g 1 63 zD rfl;simp[eqS] at p6)
     try (have p7:=ab g 2 64 zD rfl;simp[eqS] at p7)
     try (have p8:=ab g 3 65 zD rfl;simp[eqS] at p8)
     try (have p9:=ab g 4 66 zD rfl;simp[eqS] at p9)
     try (have q0:=ab g 5 67 zD rfl;simp[eqS] at q0)
     try (have B7:=ab g 7 69 zD rfl;simp[eqS] at B7)
     try (have B8:=ab g 8 70 zD rfl;simp[eqS] at B8)
     try (have B6:=ab g 6 68 zD rfl;simp[eqS] at B6)
     try (have B9:=ab g 9 71 zD rfl;simp[eqS] at B9)
     have C9:=ag G 8 zK;simp at C9;have C8:=ag G 6 zK;simp at C8;have D0:=ag G 9 zK;simp at D0;have C3:=ag G 10 zK;simp at C3;clear g G;obtain⟨a5,r⟩:=a5;have F1:=(e0.o.ext a5).get4.2.1;have F2:=(q5.o.ext a5).get7.1;have F3:=r.get6.2.2.2.2.1;clear a5 r;exact zB
   ·intro N D s4;obtain⟨f,rfl,z9,a,k⟩:=s4.fin (n:=107) rfl;replace k:(λE w=>dfE H m.heap.size (da (of.params.take h)) y b u8 (E 74) w) f D:=gn _ rfl k;have K:=a 0 zK;have Q:=a 1 zK;have L:=a 2 zK;have M:=a 3 zK;have k4:=a 4 zK;have l5:=a 5 zK;have m6:=a 6 zK;have m9:=a 7 zK;have o5:=a 9 zK;have g7:=a 10 zK;have h5:=a 11 zK;have h6:=a 12 zK;have h7:=a 13 zK;have h8:=a 14 zK;have h9:=a 15 zK;have i0:=a 16 zK;have i1:=a 17 zK;have i2:=a 18 zK;have i3:=a 19 zK;have i4:=a 20 zK;have i5:=a 21 zK;have i6:=a 22 zK;have i7:=a 23 zK;have i8:=a 24 zK;have i9:=a 25 zK;have j0:=a 26 zK;have j1:=a 27 zK;have j2:=a 28 zK;have j3:=a 29 zK;have j4:=a 30 zK;have j5:=a 31 zK;have j6:=a 32 zK;have j7:=a 33 zK;have j8:=a 34 zK;have j9:=a 35 zK;have k0:=a 36 zK;have k1:=a 37 zK;have k2:=a 38 zK;have k3:=a 39 zK;have k5:=a 40 zK;have k6:=a 41 zK;have k7:=a 42 zK;have k8:=a 43 zK;have k9:=a 44 zK;have l0:=a 45 zK;have l1:=a 46 zK;have l2:=a 47 zK;have l3:=a 48 zK;have l4:=a 49 zK;have l6:=a 50 zK;have l7:=a 51 zK;have l8:=a 52 zK;have l9:=a 53 zK;have m0:=a 54 zK;have m1:=a 55 zK;have m2:=a 56 zK;have m3:=a 57 zK;have m4:=a 58 zK;have m5:=a 59 zK;have m7:=a 60 zK;have m8:=a 61 zK;have n0:=a 75 zK;have n1:=a 76 zK;have n2:=a 77 zK;have n3:=a 78 zK;have n4:=a 79 zK;have n5:=a 80 zK;have n6:=a 81 zK;have n7:=a 82 zK;have n8:=a 83 zK;have n9:=a 84 zK;have o0:=a 85 zK;have o1:=a 86 zK;have o2:=a 87 zK;have o3:=a 88 zK;have o4:=a 89 zK;have o6:=a 90 zK;have o7:=a 91 zK;have o8:=a 92 zK;have o9:=a 93 zK;have p0:=a 94 zK;have p1:=a 95 zK;have p2:=a 96 zK;have p3:=a 97 zK;have p4:=a 98 zK;have p5:=a 99 zK;have g8:=a 100 zK;have g9:=a 101 zK;have h0:=a 102 zK;have h1:=a 103 zK;have h2:=a 104 zK;have h3:=a 105 zK;have h4:=a 106 zK;clear z9 a;obtain⟨X,c9,d0,d1⟩:=k;have w6:=Hd ((J.o.trans c9).grown d0 (λF Y=>(a0.o.lt F Y).1));have w1:=Hd (show OwnL RNm m.heap.size 85 2 (da (of.params.take (h+1))) (f 74) D by rw[<-w5.o];exact d1);clear c9 d0 d1;simp at K Q L M k4 l5 m6 m9 o5 g7 h5 h6 h7 h8 h9 i0 i1 i2 i3 i4 i5 i6 i7 i8 i9 j0 j1 j2 j3 j4 j5 j6 j7 j8 j9 k0 k1 k2 k3 k5 k6 k7 k8 k9 l0 l1 l2 l3 l4 l6 l7 l8 l9 m0 m1 m2 m3 m4 m5 m7 m8 n0 n1 n2 n3 n4 n5 n6 n7 n8 n9 o0 o1 o2 o3 o4 o6 o7 o8 o9 p0 p1 p2 p3 p4 p5 g8 g9 h0 h1 h2 h3 h4;simp only[List.drop_succ_cons,List.drop_zero];simp[List.range,List.range.loop,K,Q,L,M,k4,l5,m6,m9,o5,g7,h5,h6,h7,h8,h9,i0,i1,i2,i3,i4,i5,i6,i7,i8,i9,j0,j1,j2,j3,j4,j5,j6,j7,j8,j9,k0,k1,k2,k3,k5,k6,k7,k8,k9,l0,l1,l2,l3,l4,l6,l7,l8,l9,m0,m1,m2,m3,m4,m5,m7,m8,n0,n1,n2,n3,n4,n5,n6,n7,n8,n9,o0,o1,o2,o3,o4,o6,o7,o8,o9,p0,p1,p2,p3,p4,p5,g8,g9,h0,h1,h2,h3,h4];clear K Q L M k4 l5 m6 m9 o5 g7 h5 h6 h7 h8 h9 i0 i1 i2 i3 i4 i5 i6 i7 i8 i9 j0 j1 j2 j3 j4 j5 j6 j7 j8 j9 k0 k1 k2 k3 k5 k6 k7 k8 k9 l0 l1 l2 l3 l4 l6 l7 l8 l9 m0 m1 m2 m3 m4 m5 m7 m8 n0 n1 n2 n3 n4 n5 n6 n7 n8 n9 o0 o1 o2 o3 o4 o6 o7 o8 o9 p0 p1 p2 p3 p4 p5 g8 g9 h0 h1 h2 h3 h4;go_wp2_with fail
    go_roundw;case rel=>
     have A0:=v4.o;exact⟨h+1,zO,zN,w6.o,w1.o,A0 (by first|rfl|trivial) (by first|rfl|trivial) A2⟩
    case measure=>simp[intOf];omega
  ·obtain rfl:h=of.params.length:=by omega
   rw[List.take_length] at P a7;have s3:aY f s (da of.params)=aY f s []:=by rw[q7.o];exact xR (by rw[<-q7.o];exact a7)
   obtain⟨D6,D7,rfl⟩:=P.form;have A1:(da of.params).length<=20:=by unfold da;rw[List.length_map];omega
   obtain⟨d,g⟩:∃d,d=(aY f s []).1:=⟨_,rfl⟩;obtain⟨r5,f8⟩:∃r5,r5=(aY f s []).2:=⟨_,rfl⟩;have e2:=Hd (show fI d<=70000 by rw[g];exact xQ f s []);have z:=Hd (V.o.trans i);have q3:=Hd (v6.o.ext i);have q:=q3.o.get1;have b8:=kb B f b5 b6 s [] none 0 wr (e5.o.ext z.o) (TabP.ext e6.o z.o) (b9.o.extRM z.o r) bS (ad r z.o.size) e4.o e7.o zS;rw[<-g,<-f8] at b8
   have q6:=Hd (λ(e9:World) (W:Ext wr e9)=>kb e9.heap.size f b5 b6 s (da of.params) D6 D7 e9 (e5.o.ext (z.o.trans W)) (TabP.ext e6.o (z.o.trans W))
    (Sl.keep (b9.o.extRM (z.o.trans W) r) (λt5 _=>Eq.refl _) (ad r (z.o.trans W).size) (λb4 _ E5 l=>l.keep (λt5 _=>Eq.refl _) (ad r (z.o.trans W).size))) ((a0.o.later W).sl zD|>λl=>by rw[List.take_length] at l;exact l) (ac _) e4.o e7.o zO)
   rw[s3,<-g,<-f8] at q6;have b8:=Hd b8;clear i P a7 s3 g f8 K L M e3 e8 A1;go_wp2_with fail
   go_at_call 15;refine b8.o.mono ?_;rintro _ t8 ⟨D1,D3,B1,B3,x4,x6,rfl,b0,u⟩;obtain⟨r1,x0,a6,⟨f2,f3,f4⟩,⟨a2,a3,a4⟩,f6,a8,C⟩:=ge t8 (.slice D1 d.sigs.length D3) (.slice B1 d.procs.length B3) (.slice x4 d.chks.length x6);have r2:=Hd (u.trans C);have w3:=Hd (b0.ext C);have v7:=Hd (q3.o.ext (u.trans C));have v8:=Hd a8;clear b0 u C a8 q;have q:=v7.o.get1;go_wp2_with fail
   go_at_call 15;refine(q6.o x0 r2.o).mono ?_;rintro _ t9 ⟨D2,D4,B2,B4,x5,x7,rfl,b0,u⟩;clear a6 f2 f3 f4 a2 a3 a4 f6;obtain⟨r1,x1,a6,⟨f2,f3,f4⟩,⟨a2,a3,a4⟩,f6,a8,C⟩:=ge t9 (.slice D2 d.sigs.length D4) (.slice B2 d.procs.length B4) (.slice x5 d.chks.length x7);have x3:=Hd (z.o.trans (r2.o.trans (u.trans C)));have q8:=Hd (b0.ext C);have q9:=Hd (w3.o.ext (u.trans C));have O:=Hd (v8.o.ext (u.trans C));have e1:=Hd a8;clear b0 u C a8 q;obtain⟨c3,c4,c5⟩:=O.o.get3;obtain⟨q,c6,c7⟩:=e1.o.get3;go_wp2_with fail
   go_at_call 17;refine(sx d x1 _ _ _ q9.o e2.o).mono ?_;rintro _ D9 ⟨rfl,b3⟩;have c2:=Hd b3;clear a6 f2 f3 f4 a2 a3 a4 f6 c3 c4 c5 q c6 c7 b3;obtain⟨c3,c4,c5⟩:=(O.o.ext c2.o).get3;obtain⟨q,c6,c7⟩:=(e1.o.ext c2.o).get3;go_wp2_with fail
   go_at_call 17;refine(sx d D9 _ _ _ (q8.o.ext c2.o) e2.o).mono ?_;rintro _ E0 ⟨rfl,t4⟩;have a1:=Hd (c2.o.trans t4);clear c3 c4 c5 q c6 c7 t4;obtain⟨c3,c4,c5⟩:=(O.o.ext a1.o).get3;obtain⟨q,c6,c7⟩:=(e1.o.ext a1.o).get3;go_wp2_with fail
   go_at_call 28;refine(yZ d E0 _ _ _ _ _ _ (q9.o.ext a1.o) (q8.o.ext a1.o) (by have:=e2.o;omega)).mono ?_;rintro _ G1 ⟨rfl,A5⟩;go_wp2_with fail
   go_ret;exact⟨rfl,x3.o.trans (a1.o.trans A5)⟩
theorem vW(B:Nat)(f:List Mdl)(v:Value)(g:ByteArray)(w:World)(i:Tabs w)(k:TabP w)(c:Sl (RM w B) w B 4 f v)(h:B<=w.heap.size)
 (j:aa ar f<=10000000) (l:∀d,d∈f->VM d):
 Calls Tryz.prog 8 #[.agg #[v],.string g] w λe o=>e=.returned (.bool true)/\Ext w o:=by
 obtain⟨m,n,rfl⟩:∃a b,v=.slice a f.length b:=by obtain⟨a,b,rfl,-⟩:=c;exact⟨a,b,rfl⟩
 exact vT B f m n g w i k c h j l
