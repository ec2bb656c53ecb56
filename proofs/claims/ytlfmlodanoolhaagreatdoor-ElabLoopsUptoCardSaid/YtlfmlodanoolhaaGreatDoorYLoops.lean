import Derived.Test.YtlfmlodanoolhaaGreatDoorCards
import Derived.Test.YtlfmlodanoolhaaGreatDoorTie
import Derived.Test.YtlfmlodanoolhaaGreatDoorY52
set_option linter.all false
set_option maxRecDepth 200000
set_option maxHeartbeats 32000000
namespace Go.Proofs.YtlfmlodanoolhaaGreatDoor
open Go Go.RowKit Go.Proofs.Tryz
attribute [local go_sem] bc
def txL(v:Int):ByteArray:=(⟨#[108,91]⟩:ByteArray)++bn v++(⟨#[93,46,119]⟩:ByteArray)
theorem qc(v:Int):nmL v=txL v:=by
 refine gN ?_;unfold nmL txL;simp only[fy];show []++(([108]++[91])++bl (bn v)++[93,46])++[119]=[108,91]++bl (bn v)++[93,46,119];simp
theorem ry{w:World}{B f i d g h:Nat}{a b:Int}(j:Blk w f 40 (cZ 20))(n:Blk w i 40 (cNm tW++cNm tIi))(k:Blk w d 37 ([.int .i64 2,.string tW,.string ⟨#[]⟩,.slice (some ⟨f,0,none⟩) 1 1,.slice none 0 0,.slice none 0 0,.slice none 0 0,.slice none 0 0,.slice none 0 0]++cIa (.slice (some ⟨i,0,none⟩) 2 2)))
 (m:Blk w g 40 (cZ a++cZ b)) (l:Blk w h 37 [.int .i64 9,.string tLl,.string tIi,.slice (some ⟨g,0,none⟩) 2 2,.slice none 0 0,.slice (some ⟨d,0,none⟩) 2 2,.slice none 0 0,.slice none 0 0,.slice none 0 0]) (c:w.heap.size<=B):
 RM w B (mLp a b) [.string tM,.slice none 0 0,.slice none 0 0,.slice (some ⟨h,0,none⟩) 1 1]:=by
 have o:∀s,RX w B (xNm s) (cNm s):=λs=>RX_iff.2 ⟨_,rfl,aU⟩
 have e:∀p,RX w B (xZ p) (cZ p):=λs=>RX_iff.2 ⟨_,rfl,aU⟩
 have q:RI w B iWw [.int .i64 2,.string tW,.string ⟨#[]⟩,.slice (some ⟨f,0,none⟩) 1 1,.slice none 0 0,.slice none 0 0,.slice none 0 0,.slice none 0 0,.slice none 0 0]:=RI_iff.2 ⟨_,_,_,_,_,_,rfl,Sl.one (aI j.lt c) rfl j.cells zV (e 20),aU,aU,aU,aU,aU⟩;have r:RI w B iAw (cIa (.slice (some ⟨i,0,none⟩) 2 2)):=RI_iff.2 ⟨_,_,_,_,_,_,rfl,Sl.twin (aI n.lt c) rfl rfl n.cells zV (o tW) (o tIi),aU,aU,aU,aU,aU⟩;have t:RI w B (iFr a b) [.int .i64 9,.string tLl,.string tIi,.slice (some ⟨g,0,none⟩) 2 2,.slice none 0 0,.slice (some ⟨d,0,none⟩) 2 2,.slice none 0 0,.slice none 0 0,.slice none 0 0]:=RI_iff.2 ⟨_,_,_,_,_,_,rfl,Sl.twin (aI m.lt c) rfl rfl m.cells zV (e a) (e b),aU,Sl.twin (aI k.lt c) rfl rfl k.cells zV q r,aU,aU,aU⟩;exact⟨_,_,_,rfl,aU,aU,Sl.one (aI l.lt c) rfl l.cells zV t⟩
theorem wX{a:Int}{c:Nat}(ha:0<=a)(q:a<=100000)(r:c<=19)(B:Nat)(d:Option Addr)(f:Nat)(w:World)(p:Tabs w)(s:TabP w)(o:Sl (RM w B) w B 4 [mLp a (a+c)] (.slice d 1 f))(n:B<=w.heap.size):
 Calls Tryz.prog 15 #[.agg #[.slice d 1 f],.string tM,.slice none 0 0] w λe m=>∃k l i j g h,e=.returned (.tuple #[.agg #[.slice k c l,.slice i c j,.slice g 0 h],.int .i64 0])/\
  DsnR m ⟨dw c a,dv c 0 a,[]⟩ (.slice k c l) (.slice i c j) (.slice g 0 h)/\Ext w m:=by
 have b:=pQ B [mLp a (a+c)] d f tM [] none 0 w p s o aU n (by rw[pu];decide) (qh ⟨ha,zO⟩ ⟨zO,zO⟩) zD;rw[uT ha q r] at b;simp only[fS,fR] at b;exact b
theorem rc(h M:Nat)(D2:h<=65535)(Z:M<=255)(w:World)(m1:Tabs w)(o3:TabP w):
 Calls Tryz.prog 4 #[.int .u16 h,.int .u8 M] w λe p9=>e=.returned (.bool true)/\Ext w p9:=by
 have l5:=Hd m1;have l6:=Hd o3;obtain⟨i,n5⟩:∃i,i=M % 20:=⟨_,rfl⟩;have D3:(M:Int) % 20=(i:Int):=by omega
 have t8:i<=19:=by omega
 have B5:=Hd n5;clear m1 o3 n5
 go_in
 go_wp2_with fail
 go_at_call 14;refine(gu 20 zD zD w).mono ?_;rintro _ N ⟨rfl,o6⟩;obtain⟨q6,m5,o7,m9⟩:=aW N (.int .i64 1) (.string ⟨#[]⟩) (.int .i64 0) (.int .i64 0) (.int .u64 20) (.slice none 0 0) 40;have s9:=m5.symm;have q9:=Hd (o6.trans o7);have l0:=Hd m9;clear o6 m5 o7 m9;go_wp2_with fail
 go_at_call 20;refine(fD tW q6).mono ?_;rintro _ B1 ⟨rfl,a1⟩;clear s9;go_wp2_with fail
 go_at_call 20;refine(fD tIi B1).mono ?_;rintro _ s ⟨rfl,a2⟩;obtain⟨m,C⟩:∃m,m=s.alloc (.cells #[.int .i64 2,.string tW,.int .i64 0,.int .i64 0,.int .u64 0,.slice none 0 0,.int .i64 2,.string tIi,.int .i64 0,.int .i64 0,.int .u64 0,.slice none 0 0] 40):=⟨_,rfl⟩;have t0:=C.symm;have n0:Blk m s.heap.size 40 (cNm tW++cNm tIi):=by rw[C];exact ar s _ (cNm tW++cNm tIi)
 have a3:Ext s m:=by rw[C];exact ax _ _
 obtain⟨u,D⟩:∃u,u=m.alloc (.cells #[.int .i64 2,.string ⟨#[119]⟩,.string ⟨#[]⟩,.slice (some ⟨N.heap.size,0,none⟩) 1 1,.slice none 0 0,.slice none 0 0,.slice none 0 0,.slice none 0 0,.slice none 0 0,.int .i64 4,.string ⟨#[]⟩,.string ⟨#[]⟩,.slice (some ⟨s.heap.size,0,none⟩) 2 2,.slice none 0 0,.slice none 0 0,.slice none 0 0,.slice none 0 0,.slice none 0 0] 37):=⟨_,rfl⟩;have t1:=D.symm;have n1:Blk u m.heap.size 37 ([.int .i64 2,.string tW,.string ⟨#[]⟩,.slice (some ⟨N.heap.size,0,none⟩) 1 1,.slice none 0 0,.slice none 0 0,.slice none 0 0,.slice none 0 0,.slice none 0 0]++cIa (.slice (some ⟨s.heap.size,0,none⟩) 2 2)):=by rw[D];exact ar m _ ([.int .i64 2,.string tW,.string ⟨#[]⟩,.slice (some ⟨N.heap.size,0,none⟩) 1 1,.slice none 0 0,.slice none 0 0,.slice none 0 0,.slice none 0 0,.slice none 0 0]++cIa (.slice (some ⟨s.heap.size,0,none⟩) 2 2))
 have I:Ext m u:=by rw[D];exact ax _ _
 have r0:=Hd (q9.o.trans (a1.trans (a2.trans (a3.trans I))));have l1:=Hd (l0.o.ext (a1.trans (a2.trans (a3.trans I))));have l2:=Hd (n0.ext I);have l3:=Hd n1;clear a1 a2 C n0 a3 D n1 I;go_wp2_with fail
 go_at_call 14;refine(gu h zO zO u).mono ?_;rintro _ B2 ⟨rfl,o8⟩;clear t0 t1;go_wp2_with fail
 go_at_call 14;try simp(disch:=omega) only[IntWalk.i64_in]
 refine(gu ((h:Int)+i) zO zO B2).mono ?_;rintro _ t ⟨rfl,o9⟩;obtain⟨p,E⟩:∃p,p=t.alloc (.cells #[.int .i64 1,.string ⟨#[]⟩,.int .i64 0,.int .i64 0,.int .u64 h,.slice none 0 0,.int .i64 1,.string ⟨#[]⟩,.int .i64 0,.int .i64 0,.int .u64 ((h:Int)+i),.slice none 0 0] 40):=⟨_,rfl⟩;have t2:=E.symm;have n2:Blk p t.heap.size 40 (cZ h++cZ ((h:Int)+i)):=by rw[E];exact ar t _ (cZ h++cZ ((h:Int)+i))
 have p0:Ext t p:=by rw[E];exact ax _ _
 obtain⟨q7,m6,a4,n3⟩:=bI p (.int .i64 9) (.string ⟨#[108]⟩) (.string ⟨#[105]⟩) (.slice (some ⟨t.heap.size,0,none⟩) 2 2) (.slice none 0 0) (.slice (some ⟨m.heap.size,0,none⟩) 2 2) (.slice none 0 0) (.slice none 0 0) (.slice none 0 0) 37;have t3:=m6.symm;obtain⟨P,m7,J,n4⟩:=bH q7 (.string ⟨#[109]⟩) (.slice none 0 0) (.slice none 0 0) (.slice (some ⟨p.heap.size,0,none⟩) 1 1) 30;have t4:=m7.symm;obtain⟨v9,w0,w1,w2⟩:=n4.get4;obtain⟨q,m8,K,X⟩:=bH P (.string ⟨#[109]⟩) (.slice none 0 0) (.slice none 0 0) (.slice (some ⟨p.heap.size,0,none⟩) 1 1) 30;have t5:=m8.symm;have q1:=p0.trans (a4.trans (J.trans K));have z:=o8.trans (o9.trans q1);have Q:=Hd (r0.o.trans z)
 have q4:=Hd (show Sl (RM q q.heap.size) q q.heap.size 4 [mLp h ((h:Int)+i)] (.slice (some ⟨P.heap.size,0,none⟩) 1 1) from
  Sl.one X.lt rfl X.cells zV (ry (l1.o.ext z) (l2.o.ext z) (l3.o.ext z) (n2.ext (a4.trans (J.trans K))) (show Blk q p.heap.size 37 [.int .i64 9,.string tLl,.string tIi,.slice (some ⟨t.heap.size,0,none⟩) 2 2,.slice none 0 0,.slice (some ⟨m.heap.size,0,none⟩) 2 2,.slice none 0 0,.slice none 0 0,.slice none 0 0] from n3.ext (J.trans K)) (ac _)))
 clear o8 o9 E n2 p0 m6 a4 n3 m7 J n4 m8 K X q1 z l0 l1 l2 l3;go_wp2_with fail
 go_at_call 15;refine(wX (a:=(h:Int)) (c:=i) zO zO t8 q.heap.size (some ⟨P.heap.size,0,none⟩) 1 q (l5.o.ext Q.o) (TabP.ext l6.o Q.o) q4.o (ac _)).mono ?_;rintro _ p8 ⟨A7,p7,w3,w5,r8,r9,rfl,n9,p1⟩;obtain⟨B6,q8,t6,⟨r2,r3,r4⟩,⟨r5,r6,r7⟩,t7,Y,a5⟩:=hm p8 (.slice A7 i p7) (.slice w3 i w5) (.slice r8 0 r9);have r1:=Hd (Q.o.trans (p1.trans a5));have a0:=n9.ext a5;obtain⟨s0,s1,s2⟩:=Y.get3;have l4:=Hd Y;obtain⟨E2,E3,v4,o0⟩:=gl a0.sig;obtain⟨E0,E1,v3,G⟩:=SlT.open_ a0.prc;injection v4 with v0 v1 v2;injection v3 with v5 v6 v7;subst v0 v2 v5 v7;have q3:=Hd o0;have q2:=Hd G;clear n9 p1 a5 Y a0 o0 G v1 v6 t2 t3 t4 t5 v9 w0 w1 w2;go_wp2_with fail
 go_loopw [11] (λL wr=>∃g:Nat,g<=i/\L=.int .i64 g/\Ext q8 wr) (λL _=>i - (intOf L).toNat)
 case atStart=>exact⟨0,aO _,rfl,ah _⟩
 case round=>
  obtain⟨g,Z,rfl,j⟩:=hrel;have l7:=Hd j;clear t6 r2 r3 r4 r5 r6 r7 t7 s0 s1 s2;by_cases F:g<i
  ·obtain⟨A,o,rfl,-,U⟩:=q3.o g (show g<(dw i h).length by rw[fS];exact F);obtain⟨w4,w6,B8,rfl,V,-,s8⟩:=q2.o g (show g<(dv i 0 h).length by rw[fR];exact F);obtain⟨F2,rfl,H⟩:=s8;have n8:=ow i 0 h g (by rw[fR];exact F);have o1:=oz i h g (by rw[fS];exact F);simp only[n8] at V H;simp only[o1,qc,Int.zero_add] at U H;obtain⟨F0,y,rfl,o2⟩:=SlT.open_ H;obtain⟨k,l,F1,rfl,m2,-,m4⟩:=o2 0 (by show(0:Nat)<1;decide);obtain⟨F3,A9,rfl,o4,o5⟩:=RT6_iff.1 m4;obtain⟨C7,ec,rfl,n7⟩:=SlT.open_ o4;obtain⟨S,T,C8,rfl,l8,-,m0⟩:=n7 0 (by show(0:Nat)<1;decide);obtain⟨B0,rfl,-⟩:=RE8_iff.1 m0;have D9:=o5.oneCell;obtain⟨p3,p4,p5,p6⟩:=(show Cells wr A (o+g*4) [.string (txL ((h:Int)+g)),.int .i64 20,.int .i64 3,.int .u64 0] from U.ext j).later4;obtain⟨B3,B4⟩:=(show Cells wr w4 (w6+g*2) [.bool false,.slice (some ⟨k,l,none⟩) 1 y] from V.ext j).get2;have m3:Cells wr k l [.int .i64 1,.int .i64 g,.int .i64 19,.int .i64 0,.slice (some ⟨S,T,none⟩) 1 ec,A9]:=by have:=m2.ext j;rwa[Nat.zero_mul,Nat.add_zero] at this
   have s7:∃A8,Cells wr S T [.int .i64 1,.int .i64 0,.int .u64 ((h:Int)+g),.int .i64 0,.int .i64 0,.int .i64 0,.int .i64 0,A8]:=⟨B0,by have:=l8.ext j;rwa[Nat.zero_mul,Nat.add_zero] at this⟩;obtain⟨u7,l9⟩:=s7;obtain⟨E4,E5,E6,E7,E8,E9⟩:=m3.later6;obtain⟨B9,C0,C1,C2,C3,C4,C5,C6⟩:=l9.later8;obtain⟨C9,D0,D1⟩:=(l4.o.ext j).later3;obtain⟨s4,s5,s6⟩:=(l4.o.ext j).get3;have D8:IntKind.u64.wrap ((h:Int)+g)=(h:Int)+g:=by simp(disch:=omega) only[IntWalk.u64_in]
   have D7:IntKind.i64.wrap ((h:Int)+g)=(h:Int)+g:=by simp(disch:=omega) only[IntWalk.i64_in]
   have t9:=pN (v:=(h:Int)+g) zO zO;have D4:¬(9223372036854775807<2+(bn ((h:Int)+g)).size):=by omega
   have D5:¬(9223372036854775807<2+(bn ((h:Int)+g)).size+3):=by omega
   clear t9 U V H n8 o1 o2 m2 m4 o4 o5 n7 l8 m0 m3 l9 j;go_wp2_with fail
   refine bT 41 (W:=wr) (Ext) (eqG [.pointer (some ⟨p8.heap.size,0,none⟩),.slice (some ⟨A,o,none⟩) i p7,.int .i64 g,.pointer (some ⟨A,o+g*4,none⟩),.pointer (some ⟨A,o+g*4,none⟩),.string (txL ((h:Int)+g)),.int .i64 h,.int .i64 g,.int .i64 ((h:Int)+g),.string (bn ((h:Int)+g)),.string (⟨#[108,91]⟩++bn ((h:Int)+g)),.string (txL ((h:Int)+g)),.bool false,.bool false,.slice (some ⟨k,l,none⟩) 1 y,.int .i64 1,.bool false,.bool false,.bool false,.slice (some ⟨k,l,none⟩) 1 y,.pointer (some ⟨k,l,none⟩),.pointer (some ⟨k,l+1,none⟩),.int .i64 g,.int .i64 g,.bool false,.bool false,.bool false,.slice (some ⟨k,l,none⟩) 1 y,.pointer (some ⟨k,l,none⟩),.pointer (some ⟨k,l+2,none⟩),.int .i64 19,.bool false,.bool false,.bool false,.slice (some ⟨k,l,none⟩) 1 y,.pointer (some ⟨k,l,none⟩),.pointer (some ⟨k,l+4,none⟩),.slice (some ⟨S,T,none⟩) 1 ec,.int .i64 1,.bool false,.bool false]) (λ_ _=>False) (λ_=>true) zK (bG) zK zK ?_ (ah _) (λL v w p9 f j=>eU f j) ?_ (λO B7 w d G=>G.elim) ?_
   ·exact⟨rfl,rfl,rfl,rfl,rfl,rfl,rfl,rfl,rfl,rfl,rfl,rfl,rfl,rfl,(λv w f=>f),(λv w f=>f),(λv w f=>f),rfl,rfl,(λv w f=>f),(λv w f=>f),(λv w f=>f),(λv w f=>f),(λv w f=>f),(λv w f=>f),rfl,rfl,(λv w f=>f),(λv w f=>f),(λv w f=>f),(λv w f=>f),(λv w f=>f),rfl,rfl,(λv w f=>f),(λv w f=>f),(λv w f=>f),(λv w f=>f),(λv w f=>f),(λv w f=>f),rfl,trivial⟩
   ·refine⟨?_,?_,?_,?_,?_,?_,?_,?_,?_,?_,?_,?_,?_,?_,?_,?_,?_,?_,?_,?_,?_,?_,?_,?_,?_,?_,?_,?_,?_,?_,?_,?_,?_,?_,?_,?_,?_,?_,?_,?_,?_,trivial⟩;rotate_left 9
    ·intro O q0 x d r;obtain⟨B,rfl⟩:=ae x;have A1:=aa d 8 79 zK rfl;simp[eqG] at A1;clear d r;go_simp;refine(yn (h+g) zO B.w).mono ?_;rintro _ F5 ⟨rfl,D6,j⟩;rw[show((h+g:Nat):Int)=(h:Int)+g by omega];go_simp;first|exact⟨_,rfl,j,rfl⟩|exact⟨j,rfl⟩|exact⟨_,rfl,rfl⟩|exact j
    all_goals
     intro O q0 x d r;obtain⟨B,rfl⟩:=ae x;try (have A2:=aa d 9 80 zD rfl;simp[eqG] at A2)
     try (have w7:=aa d 10 81 zD rfl;simp[eqG] at w7)
     try (have z8:=aa d 5 76 zD rfl;simp[eqG] at z8)
     try (have w8:=aa d 11 82 zD rfl;simp[eqG] at w8)
     try (have w9:=aa d 12 83 zD rfl;simp[eqG] at w9)
     try (have x1:=aa d 14 85 zD rfl;simp[eqG] at x1)
     try (have x2:=aa d 15 86 zD rfl;simp[eqG] at x2)
     try (have x0:=aa d 13 84 zD rfl;simp[eqG] at x0)
     try (have x3:=aa d 16 87 zD rfl;simp[eqG] at x3)
     try (have x4:=aa d 17 88 zD rfl;simp[eqG] at x4)
     try (have x6:=aa d 19 90 zD rfl;simp[eqG] at x6)
     try (have x7:=aa d 20 91 zD rfl;simp[eqG] at x7)
     try (have x8:=aa d 21 92 zD rfl;simp[eqG] at x8)
     try (have x9:=aa d 22 93 zD rfl;simp[eqG] at x9)
     try (have y0:=aa d 23 94 zD rfl;simp[eqG] at y0)
     try (have x5:=aa d 18 89 zD rfl;simp[eqG] at x5)
     try (have y1:=aa d 24 95 zD rfl;simp[eqG] at y1)
     try (have y2:=aa d 25 96 zD rfl;simp[eqG] at y2)
     try (have y4:=aa d 27 98 zD rfl;simp[eqG] at y4)
     try (have y5:=aa d 28 99 zD rfl;simp[eqG] at y5)
     try (have y6:=aa d 29 100 zD rfl;simp[eqG] at y6)
     try (have y7:=aa d 30 101 zD rfl;simp[eqG] at y7)
     try (have y3:=aa d 26 97 zD rfl;simp[eqG] at y3)
     try (have y8:=aa d 31 102 zD rfl;simp[eqG] at y8)
     try (have y9:=aa d 32 103 zD rfl;simp[eqG] at y9)
     try (have z1:=aa d 34 105 zD rfl;simp[eqG] at z1)
     try (have z2:=aa d 35 106 zD rfl;simp[eqG] at z2)
     try (have z3:=aa d 36 107 zD rfl;simp[eqG] at z3)
     try (have z4:=aa d 37 108 zD rfl;simp[eqG] at z4)
     try (have z5:=aa d 38 109 zD rfl;simp[eqG] at z5)
     try (have z0:=aa d 33 104 zD rfl;simp[eqG] at z0)
     try (have z6:=aa d 39 110 zD rfl;simp[eqG] at z6)
     try (have p3:=aa d 0 71 zD rfl;simp[eqG] at p3)
     try (have p4:=aa d 1 72 zD rfl;simp[eqG] at p4)
     try (have p5:=aa d 2 73 zD rfl;simp[eqG] at p5)
     try (have p6:=aa d 3 74 zD rfl;simp[eqG] at p6)
     try (have z7:=aa d 4 75 zD rfl;simp[eqG] at z7)
     try (have z9:=aa d 6 77 zD rfl;simp[eqG] at z9)
     try (have A0:=aa d 7 78 zD rfl;simp[eqG] at A0)
     have A4:=ag r 12 zK;simp at A4;have A3:=ag r 11 zK;simp at A3;have A6:=ag r 9 zK;simp at A6;have A5:=ag r 6 zK;simp at A5;clear d r;exact zA
   ·intro O q0 Z;obtain⟨s3,rfl,x,n6,b⟩:=Z.fin (n:=145) rfl;obtain⟨B,rfl⟩:=ae x;have a6:=b 0 zK;have a7:=b 1 zK;have f1:=b 2 zK;have g2:=b 3 zK;have h3:=b 4 zK;have i4:=b 5 zK;have j5:=b 6 zK;have k6:=b 7 zK;have k8:=b 8 zK;have k9:=b 9 zK;have a8:=b 10 zK;have a9:=b 11 zK;have b8:=b 12 zK;have c9:=b 13 zK;have e0:=b 14 zK;have e6:=b 15 zK;have e7:=b 16 zK;have e8:=b 17 zK;have e9:=b 18 zK;have f0:=b 19 zK;have f2:=b 20 zK;have f3:=b 21 zK;have f4:=b 22 zK;have f5:=b 23 zK;have f6:=b 24 zK;have f7:=b 25 zK;have f8:=b 26 zK;have f9:=b 27 zK;have g0:=b 28 zK;have g1:=b 29 zK;have g3:=b 30 zK;have g4:=b 31 zK;have g5:=b 32 zK;have g6:=b 33 zK;have g7:=b 34 zK;have g8:=b 35 zK;have g9:=b 36 zK;have h0:=b 37 zK;have h1:=b 38 zK;have h2:=b 39 zK;have h4:=b 40 zK;have h5:=b 41 zK;have h6:=b 42 zK;have h7:=b 43 zK;have h8:=b 44 zK;have h9:=b 45 zK;have i0:=b 46 zK;have i1:=b 47 zK;have i2:=b 48 zK;have i3:=b 49 zK;have i5:=b 50 zK;have i6:=b 51 zK;have i7:=b 52 zK;have i8:=b 53 zK;have i9:=b 54 zK;have j0:=b 55 zK;have j1:=b 56 zK;have j2:=b 57 zK;have j3:=b 58 zK;have j4:=b 59 zK;have j6:=b 60 zK;have j7:=b 61 zK;have j8:=b 62 zK;have j9:=b 63 zK;have k0:=b 64 zK;have k1:=b 65 zK;have k2:=b 66 zK;have k3:=b 67 zK;have k4:=b 68 zK;have k5:=b 69 zK;have k7:=b 70 zK;have b0:=b 112 zK;have b1:=b 113 zK;have b2:=b 114 zK;have b3:=b 115 zK;have b4:=b 116 zK;have b5:=b 117 zK;have b6:=b 118 zK;have b7:=b 119 zK;have b9:=b 120 zK;have c0:=b 121 zK;have c1:=b 122 zK;have c2:=b 123 zK;have c3:=b 124 zK;have c4:=b 125 zK;have c5:=b 126 zK;have c6:=b 127 zK;have c7:=b 128 zK;have c8:=b 129 zK;have d0:=b 130 zK;have d1:=b 131 zK;have d2:=b 132 zK;have d3:=b 133 zK;have d4:=b 134 zK;have d5:=b 135 zK;have d6:=b 136 zK;have d7:=b 137 zK;have d8:=b 138 zK;have d9:=b 139 zK;have e1:=b 140 zK;have e2:=b 141 zK;have e3:=b 142 zK;have e4:=b 143 zK;have e5:=b 144 zK;have p2:s3 111=.bool false:=n6 40 111 rfl rfl;clear n6 b;simp at a6 a7 f1 g2 h3 i4 j5 k6 k8 k9 a8 a9 b8 c9 e0 e6 e7 e8 e9 f0 f2 f3 f4 f5 f6 f7 f8 f9 g0 g1 g3 g4 g5 g6 g7 g8 g9 h0 h1 h2 h4 h5 h6 h7 h8 h9 i0 i1 i2 i3 i5 i6 i7 i8 i9 j0 j1 j2 j3 j4 j6 j7 j8 j9 k0 k1 k2 k3 k4 k5 k7 b0 b1 b2 b3 b4 b5 b6 b7 b9 c0 c1 c2 c3 c4 c5 c6 c7 c8 d0 d1 d2 d3 d4 d5 d6 d7 d8 d9 e1 e2 e3 e4 e5;simp only[List.drop_succ_cons,List.drop_zero];simp[List.range,List.range.loop,a6,a7,f1,g2,h3,i4,j5,k6,k8,k9,a8,a9,b8,c9,e0,e6,e7,e8,e9,f0,f2,f3,f4,f5,f6,f7,f8,f9,g0,g1,g3,g4,g5,g6,g7,g8,g9,h0,h1,h2,h4,h5,h6,h7,h8,h9,i0,i1,i2,i3,i5,i6,i7,i8,i9,j0,j1,j2,j3,j4,j6,j7,j8,j9,k0,k1,k2,k3,k4,k5,k7,b0,b1,b2,b3,b4,b5,b6,b7,b9,c0,c1,c2,c3,c4,c5,c6,c7,c8,d0,d1,d2,d3,d4,d5,d6,d7,d8,d9,e1,e2,e3,e4,e5,p2];clear a6 a7 f1 g2 h3 i4 j5 k6 k8 k9 a8 a9 b8 c9 e0 e6 e7 e8 e9 f0 f2 f3 f4 f5 f6 f7 f8 f9 g0 g1 g3 g4 g5 g6 g7 g8 g9 h0 h1 h2 h4 h5 h6 h7 h8 h9 i0 i1 i2 i3 i5 i6 i7 i8 i9 j0 j1 j2 j3 j4 j6 j7 j8 j9 k0 k1 k2 k3 k4 k5 k7 b0 b1 b2 b3 b4 b5 b6 b7 b9 c0 c1 c2 c3 c4 c5 c6 c7 c8 d0 d1 d2 d3 d4 d5 d6 d7 d8 d9 e1 e2 e3 e4 e5 p2;have q5:=Hd (l7.o.trans B.ext);clear s4 s5 s6 B3 B4;go_wp2_with fail
    go_roundw;case rel=>exact⟨g+1,zO,zN,q5.o⟩
    case measure=>simp[intOf];omega
  ·have R:=Hd (r1.o.trans l7.o);clear j;go_wp2_with fail
   go_at_call 11;refine(vJ wr (l5.o.ext R.o) (TabP.ext l6.o R.o)).mono ?_;rintro _ F4 ⟨rfl,v8⟩;go_wp2_with fail
   go_ret;exact⟨rfl,R.o.trans v8⟩
end Go.Proofs.YtlfmlodanoolhaaGreatDoor
namespace Go.Proofs.YtlfmlodanoolhaaGreatDoor.elabLoops
open Go Go.ChangeShapes Go.WideShapes Go.ChangeAt Go.RowKit Go.Proofs.Tryz
theorem contract(a:Type)(enc:TypeId×Value->a)(W:World)(k:Nat)(args:Array Value)(ds gs:List (DataW a))(l:List MemPlace)
 (C:∀(g:Nat) h v,Tryz.f4.params[g]? =some h->args[g]? =some v->Value.okWide Tryz.prog W .any k h v)
 (f:DataW.Whole enc Tryz.prog Tryz.f4.params.toList Rows.elabLoopsSpec.vars false W args.toList ds gs l) (y:Rows.uptoSmall a (ds++gs)=true) (r:laidMetH Tryz.prog Rows.elabLoopsUptoRow.laid W) (B:W.ShapedOpen Tryz.prog):
 Calls Tryz.prog 4 args W λe c=>∃v,e=.returned v/\Rows.elabLoopsSpec.post enc Tryz.prog Tryz.f4 false true false false W args v c:=by
 obtain⟨t,u⟩:=uv r B;have x:=f;obtain⟨E,Q,q,w,rfl,-,-⟩:=f;have d:DataW.TrodAll enc Tryz.prog W 0 (λ_=>true) true Tryz.f4.params.toList args.toList ds E:=q;rw[Tryz.params4] at d;have b:=C;rw[Tryz.params4] at b;obtain⟨i,T,m,L,O,R,N,rfl,rfl,o,F⟩:=trodAll_cons d;obtain⟨j,U,n,M,P,S,rfl,rfl,rfl,p,G⟩:=trodAll_cons F;obtain⟨rfl,rfl,rfl⟩:=trodAll_nil G;obtain rfl:args=#[i,j]:=by cases args;simp_all
 obtain⟨rfl,rfl⟩:=trodVars_none w;have z:=wj y;simp only[List.append_nil,Rows.uptoBulkAll] at z;obtain⟨H,rfl,J⟩:=uf b 0 rfl rfl o;obtain⟨I,rfl,K⟩:=sF b 1 rfl rfl p;refine(rc H I J K W t u).mono λe c A=>?_
 obtain⟨rfl,D⟩:=A;exact⟨_,rfl,vT underlying4 sa rr full (s:=Rows.elabLoopsSpec) (ds:=[m,n]) (gs:=[]) rfl rfl (by rw[Tryz.params4];decide) x rfl D⟩
theorem reads(b:Os){a:Type}(enc:TypeId×Value->a):∃c,DataW.whole enc Tryz.prog ((kF b).forCall (λ_ _=>0) ⟨#[],#[.int .u16 0,.int .u8 0],[]⟩).memory Tryz.f4.params.toList Rows.elabLoopsSpec.vars false (#[.int .u16 0,.int .u8 0]:Array Value).toList 8=some ([.lit (.int .u16 0),.lit (.int .u8 0)],[],c):=
 ⟨[],zK⟩
theorem lifted(a:Os)(q:a.Started)(b:Type)(enc:TypeId×Value->b)(c:Stop.Interp):
 ReturnsInHanded {} Tryz.checked a 4 .any ((Rows.OpenSpec.upto Rows.elabLoopsSpec).preRow enc Tryz.prog Tryz.f4 Rows.elabLoopsUptoRow.domain false Rows.elabLoopsUptoRow.laid) (((Rows.OpenSpec.upto Rows.elabLoopsSpec).at c).post enc Tryz.prog Tryz.f4 false true false false):=by
 obtain⟨t,p⟩:=reads a enc
 refine returnsInHanded_of_row (C:=Tryz.checked) (s:=Rows.OpenSpec.upto Rows.elabLoopsSpec) sG q zK func4
  (witness_row_at (enc:=enc) (C:=Tryz.checked) false (kF a) #[.int .u16 0,.int .u8 0] rfl zK zK zK
    (OpenSpec.preRow_of_cond 8 p zK (λr m=>by cases m;kernel_rfl) zK (vI a _))) ?_
 intro d f e h i g o k _ l _ j n _;exact contract b enc d f e h i g o k (l _ rfl) j n
theorem saidUpto:Rows.ElabLoopsUptoSaid:=
 OpenClaim.holds_of_cond 4 Tryz.f4 rfl rfl rfl rfl rfl rfl rfl ⟨rfl,rfl,rfl,rfl,rfl⟩ rfl rfl rfl rfl rfl zK func4 zK
  (of_decide_eq_true zK) (by unfold Func.isWrapper;first|(rw[if_pos (by decide+kernel)];kernel_rfl)|(rw[if_neg (by decide+kernel)];exact⟨rfl,rfl⟩))
  (λc d b enc _ a=>by rw[OpenClaim.pre_eq_preRow];exact lifted c d b enc a)
theorem plain (f : FuncId) (a : Func) (e : Tryz.pinned.checked.prog.funcNamed "filigree/filigreelaw08.ElabLoops" = some f) (g : Tryz.pinned.checked.prog.funcs[f]? = some a) :
 true=Tryz.pinned.checked.prog.looks []/\∀(j:Nat) b,a.params[j]? =some b->Tryz.pinned.checked.prog.wantsStandIn b=false:=by
 obtain rfl : f = 4 := Option.some.inj ((show Tryz.prog.funcNamed "filigree/filigreelaw08.ElabLoops" = some 4 by kernel_rfl).symm.trans e) |>.symm
 obtain rfl:a=Tryz.f4:=(Option.some.inj (func4.symm.trans g)).symm;refine⟨zK,λj b d=>?_⟩;rw[Tryz.params4] at d;have c:=Array.mem_of_getElem? d;simp only[List.mem_toArray,List.mem_cons,List.not_mem_nil,or_false] at c;rcases c with rfl|rfl
 ·exact(show Tryz.prog.wantsStandIn 66=false by kernel_rfl)
 ·exact(show Tryz.prog.wantsStandIn 5=false by kernel_rfl)
theorem cardUpto:Rows.ElabLoopsUptoCardSaid:=
 Claim7.holds_tied_plain_at .later [] _ _ _ _ saidUpto (λ_ a=>by cases a) zK (λ_ a=>by cases a) elabLoopsUpto_row_tie rfl ⟨rfl,rfl⟩ zK rfl plain zK
end Go.Proofs.YtlfmlodanoolhaaGreatDoor.elabLoops
