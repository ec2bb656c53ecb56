import Derived.Test.YtlfmlodanoolhaaGreatDoorY43
import Derived.Test.YtlfmlodanoolhaaGreatDoorY51
set_option linter.all false
set_option maxRecDepth 200000
set_option maxHeartbeats 32000000
namespace Go.Proofs.YtlfmlodanoolhaaGreatDoor
open Go Go.RowKit Go.Proofs.Tryz
attribute [local go_sem] bc
theorem DsnV.read{w:World}{N0:Nat}{d:Dsn}{c b a:Value}(h:DsnV w N0 d c b a):∃j k g i e f,c=.slice j d.sigs.length k/\b=.slice g d.procs.length i/\a=.slice e d.chks.length f/\DsnR w d c b a:=by
 obtain⟨j,k,rfl⟩:=h.sig.form;obtain⟨g,i,rfl⟩:=h.prc.form;obtain⟨e,f,rfl⟩:=h.chk.form;exact⟨_,_,_,_,_,_,rfl,rfl,rfl,h.sig.sl zD,h.prc.slT zD,h.chk.slT zD⟩
theorem pQ(B:Nat)(fl:List Mdl)(l:Option Addr)(m:Nat)(b:ByteArray)(a:List (ByteArray×Int))(j:Option Addr)(k:Nat)(w:World)(s:Tabs w)(y:TabP w)(r:Sl (RM w B) w B 4 fl (.slice l fl.length m))(q:Sl RNm w B 2 a (.slice j a.length k))(p:B<=w.heap.size)
 (x:ab ay fl<=10000000) (z:∀o,o∈fl->VM o) (u:a.length<=1000000):
 Calls Tryz.prog 15 #[.agg #[.slice l fl.length m],.string b,.slice j a.length k] w λe n=>∃h i f g c d,e=.returned (.tuple #[.agg #[.slice h (bv fl b a).1.sigs.length i,.slice f (bv fl b a).1.procs.length g,.slice c (bv fl b a).1.chks.length d],.int .i64 (bv fl b a).2])/\
  DsnR n (bv fl b a).1 (.slice h (bv fl b a).1.sigs.length i) (.slice f (bv fl b a).1.procs.length g) (.slice c (bv fl b a).1.chks.length d)/\Ext w n:=by
 refine(ti B fl l m b a j k w s y r q p x z u).mono ?_;rintro e n ⟨E,D,C,rfl,t,A⟩;obtain⟨h,i,f,g,c,d,rfl,rfl,rfl,v⟩:=t.read;exact⟨h,i,f,g,c,d,rfl,v,A⟩
theorem hC{g:ByteArray}{a:List (ByteArray×Int)}{d:Dsn}{c:Int}(v:bv fEx g a=(d,c))(B:Nat)(h:Option Addr)(i:Nat)(b:Option Addr)(f:Nat)(w:World)(u:Tabs w)(y:TabP w)(t:Sl (RM w B) w B 4 fEx (.slice h 2 i))(s:Sl RNm w B 2 a (.slice b a.length f))(r:B<=w.heap.size)(x:a.length<=1000000):
 Calls Tryz.prog 15 #[.agg #[.slice h 2 i],.string g,.slice b a.length f] w λe q=>∃o p m n j k,e=.returned (.tuple #[.agg #[.slice o d.sigs.length p,.slice m d.procs.length n,.slice j d.chks.length k],.int .i64 c])/\
  DsnR q d (.slice o d.sigs.length p) (.slice m d.procs.length n) (.slice j d.chks.length k)/\Ext w q:=by
 have l:=pQ B fEx h i g a b f w u y t s r zD qg x;rw[v] at l;exact l
theorem hm(w:World)(d e f:Value):∃a b:World,w.alloc (.cells #[.slice none 0 0,.slice none 0 0,.slice none 0 0] 50)=a/\(a.cell? ⟨w.heap.size,0,none⟩=some (.slice none 0 0)/\a.cell? ⟨w.heap.size,1,none⟩=some (.slice none 0 0)/\a.cell? ⟨w.heap.size,2,none⟩=some (.slice none 0 0))/\(a.frozen? ⟨w.heap.size,0,none⟩=false/\a.frozen? ⟨w.heap.size,1,none⟩=false/\a.frozen? ⟨w.heap.size,2,none⟩=false)/\
 ((a.setCell ⟨w.heap.size,0,none⟩ d).setCell ⟨w.heap.size,1,none⟩ e).setCell ⟨w.heap.size,2,none⟩ f=b/\Blk b w.heap.size 50 [d,e,f]/\Ext w b:=by
 obtain⟨a,g,h,c⟩:=fk w (.slice none 0 0) (.slice none 0 0) (.slice none 0 0) 50;refine⟨a,_,g.symm,c.get3,c.free3,rfl,c.store3 d e f,?_⟩;exact((h.setCell (ac _) _).setCell (ac _) _).setCell (ac _) _
theorem vJ(w:World)(b8:Tabs w)(e5:TabP w):Calls Tryz.prog 11 #[] w λe t1=>e=.returned (.bool true)/\Ext w t1:=by
 have p:=Hd b8;have q:=Hd e5;clear b8 e5
 go_in
 go_wp2_with fail
 go_at_call 29;refine(qB w).mono ?_;rintro _ j ⟨v,rfl,a3,e6⟩;obtain⟨g,h,rfl⟩:∃V W,v=.slice V 2 W:=by obtain⟨V,W,m1,-⟩:=a3;exact⟨V,W,m1⟩
 obtain⟨j0,c1,e9,B⟩:=aJ j (.slice none 0 0) 24;have n6:=c1.symm;have t6:=B.cell 0;simp only[List.getElem?_cons_zero] at t6;have B4:=B.frozen 0;obtain⟨k,A⟩:∃k,k=j0.setCell ⟨j.heap.size,0,none⟩ (.slice g 2 h):=⟨_,rfl⟩;have m3:=A.symm;have a0:Blk k j.heap.size 24 [.slice g 2 h]:=by rw[A];exact B.store1 _
 have C:Ext j k:=by rw[A];exact e9.setCell (ac _) _
 have l1:=a0.cell 0;simp only[List.getElem?_cons_zero] at l1;have P:=Hd (e6.trans C);have f5:=Hd a0;have b2:=Hd (a3.extRM C (ac _));have m2:=C.size;clear a3 e6 c1 e9 B A C a0;have X:=m2;obtain⟨A0,d2⟩:=uQ;have g9:=Hd d2;clear d2;go_wp2_with fail
 go_at_call 15;refine(hC g9.o j.heap.size g h none 0 k (p.o.ext P.o) (TabP.ext q.o P.o) b2.o aU X zD).mono ?_;rintro _ s6 ⟨r6,s1,q5,r0,j5,k0,rfl,e0,l⟩;obtain⟨v4,M,m4,⟨v9,w4,w9⟩,⟨x4,x9,y4⟩,m9,c2,D⟩:=hm s6 (.slice r6 2 s1) (.slice q5 1 r0) (.slice j5 0 k0);have Q:=Hd (P.o.trans (l.trans D));have h4:=Hd (e0.ext D);have f7:=Hd c2;have U:=Hd (show Ext k M from l.trans D);have b0:=Hd (f5.o.ext U.o);have b3:=Hd (b2.o.extRM U.o X);have Y:=ad X (Ext.size U.o);have l2:=b0.o.cell 0;simp only[List.getElem?_cons_zero] at l2;clear e0 l c2 D;obtain⟨A1,A2,A3,d3⟩:=tj;have h0:=Hd d3;clear d3;go_wp2_with fail
 go_at_call 15;refine(hC h0.o j.heap.size g h none 0 M (p.o.ext Q.o) (TabP.ext q.o Q.o) b3.o aU Y zD).mono ?_;rintro _ s7 ⟨r7,s2,q6,r1,j6,k1,rfl,e1,a4⟩;obtain⟨v5,u,m5,⟨w0,w5,x0⟩,⟨x5,y0,y5⟩,n0,c3,E⟩:=hm s7 (.slice r7 3 s2) (.slice q6 3 r1) (.slice j6 0 k1);have j1:=Hd (Q.o.trans (a4.trans E));have h9:=Hd (e1.ext E);have g2:=Hd c3;have t:=Hd (show Ext M u from a4.trans E);have I:=Hd (b0.o.ext t.o);have b4:=Hd (b3.o.extRM t.o Y);have y:=ad Y (Ext.size t.o);have f8:=Hd (f7.o.ext t.o);have h5:=Hd (h4.o.ext t.o);have l3:=I.o.cell 0;simp only[List.getElem?_cons_zero] at l3;clear e1 a4 c3 E;obtain⟨r,b9,m,a1⟩:=cM u (.string ⟨#[77]⟩) (.int .i64 1) 85;have n4:=b9.symm;have S:=Hd (j1.o.trans m);have i8:=Hd (show Sl RNm r r.heap.size 2 [(tMm,1)] (.slice (some ⟨u.heap.size,0,none⟩) 1 1) from Sl.one a1.lt rfl a1.cells zV rfl);have i6:=Hd ((b4.o.extRM m y).moreRM (ad y m.size));have l4:=(I.o.ext m).cell 0;simp only[List.getElem?_cons_zero] at l4;have i:=Hd m;clear b9 m a1;have d4:=uS;have h1:=Hd d4;clear d4;go_wp2_with fail
 go_at_call 15;refine(hC h1.o r.heap.size g h (some ⟨u.heap.size,0,none⟩) 1 r (p.o.ext S.o) (TabP.ext q.o S.o) i6.o i8.o (ac _) zD).mono ?_;rintro _ s8 ⟨r8,s3,q7,r2,j7,k2,rfl,e2,a5⟩;obtain⟨v6,N,m6,⟨w1,w6,x1⟩,⟨x6,y1,y6⟩,n1,c4,F⟩:=hm s8 (.slice r8 0 s3) (.slice q7 0 r2) (.slice j7 0 k2);have R:=Hd (S.o.trans (a5.trans F));have i2:=Hd (e2.ext F);have g5:=Hd c4;have f:=Hd (show Ext r N from a5.trans F);have b1:=Hd (I.o.ext (i.o.trans f.o));have b5:=Hd (b4.o.extRM (i.o.trans f.o) y);have Z:=ad y (Ext.size (i.o.trans f.o));have f9:=Hd (f8.o.ext (i.o.trans f.o));have h6:=Hd (h5.o.ext (i.o.trans f.o));have g3:=Hd (g2.o.ext (i.o.trans f.o));have i0:=Hd (h9.o.ext (i.o.trans f.o));have l5:=b1.o.cell 0;simp only[List.getElem?_cons_zero] at l5;clear e2 a5 c4 F;have d5:=tk;have h2:=Hd d5;clear d5;go_wp2_with fail
 go_at_call 15;refine(hC h2.o j.heap.size g h none 0 N (p.o.ext R.o) (TabP.ext q.o R.o) b5.o aU Z zD).mono ?_;rintro _ s9 ⟨r9,s4,q8,r3,j8,k3,rfl,e3,a6⟩;obtain⟨v7,x,m7,⟨w2,w7,x2⟩,⟨x7,y2,y7⟩,n2,c5,G⟩:=hm s9 (.slice r9 0 s4) (.slice q8 0 r3) (.slice j8 0 k3);have j2:=Hd (R.o.trans (a6.trans G));have i4:=Hd (e3.ext G);have g7:=Hd c5;have c:=Hd (show Ext N x from a6.trans G);have J:=Hd (b1.o.ext c.o);have b6:=Hd (b5.o.extRM c.o Z);have z:=ad Z (Ext.size c.o);have g0:=Hd (f9.o.ext c.o);have h7:=Hd (h6.o.ext c.o);have g4:=Hd (g3.o.ext c.o);have i1:=Hd (i0.o.ext c.o);have g6:=Hd (g5.o.ext c.o);have i3:=Hd (i2.o.ext c.o);have l6:=J.o.cell 0;simp only[List.getElem?_cons_zero] at l6;clear e3 a6 c5 G;obtain⟨s,c0,n,a2⟩:=cM x (.string ⟨#[78]⟩) (.int .i64 8) 85;have n5:=c0.symm;have T:=Hd (j2.o.trans n);have i9:=Hd (show Sl RNm s s.heap.size 2 [(tNn,8)] (.slice (some ⟨x.heap.size,0,none⟩) 1 1) from Sl.one a2.lt rfl a2.cells zV rfl);have i7:=Hd ((b6.o.extRM n z).moreRM (ad z n.size));have l7:=(J.o.ext n).cell 0;simp only[List.getElem?_cons_zero] at l7;have b:=Hd n;clear c0 n a2;obtain⟨A4,d6⟩:=uR;have h3:=Hd d6;clear d6;go_wp2_with fail
 go_at_call 15;refine(hC h3.o s.heap.size g h (some ⟨x.heap.size,0,none⟩) 1 s (p.o.ext T.o) (TabP.ext q.o T.o) i7.o i9.o (ac _) zD).mono ?_;rintro _ t0 ⟨s0,s5,q9,r4,j9,k4,rfl,e4,a7⟩;obtain⟨v8,O,m8,⟨w3,w8,x3⟩,⟨x8,y3,y8⟩,n3,c6,H⟩:=hm t0 (.slice s0 2 s5) (.slice q9 1 r4) (.slice j9 0 k4);have j3:=Hd (T.o.trans (a7.trans H));have i5:=Hd (e4.ext H);have g8:=Hd c6;have a:=Hd (show Ext s O from a7.trans H);have f6:=Hd (J.o.ext (b.o.trans a.o));have v3:=Hd (b6.o.extRM (b.o.trans a.o) z);have z9:=ad z (Ext.size (b.o.trans a.o));have g1:=Hd (g0.o.ext (b.o.trans a.o));have h8:=Hd (h7.o.ext (b.o.trans a.o));have K:=Hd (g4.o.ext (b.o.trans a.o));have L:=Hd (i1.o.ext (b.o.trans a.o));have t9:=Hd (g6.o.ext (b.o.trans a.o));have v1:=Hd (i3.o.ext (b.o.trans a.o));have v0:=Hd (g7.o.ext (b.o.trans a.o));have v2:=Hd (i4.o.ext (b.o.trans a.o));have l8:=f6.o.cell 0;simp only[List.getElem?_cons_zero] at l8;clear e4 a7 c6 H;obtain⟨k5,k6,k7⟩:=K.o.get3;clear n6 m3 m4 m9 m5 n0 m6 n1 m7 n2 n4 n5;go_wp2_with fail
 go_at_call 22;refine(uO O.heap.size [⟨tY,2,2,0⟩,⟨tUA,2,3,0⟩,⟨tUY,2,3,0⟩] tUY O _ _ _ L.o.sig rfl rfl (ac _) zD).mono ?_;rintro _ f4 ⟨m0,l9,rfl,d0,a8⟩;obtain⟨rfl,rfl⟩:m0=2/\l9=true:=FindG.one d0 (.inl ⟨rfl,2,zD,rfl,rfl,λp2 z8 n7=>by
  match p2,n7 with
  |0,_=>exact dF (show tY.data≠tUY.data by decide)
  |1,_=>exact dF (show tUA.data≠tUY.data by decide)⟩)
 have b7:=Hd a8;obtain⟨k8,k9,l0⟩:=(K.o.ext a8).get3;clear d0 a8 m8 n3;go_wp2_with fail
 go_at_call 24;refine(wW f4.heap.size [⟨tY,2,2,0⟩,⟨tUA,2,3,0⟩,⟨tUY,2,3,0⟩] 3 f4 _ _ _ (L.o.ext b7.o).sig rfl rfl (ac _) zD).mono ?_;rintro _ a9 ⟨A5,rfl,d7,e7⟩;have d1:cr 3 0 [⟨tY,2,2,0⟩,⟨tUA,2,3,0⟩,⟨tUY,2,3,0⟩]=[1,2]:=by decide
 rw[d1] at d7;obtain⟨A6,A8,rfl,-,d8⟩:=d7;obtain⟨A7,A9,r5,rfl,-,-,d9,-,n8⟩:=d8 0 zD;obtain rfl:r5=[.int .i64 1]:=n8;have n9:=d9 0 _ rfl;have d:=b7.o.trans e7;obtain⟨y9,z0,z1⟩:=(g1.o.ext d).get3;obtain⟨z2,z3,z4⟩:=(K.o.ext d).get3;obtain⟨z5,z6,z7⟩:=(g8.o.ext d).get3;have c7:=(h8.o.ext d).sig;have c8:=(L.o.ext d).sig;have c9:=(i5.o.ext d).sig;obtain⟨B0,B1,o0,l⟩:=gl c7;obtain⟨B2,B3,o4,f0⟩:=gl c8;obtain⟨B5,B6,o8,f2⟩:=gl c9;injection o0 with o1 o2 o3;injection o4 with o5 o6 o7;injection o8 with o9 p0 p1;subst o1 o5 o9;obtain⟨t2,t3,rfl,-,e8⟩:=l 0 (by show(0:Nat)<2;decide);obtain⟨t4,t5,rfl,-,f1⟩:=f0 1 (by show(1:Nat)<3;decide);obtain⟨t7,t8,rfl,-,f3⟩:=f2 1 (by show(1:Nat)<2;decide);obtain⟨p3,p4,p5,p6⟩:=(show Cells a9 t2 (t3+0*4) [.string ⟨#[97]⟩,.int .i64 2,.int .i64 1,.int .u64 0] from e8).get4;obtain⟨p7,p8,p9,q0⟩:=(show Cells a9 t4 (t5+1*4) [.string ⟨#[117,46,97]⟩,.int .i64 2,.int .i64 3,.int .u64 0] from f1).get4;obtain⟨q1,q2,q3,q4⟩:=(show Cells a9 t7 (t8+1*4) [.string tY,.int .i64 8,.int .i64 2,.int .u64 0] from f3).get4;simp only[Nat.zero_mul,Nat.one_mul,Nat.add_zero] at n9 p3 p4 p5 p6 p7 p8 p9 q0 q1 q2 q3 q4;have j4:=Hd (j3.o.trans d);clear d c7 c8 c9 o2 o3 o6 o7 p0 p1 l f0 f2 e8 f1 f3 e7 d8 d9 d1 k8 k9 l0 k5 k6 k7;go_wp2_with fail
 go_ret;exact⟨rfl,j4.o⟩
theorem rH:∀k:Nat,k<10->(⟨#[48,49,50,51,52,53,54,55,56,57]⟩:ByteArray).extract k (k+1)=gg k:=by
 intro k b;have:k=0\/k=1\/k=2\/k=3\/k=4\/k=5\/k=6\/k=7\/k=8\/k=9:=by omega
 rcases this with a|a|a|a|a|a|a|a|a|a<;>subst a<;>decide
theorem yn(n:Nat)(L:n<1000000000)(w:World):
 Calls Tryz.prog 21 #[.int .i64 n] w λe D=>e=.returned (.string (bn n))/\(bn n).size<=20/\Ext w D:=by
 go_in
 go_wp2_with fail
 go_loopw [0,3,4] (λB C l wr=>∃(b a:Nat) (s:ByteArray),B=.int .i64 a/\C=.string s/\l=.int .i64 b/\bn n=bn a++s/\a*10 ^ b<=n/\(b=0\/1<=a)/\s.size=b/\Ext w wr) (λ_ _ l _=>20 - (intOf l).toNat)
 case atStart=>exact⟨0,n,⟨#[]⟩,rfl,rfl,rfl,(xM _).symm,zO,.inl rfl,rfl,ah _⟩
 case round=>
  obtain⟨b,a,s,rfl,rfl,rfl,g,u,j,A,k⟩:=hrel;have J:b<20:=by
   rcases j with rfl|f
   ·decide
   ·refine Nat.lt_of_not_le λy=>?_
    have t:10 ^ 20<=10 ^ b:=Nat.pow_le_pow_right zD y;have H:1*10 ^ b<=a*10 ^ b:=Nat.mul_le_mul_right _ f;have I:(1000000000:Nat)<=10 ^ 20:=by decide
    omega
  have K:a<1000000000:=by
   have f:1<=10 ^ b:=Nat.pow_pos zD;have t:a*1<=a*10 ^ b:=Nat.mul_le_mul_left a f;omega
  obtain⟨c,i⟩:∃c,c=a % 10:=⟨_,rfl⟩;obtain⟨d,h⟩:∃d,d=a / 10:=⟨_,rfl⟩;have O:(a:Int) % 10=(c:Int):=by omega
  have M:(a:Int) / 10=(d:Int):=by omega
  have z:c<10:=by omega
  have hcut:=rH c z;have P:¬(9223372036854775807<(gg c).size+s.size):=by show¬(9223372036854775807<1+s.size);omega
  have p:=Hd (show(gg c++s).size=b+1 by rw[ByteArray.size_append,A];show 1+b=_;omega);have G:=Hd i;have F:=Hd h;have E:=Hd g;have q:=Hd k;by_cases r:d=0
  ·have m:=Hd (show bn n=gg c++s by
    rw[g,rI (show a<10 by omega),i,Nat.mod_eq_of_lt (show a<10 by omega)])
   subst r;clear g k u j i h;go_wp2_with fail
   go_ret;exact⟨by rw[m.o];rfl,by rw[m.o,p.o];omega,q.o⟩
  ·have x:=Hd (show bn n=bn (d:Int)++(gg c++s) by
    rw[g,tg (show 10<=a by omega),i,h];exact gN (by rw[fy,fy,fy,fy,List.append_assoc]))
   have v:=Hd (show d*10 ^ (b+1)<=n by
    rw[h];have f:a / 10*10<=a:=Nat.div_mul_le_self a 10;have t:a / 10*10*10 ^ b<=a*10 ^ b:=Nat.mul_le_mul_right _ f;rw[Nat.pow_succ,Nat.mul_comm (10 ^ b) 10,<-Nat.mul_assoc];omega)
   have N:((d:Int)==0)=false:=by simpa using r
   clear g k u j i h;go_wp2_with fail
   go_roundw;case rel=>exact⟨b+1,d,_,zN,rfl,zN,x.o,v.o,.inr zO,p.o,q.o⟩
   case measure=>simp[intOf];omega
end Go.Proofs.YtlfmlodanoolhaaGreatDoor
