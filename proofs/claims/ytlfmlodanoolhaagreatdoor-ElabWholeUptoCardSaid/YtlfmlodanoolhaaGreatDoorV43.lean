import Derived.Test.YtlfmlodanoolhaaGreatDoorV42
set_option linter.all false
set_option maxRecDepth 200000
set_option maxHeartbeats 0
namespace Go.Proofs.YtlfmlodanoolhaaGreatDoor
open Go Go.RowKit Go.Proofs.Tryz
attribute [local go_sem] bc
def sd(c:List Sg)(x:DE):Prop:=∀(w:World) (a:Nat) (g f d:Value) (b:List Value),Sl RSg w a 4 c g->a<=w.heap.size->f.oneCell'=true->d.oneCell'=true->RE8 w x b->okE c x->Calls Tryz.prog 27 #[.agg #[g,f,d],.agg b.toArray] w λe h=>e=.returned (.bool true)/\Ext w h
theorem rL(f:List Sg)(t8:f.length<=1000)(x:DE):aa nE x.l<=1000000000->sd f x:=by
 induction x using DE.ind with
 |h x ih=>
  intro o6 w n5 v3 k9 k8 l3 f5 l5 p1 p0 a8 m2;have o4:=aw nE x.l mP;have t7:x.l.length<=1000000000:=by omega
  obtain⟨l9,l6⟩:=okE_iff.1 m2;have l0:=Hd (λ(g:Nat) (Y:g<x.l.length)=>aq (ih x.l[g] (an Y) (by have f4:=ay nE x.l x.l[g] (an Y);have t6:=fd x.l[g];omega)) (l6 x.l[g] (an Y)));have e8:=Hd l9;obtain⟨v2,rfl,c7⟩:=RE8_iff.1 a8;obtain⟨o9,m9,rfl,m0⟩:=SlT.open_ c7;have n6:=Hd m0;have n7:=Hd f5;obtain⟨k6,e6,rfl,l7⟩:=eP f5;have d4:=Hd l7;clear ih o6 o4 m2 l9 l6 a8 c7 m0 f5 l7;obtain⟨op,e3⟩:∃a5,a5=x.op:=⟨_,rfl⟩;obtain⟨a0,e4⟩:∃a5,a5=x.sig:=⟨_,rfl⟩;obtain⟨hi,f8⟩:∃a5,a5=x.hi:=⟨_,rfl⟩;obtain⟨lo,f9⟩:∃a5,a5=x.lo:=⟨_,rfl⟩;rw[<-e3,<-e4,<-f8,<-f9];have e1:op=2->0<=a0/\a0<f.length/\0<=lo/\lo<=hi/\hi<(aD f a0).w:=by rw[e3,e4,f8,f9];exact e8.o.1
  have e2:op=3->0<=a0/\a0<f.length:=by rw[e3,e4];exact e8.o.2
  clear e3 e4 f8 f9 e8;obtain⟨s6,m,f6,m3,-,b7,b8,b9⟩:=nw w (.slice k6 f.length e6) k9 k8 50;obtain⟨s7,i,f7,m4,-,d6,f0,f1,d7,d8,d9,f2,e0⟩:=ny m.w (.int .i64 op) (.int .i64 x.w) (.int .u64 x.v) (.int .i64 a0) (.int .i64 hi) (.int .i64 lo) (.int .i64 x.n) (.slice o9 x.l.length m9) 60;have b6:=m.ext.trans m4;have b7:=am b7 b6;have b8:=am b8 b6;have b9:=am b9 b6;have q:=am d6 i.ext;have r:=am d7 i.ext;have s:=am d8 i.ext;have t:=am d9 i.ext;have c2:=am e0 i.ext;have m6:=am b7 i.ext;have m7:=am b8 i.ext;have m8:=am b9 i.ext;have e9:=Hd (m3.trans (b6.trans i.ext));clear m3 m4 b6;by_cases c:op=2
  case' pos=>
   subst c;obtain⟨e5,k5,o7,o8,j9⟩:=e1 rfl;obtain⟨n,rfl⟩:=Int.eq_ofNat_of_zero_le e5;have m1:n<f.length:=by omega
   rw[gh m1] at j9;obtain⟨c0,c1,rfl,-,c5⟩:=d4.o n m1;obtain⟨o0,l4,o1,o2⟩:=(show Cells i.w c0 (c1+n*4) [.string f[n].name,.int .i64 f[n].w,.int .i64 f[n].kind,.int .u64 f[n].init] from c5.ext e9.o).later4;obtain⟨f3,l8⟩:∃a5,a5=f[n].w:=⟨_,rfl⟩;rw[<-l8] at j9 l4;have e7:¬(n:Int)<0:=by omega
   have n0:decide ((n:Int)<0)=false:=decide_eq_false e7;have k7:¬f.length<=n:=by omega
   have n1:decide ((f.length:Int)<=(n:Int))=false:=decide_eq_false zO;have n2:¬lo<0:=by omega
   have s4:decide (lo<0)=false:=decide_eq_false n2;have n3:¬hi<lo:=by omega
   have s5:decide (hi<lo)=false:=decide_eq_false n3;have n4:¬f3<=hi:=by omega
   have s3:decide (f3<=hi)=false:=decide_eq_false n4;clear e1 e2 c5 l8 o0 o1 o2 e5 k5 o7 o8 j9;go_enter func27,ntmps27;go_wp2_with fail
   refine bD 40 (W:=i.w) (Ext) (eqG [.pointer (some ⟨m.w.heap.size,0,none⟩),.int .i64 2,.bool true,.bool true,.pointer (some ⟨m.w.heap.size,3,none⟩),.int .i64 n,.bool false,.bool false,.pointer (some ⟨m.w.heap.size,3,none⟩),.int .i64 n,.pointer (some ⟨w.heap.size,0,none⟩),.slice (some ⟨c0,c1,none⟩) f.length e6,.int .i64 f.length,.bool false,.bool false,.bool false,.pointer (some ⟨m.w.heap.size,5,none⟩),.int .i64 lo,.bool false,.bool false,.bool false,.pointer (some ⟨m.w.heap.size,5,none⟩),.int .i64 lo,.pointer (some ⟨m.w.heap.size,4,none⟩),.int .i64 hi,.bool false,.bool false,.bool false,.pointer (some ⟨m.w.heap.size,4,none⟩),.int .i64 hi,.pointer (some ⟨w.heap.size,0,none⟩),.slice (some ⟨c0,c1,none⟩) f.length e6,.pointer (some ⟨m.w.heap.size,3,none⟩),.int .i64 n,.pointer (some ⟨c0,c1+n*4,none⟩),.pointer (some ⟨c0,c1+n*4+1,none⟩),.int .i64 f3,.bool false,.bool false,.bool false]) (λ_ _=>False) (λ_=>true) zK (bo) zK zK ?_ (af _) (λa7 v w d3 a p=>dz a p) ?_ (λa1 l2 w d c6=>c6.elim) ?_
   ·exact⟨rfl,rfl,rfl,rfl,(λv w a=>a),(λv w a=>a),(λv w a=>a),(λv w a=>a),(λv w a=>a),(λv w a=>a),(λv w a=>a),(λv w a=>a),(λv w a=>a),(λv w a=>a),(λv w a=>a),(λv w a=>a),(λv w a=>a),(λv w a=>a),(λv w a=>a),(λv w a=>a),(λv w a=>a),(λv w a=>a),(λv w a=>a),(λv w a=>a),(λv w a=>a),(λv w a=>a),(λv w a=>a),(λv w a=>a),(λv w a=>a),(λv w a=>a),(λv w a=>a),(λv w a=>a),(λv w a=>a),(λv w a=>a),(λv w a=>a),(λv w a=>a),(λv w a=>a),(λv w a=>a),(λv w a=>a),rfl,trivial⟩
   ·refine⟨?_,?_,?_,?_,?_,?_,?_,?_,?_,?_,?_,?_,?_,?_,?_,?_,?_,?_,?_,?_,?_,?_,?_,?_,?_,?_,?_,?_,?_,?_,?_,?_,?_,?_,?_,?_,?_,?_,?_,?_,trivial⟩
    all_goals
     intro a1 c3 k d j;obtain⟨X,rfl⟩:=ae k;try (have c8:=ab d 0 6 zD rfl;simp[eqG] at c8)
     try (have c9:=ab d 1 7 zD rfl;simp[eqG] at c9)
     try (have d0:=ab d 2 8 zD rfl;simp[eqG] at d0)
     try (have k1:=ab d 4 10 zD rfl;simp[eqG] at k1)
     try (have k2:=ab d 5 11 zD rfl;simp[eqG] at k2)
     try (have k3:=ab d 6 12 zD rfl;simp[eqG] at k3)
     try (have s0:=ab d 8 14 zD rfl;simp[eqG] at s0)
     try (have p2:=ab d 10 16 zD rfl;simp[eqG] at p2)
     try (have p3:=ab d 11 17 zD rfl;simp[eqG] at p3)
     try (have s1:=ab d 9 15 zD rfl;simp[eqG] at s1)
     try (have b6:=ab d 12 18 zD rfl;simp[eqG] at b6)
     try (have r9:=ab d 7 13 zD rfl;simp[eqG] at r9)
     try (have p4:=ab d 13 19 zD rfl;simp[eqG] at p4)
     try (have p5:=ab d 14 20 zD rfl;simp[eqG] at p5)
     try (have p7:=ab d 16 22 zD rfl;simp[eqG] at p7)
     try (have p8:=ab d 17 23 zD rfl;simp[eqG] at p8)
     try (have p6:=ab d 15 21 zD rfl;simp[eqG] at p6)
     try (have p9:=ab d 18 24 zD rfl;simp[eqG] at p9)
     try (have q0:=ab d 19 25 zD rfl;simp[eqG] at q0)
     try (have q2:=ab d 21 27 zD rfl;simp[eqG] at q2)
     try (have q4:=ab d 23 29 zD rfl;simp[eqG] at q4)
     try (have q3:=ab d 22 28 zD rfl;simp[eqG] at q3)
     try (have q5:=ab d 24 30 zD rfl;simp[eqG] at q5)
     try (have q1:=ab d 20 26 zD rfl;simp[eqG] at q1)
     try (have q6:=ab d 25 31 zD rfl;simp[eqG] at q6)
     try (have q7:=ab d 26 32 zD rfl;simp[eqG] at q7)
     try (have q9:=ab d 28 34 zD rfl;simp[eqG] at q9)
     try (have r1:=ab d 30 36 zD rfl;simp[eqG] at r1)
     try (have r3:=ab d 32 38 zD rfl;simp[eqG] at r3)
     try (have r2:=ab d 31 37 zD rfl;simp[eqG] at r2)
     try (have r4:=ab d 33 39 zD rfl;simp[eqG] at r4)
     try (have r5:=ab d 34 40 zD rfl;simp[eqG] at r5)
     try (have r6:=ab d 35 41 zD rfl;simp[eqG] at r6)
     try (have r0:=ab d 29 35 zD rfl;simp[eqG] at r0)
     try (have r7:=ab d 36 42 zD rfl;simp[eqG] at r7)
     try (have q8:=ab d 27 33 zD rfl;simp[eqG] at q8)
     try (have r8:=ab d 37 43 zD rfl;simp[eqG] at r8)
     try (have d1:=ab d 3 9 zD rfl;simp[eqG] at d1)
     try (have k0:=ab d 38 44 zD rfl;simp[eqG] at k0)
     have d2:=ah j 3 zK;simp at d2;have k4:=ah j 2 zK;simp at k4;clear d j;exact zA
   intro a1 c3 Y;obtain⟨c4,rfl,k,a6,b⟩:=Y.fin (n:=77) rfl;obtain⟨X,rfl⟩:=ae k;have q:=b 0 zK;have u:=b 1 zK;have y:=b 2 zK;have r:=b 3 zK;have s:=b 4 zK;have t:=b 5 zK;have z:=b 46 zK;have A:=b 47 zK;have B:=b 48 zK;have C:=b 49 zK;have D:=b 50 zK;have E:=b 51 zK;have F:=b 52 zK;have G:=b 53 zK;have H:=b 54 zK;have I:=b 55 zK;have J:=b 56 zK;have K:=b 57 zK;have L:=b 58 zK;have M:=b 59 zK;have N:=b 60 zK;have O:=b 61 zK;have P:=b 62 zK;have Q:=b 63 zK;have R:=b 64 zK;have S:=b 65 zK;have T:=b 66 zK;have U:=b 67 zK;have V:=b 68 zK;have a9:=b 69 zK;have b0:=b 70 zK;have b1:=b 71 zK;have b2:=b 72 zK;have b3:=b 73 zK;have b4:=b 74 zK;have b5:=b 75 zK;have Z:=b 76 zK;have a3:c4 45=.bool false:=a6 39 45 rfl rfl;clear a6 b;simp at q u y r s t z A B C D E F G H I J K L M N O P Q R S T U V a9 b0 b1 b2 b3 b4 b5 Z;simp only[List.drop_succ_cons,List.drop_zero];simp[List.range,List.range.loop,q,u,y,r,s,t,z,A,B,C,D,E,F,G,H,I,J,K,L,M,N,O,P,Q,R,S,T,U,V,a9,b0,b1,b2,b3,b4,b5,Z,a3];clear q u y r s t z A B C D E F G H I J K L M N O P Q R S T U V a9 b0 b1 b2 b3 b4 b5 Z a3;clear e7 n0 k7 n1 n2 s4 n3 s5 n4 s3 l4 d4 f6 f7 b7 b8 b9 d6 f0 f1 d7 d8 d9 f2 e0;go_wp2_with fail
   generalize (some (⟨c0,c1,none⟩:Addr))=k6 at*
  case' neg=>
   have v0:(op==2)=false:=beq_eq_false_iff_ne.2 c;go_enter func27,ntmps27;go_wp2_with fail
   refine bD 40 (W:=i.w) (Ext) (eqG [.pointer (some ⟨m.w.heap.size,0,none⟩),.int .i64 op,.bool false,.bool false,undef,undef,undef,undef,undef,undef,undef,undef,undef,undef,undef,undef,undef,undef,undef,undef,undef,undef,undef,undef,undef,undef,undef,undef,undef,undef,undef,undef,undef,undef,undef,undef,undef,undef,undef,.bool false]) (λ_ _=>False) (λa7=>match a7 with|4|5|6|7|8|9|10|11|12|13|14|15|16|17|18|19|20|21|22|23|24|25|26|27|28|29|30|31|32|33|34|35|36|37|38=>false|_=>true) zK (bo) zK zK ?_ (af _) (λa7 v w d3 a p=>dz a p) ?_ (λa1 l2 w d c6=>c6.elim) ?_
   ·exact⟨rfl,rfl,rfl,rfl,(λv w a e=>by have c:=e.symm.trans a;cases c),(λv w a e=>by have c:=e.symm.trans a;cases c),(λv w a e=>by have c:=e.symm.trans a;cases c),(λv w a e=>by have c:=e.symm.trans a;cases c),(λv w a e=>by have c:=e.symm.trans a;cases c),(λv w a e=>by have c:=e.symm.trans a;cases c),(λv w a e=>by have c:=e.symm.trans a;cases c),(λv w a e=>by have c:=e.symm.trans a;cases c),(λv w a e=>by have c:=e.symm.trans a;cases c),(λv w a e=>by have c:=e.symm.trans a;cases c),(λv w a e=>by have c:=e.symm.trans a;cases c),(λv w a e=>by have c:=e.symm.trans a;cases c),(λv w a e=>by have c:=e.symm.trans a;cases c),(λv w a e=>by have c:=e.symm.trans a;cases c),(λv w a e=>by have c:=e.symm.trans a;cases c),(λv w a e=>by have c:=e.symm.trans a;cases c),(λv w a e=>by have c:=e.symm.trans a;cases c),(λv w a e=>by have c:=e.symm.trans a;cases c),(λv w a e=>by have c:=e.symm.trans a;cases c),(λv w a e=>by have c:=e.symm.trans a;cases c),(λv w a e=>by have c:=e.symm.trans a;cases c),(λv w a e=>by have c:=e.symm.trans a;cases c),(λv w a e=>by have c:=e.symm.trans a;cases c),(λv w a e=>by have c:=e.symm.trans a;cases c),(λv w a e=>by have c:=e.symm.trans a;cases c),(λv w a e=>by have c:=e.symm.trans a;cases c),(λv w a e=>by have c:=e.symm.trans a;cases c),(λv w a e=>by have c:=e.symm.trans a;cases c),(λv w a e=>by have c:=e.symm.trans a;cases c),(λv w a e=>by have c:=e.symm.trans a;cases c),(λv w a e=>by have c:=e.symm.trans a;cases c),(λv w a e=>by have c:=e.symm.trans a;cases c),(λv w a e=>by have c:=e.symm.trans a;cases c),(λv w a e=>by have c:=e.symm.trans a;cases c),(λv w a e=>by have c:=e.symm.trans a;cases c),rfl,trivial⟩
   ·refine⟨?_,?_,?_,?_,λw=>rfl,λw=>rfl,λw=>rfl,λw=>rfl,λw=>rfl,λw=>rfl,λw=>rfl,λw=>rfl,λw=>rfl,λw=>rfl,λw=>rfl,λw=>rfl,λw=>rfl,λw=>rfl,λw=>rfl,λw=>rfl,λw=>rfl,λw=>rfl,λw=>rfl,λw=>rfl,λw=>rfl,λw=>rfl,λw=>rfl,λw=>rfl,λw=>rfl,λw=>rfl,λw=>rfl,λw=>rfl,λw=>rfl,λw=>rfl,λw=>rfl,λw=>rfl,λw=>rfl,λw=>rfl,λw=>rfl,?_,trivial⟩
    all_goals
     intro a1 c3 k d j;obtain⟨X,rfl⟩:=ae k;try (have c8:=ab d 0 6 zD rfl;simp[eqG] at c8)
     try (have c9:=ab d 1 7 zD rfl;simp[eqG] at c9)
     try (have d0:=ab d 2 8 zD rfl;simp[eqG] at d0)
     try (have d1:=ab d 3 9 zD rfl;simp[eqG] at d1)
     try (have k0:=ab d 38 44 zD rfl;simp[eqG] at k0)
     have d2:=ah j 3 zK;simp at d2;clear d j;exact zA
   intro a1 c3 Y;obtain⟨c4,rfl,k,a6,b⟩:=Y.fin (n:=77) rfl;obtain⟨X,rfl⟩:=ae k;have q:=b 0 zK;have u:=b 1 zK;have y:=b 2 zK;have r:=b 3 zK;have s:=b 4 zK;have t:=b 5 zK;have z:=b 46 zK;have A:=b 47 zK;have B:=b 48 zK;have C:=b 49 zK;have D:=b 50 zK;have E:=b 51 zK;have F:=b 52 zK;have G:=b 53 zK;have H:=b 54 zK;have I:=b 55 zK;have J:=b 56 zK;have K:=b 57 zK;have L:=b 58 zK;have M:=b 59 zK;have N:=b 60 zK;have O:=b 61 zK;have P:=b 62 zK;have Q:=b 63 zK;have R:=b 64 zK;have S:=b 65 zK;have T:=b 66 zK;have U:=b 67 zK;have V:=b 68 zK;have a9:=b 69 zK;have b0:=b 70 zK;have b1:=b 71 zK;have b2:=b 72 zK;have b3:=b 73 zK;have b4:=b 74 zK;have b5:=b 75 zK;have Z:=b 76 zK;have a3:c4 45=.bool false:=a6 39 45 rfl rfl;clear a6 b;simp at q u y r s t z A B C D E F G H I J K L M N O P Q R S T U V a9 b0 b1 b2 b3 b4 b5 Z;simp only[List.drop_succ_cons,List.drop_zero];simp[List.range,List.range.loop,q,u,y,r,s,t,z,A,B,C,D,E,F,G,H,I,J,K,L,M,N,O,P,Q,R,S,T,U,V,a9,b0,b1,b2,b3,b4,b5,Z,a3];clear q u y r s t z A B C D E F G H I J K L M N O P Q R S T U V a9 b0 b1 b2 b3 b4 b5 Z a3;by_cases f4:op=3
   case' pos=>
    subst f4;obtain⟨e5,k5⟩:=e2 rfl;have e7:¬a0<0:=by omega
    have n0:decide (a0<0)=false:=decide_eq_false e7;have k7:¬(f.length:Int)<=a0:=by omega
    have n1:decide ((f.length:Int)<=a0)=false:=decide_eq_false k7;clear e1 e2 e5 k5 d4 f6 f7 b7 b8 b9 d6 f0 f1 d7 d8 d9 f2 e0;go_wp2_with fail
   case' neg=>
    have v1:(op==3)=false:=beq_eq_false_iff_ne.2 f4;clear e1 e2 d4 f6 f7 b7 b8 b9 d6 f0 f1 d7 d8 d9 f2 e0;go_wp2_with fail
  all_goals
   go_loopw [5] (λa7 wr=>∃g:Nat,g<=x.l.length/\a7=.int .i64 g/\Ext i.w wr) (λa7 _=>x.l.length - (intOf a7).toNat)
   case atStart=>exact⟨0,aA _,rfl,X.ext⟩
   case round=>
    obtain⟨g,Y,rfl,p⟩:=hrel;obtain⟨a2,rfl⟩:=ae p;by_cases g0:g<x.l.length
    ·obtain⟨l1,o,l3,rfl,c5,o5,a8⟩:=n6.o g g0;have d5:=Hd (e9.o.trans a2.ext);have n9:=Hd (λ(d3:World) (a:Ext a2.w d3)=>(l0.o g g0).1 d3 n5 _ k9 k8 l3 (n7.o.extG (d5.o.trans a) l5) (ad l5 (d5.o.trans a).size) p1 p0 (RE8.keep (d5.o.trans a).kp _ _ a8) (l0.o g g0).2);obtain⟨a4,m5⟩:∃a4,a4=x.l[g]:=⟨_,rfl⟩;rw[<-m5] at a8;obtain⟨u7,rfl,c7⟩:=RE8_iff.1 a8;have t9:=c7.oneCell;obtain⟨s8,s9,t0,t1,t2,t3,t4,t5⟩:=(c5.ext d5.o).later8;go_wp2_with fail
     have c2:=am c2 a2.ext;have m6:=am m6 a2.ext;have m7:=am m7 a2.ext;have m8:=am m8 a2.ext;clear c5 o5 a8 c7 m5 p;refine bD 8 (W:=a2.w) (Ext) (eqG [.agg #[.slice k6 f.length e6,k9,k8],.pointer (some ⟨m.w.heap.size,7,none⟩),.slice (some ⟨l1,o,none⟩) x.l.length m9,.int .i64 g,.pointer (some ⟨l1,o+g*8,none⟩),.agg #[.int .i64 a4.op,.int .i64 a4.w,.int .u64 a4.v,.int .i64 a4.sig,.int .i64 a4.hi,.int .i64 a4.lo,.int .i64 a4.n,u7],.bool true,.bool false]) (λ_ _=>False) (λ_=>true) zK (bo) zK zK ?_ (af _) (λa7 v w d3 a p=>dz a p) ?_ (λa1 l2 w d c6=>c6.elim) ?_
     ·exact⟨rfl,rfl,rfl,rfl,rfl,rfl,rfl,rfl,trivial⟩
     ·refine⟨?_,?_,?_,?_,?_,?_,?_,?_,trivial⟩;rotate_left 6
      ·intro a1 c3 k d j;obtain⟨X,rfl⟩:=ae k;have c8:=ab d 0 69 zK rfl;simp[eqG] at c8;have k2:=ab d 5 74 zK rfl;simp[eqG] at k2;clear d j;go_simp;refine(n9.o X.w X.ext).mono ?_;rintro _ v4 ⟨rfl,p⟩;go_simp;first|exact⟨_,rfl,p,rfl⟩|exact⟨p,rfl⟩|exact⟨_,rfl,rfl⟩|exact p
      all_goals
       intro a1 c3 k d j;obtain⟨X,rfl⟩:=ae k;try (have k3:=ab d 6 75 zD rfl;simp[eqG] at k3)
       try (have c9:=ab d 1 70 zD rfl;simp[eqG] at c9)
       try (have d0:=ab d 2 71 zD rfl;simp[eqG] at d0)
       try (have d1:=ab d 3 72 zD rfl;simp[eqG] at d1)
       try (have k1:=ab d 4 73 zD rfl;simp[eqG] at k1)
       have k4:=ah j 2 zK;simp at k4;have d2:=ah j 3 zK;simp at d2;have s2:=ah j 5 zK;simp at s2;clear d j;exact zA
     ·intro a1 c3 Y;obtain⟨c4,rfl,k,a6,b⟩:=Y.fin (n:=77) rfl;obtain⟨X,rfl⟩:=ae k;have q:=b 0 zK;have u:=b 1 zK;have y:=b 2 zK;have r:=b 3 zK;have s:=b 4 zK;have t:=b 5 zK;have j6:=b 6 zK;have c2:=b 7 zK;have j7:=b 8 zK;have j8:=b 9 zK;have g1:=b 10 zK;have g2:=b 11 zK;have g3:=b 12 zK;have g4:=b 13 zK;have g5:=b 14 zK;have g6:=b 15 zK;have g7:=b 16 zK;have g8:=b 17 zK;have g9:=b 18 zK;have h0:=b 19 zK;have h1:=b 20 zK;have h2:=b 21 zK;have h3:=b 22 zK;have h4:=b 23 zK;have h5:=b 24 zK;have h6:=b 25 zK;have h7:=b 26 zK;have h8:=b 27 zK;have h9:=b 28 zK;have i0:=b 29 zK;have i1:=b 30 zK;have i2:=b 31 zK;have i3:=b 32 zK;have i4:=b 33 zK;have i5:=b 34 zK;have i6:=b 35 zK;have i7:=b 36 zK;have i8:=b 37 zK;have i9:=b 38 zK;have j0:=b 39 zK;have j1:=b 40 zK;have j2:=b 41 zK;have j3:=b 42 zK;have j4:=b 43 zK;have j5:=b 44 zK;have a3:=b 45 zK;have z:=b 46 zK;have A:=b 47 zK;have B:=b 48 zK;have C:=b 49 zK;have D:=b 50 zK;have E:=b 51 zK;have F:=b 52 zK;have G:=b 53 zK;have H:=b 54 zK;have I:=b 55 zK;have J:=b 56 zK;have K:=b 57 zK;have L:=b 58 zK;have M:=b 59 zK;have N:=b 60 zK;have O:=b 61 zK;have P:=b 62 zK;have Q:=b 63 zK;have R:=b 64 zK;have S:=b 65 zK;have T:=b 66 zK;have U:=b 67 zK;have V:=b 68 zK;have Z:c4 76=.bool false:=a6 7 76 rfl rfl;clear a6 b;simp at q u y r s t j6 c2 j7 j8 g1 g2 g3 g4 g5 g6 g7 g8 g9 h0 h1 h2 h3 h4 h5 h6 h7 h8 h9 i0 i1 i2 i3 i4 i5 i6 i7 i8 i9 j0 j1 j2 j3 j4 j5 a3 z A B C D E F G H I J K L M N O P Q R S T U V;simp only[List.drop_succ_cons,List.drop_zero];simp[List.range,List.range.loop,q,u,y,r,s,t,j6,c2,j7,j8,g1,g2,g3,g4,g5,g6,g7,g8,g9,h0,h1,h2,h3,h4,h5,h6,h7,h8,h9,i0,i1,i2,i3,i4,i5,i6,i7,i8,i9,j0,j1,j2,j3,j4,j5,a3,z,A,B,C,D,E,F,G,H,I,J,K,L,M,N,O,P,Q,R,S,T,U,V,Z];clear q u y r s t j6 c2 j7 j8 g1 g2 g3 g4 g5 g6 g7 g8 g9 h0 h1 h2 h3 h4 h5 h6 h7 h8 h9 i0 i1 i2 i3 i4 i5 i6 i7 i8 i9 j0 j1 j2 j3 j4 j5 a3 z A B C D E F G H I J K L M N O P Q R S T U V Z;have n8:=Hd (a2.ext.trans X.ext);go_wp2_with fail
      go_roundw;case rel=>exact⟨g+1,zO,zN,n8.o⟩
      case measure=>simp[intOf];omega
    ·have o3:g=x.l.length:=by omega
     subst o3;go_wp2_with fail
     go_ret;exact⟨rfl,e9.o.trans a2.ext⟩
theorem varT(w:World)(d e f g h i:Value):∃a b:World,w.alloc (.cells #[.int .i64 0,.int .i64 0,.int .i64 0,.int .i64 0,.slice none 0 0,.slice none 0 0] 73)=a/\(a.cell? ⟨w.heap.size,0,none⟩=some (.int .i64 0)/\a.cell? ⟨w.heap.size,1,none⟩=some (.int .i64 0)/\a.cell? ⟨w.heap.size,2,none⟩=some (.int .i64 0)/\a.cell? ⟨w.heap.size,3,none⟩=some (.int .i64 0)/\a.cell? ⟨w.heap.size,4,none⟩=some (.slice none 0 0)/\a.cell? ⟨w.heap.size,5,none⟩=some (.slice none 0 0))/\
 (a.frozen? ⟨w.heap.size,0,none⟩=false/\a.frozen? ⟨w.heap.size,1,none⟩=false/\a.frozen? ⟨w.heap.size,2,none⟩=false/\a.frozen? ⟨w.heap.size,3,none⟩=false/\a.frozen? ⟨w.heap.size,4,none⟩=false/\a.frozen? ⟨w.heap.size,5,none⟩=false)/\
 (((((a.setCell ⟨w.heap.size,0,none⟩ d).setCell ⟨w.heap.size,1,none⟩ e).setCell ⟨w.heap.size,2,none⟩ f).setCell ⟨w.heap.size,3,none⟩ g).setCell ⟨w.heap.size,4,none⟩ h).setCell ⟨w.heap.size,5,none⟩ i=b/\Blk b w.heap.size 73 [d,e,f,g,h,i]/\Ext w b:=by
 obtain⟨a,j,k,c⟩:=aV w (.int .i64 0) (.int .i64 0) (.int .i64 0) (.int .i64 0) (.slice none 0 0) (.slice none 0 0) 73;refine⟨a,_,j.symm,c.get6,c.free6,rfl,c.store6 d e f g h i,?_⟩;exact(((((k.setCell (ac _) _).setCell (ac _) _).setCell (ac _) _).setCell (ac _) _).setCell (ac _) _).setCell (ac _) _
def kv(c:List Sg)(b:Bool)(l:List DT):Prop:=∀(w:World) (a:Nat) (h g f v:Value),Sl RSg w a 4 c h->a<=w.heap.size->g.oneCell'=true->f.oneCell'=true->SlT6 w l v->(∀d,d∈l->okT c b d)->Calls Tryz.prog 26 #[.agg #[h,g,f],v,.bool b] w λe i=>e=.returned (.bool true)/\Ext w i
theorem oA(d:List Sg)(w4:d.length<=1000)(f2:Bool)(l:List DT)(p3:∀x,x∈l->kv d f2 x.l)(p2:∀x,x∈l->aa nE x.e<=1000000000)(B1:l.length<=1000000000):kv d f2 l:=by
 intro w n6 B8 f9 f8 v h4 f3 r7 r6 q9 q4;obtain⟨B3,B4,rfl,q1⟩:=SlT.open_ q9;obtain⟨s4,f7,rfl,p8⟩:=eP h4;have t5:=Hd q1;have n9:=Hd h4;have g2:=Hd p8;have v0:=Hd p3;have t4:=Hd p2;have t7:=Hd q4;obtain⟨v5,p6,r0,p7⟩:=eS w (.slice s4 d.length f7) f9 f8 50;have w0:=p6.symm;have g5:=Hd r0;have t3:=Hd p7;clear q9 h4 q1 p8 p3 p2 q4 p6 r0 p7;go_enter func26,ntmps26;go_wp2_with fail
 go_loopw [7] (λe9 wr=>∃i:Nat,i<=l.length/\e9=.int .i64 i/\Ext v5 wr) (λe9 _=>l.length - (intOf e9).toNat)
 case atStart=>exact⟨0,aA _,rfl,af _⟩
 case round=>
  obtain⟨i,f4,rfl,f⟩:=hrel;obtain⟨j,w5⟩:∃j,j=wr:=⟨_,rfl⟩;subst w5;have v2:=Hd f;clear w0;by_cases f5:i<l.length
  ·obtain⟨A5,o,o3,rfl,q,i2,u⟩:=t5.o i f5;have o1:=Hd (v0.o l[i] (an f5));have q2:=t4.o l[i] (an f5);obtain⟨h7,i3,i4⟩:=okT_iff.1 (t7.o l[i] (an f5));obtain⟨x,r2⟩:∃x,x=l[i]:=⟨_,rfl⟩;rw[<-r2] at u o1 q2 h7 i3 i4;obtain⟨B7,t2,rfl,q6,i8⟩:=RT6_iff.1 u;obtain⟨A3,t0,rfl,q8⟩:=SlT.open_ q6;have B6:=i8.oneCell;have w2:=aw nE x.e mP;have B0:x.e.length<=1000000000:=by omega
   have n8:=Hd (λ(g:Nat) (i7:g<x.e.length)=>aq (rL d w4 x.e[g] (by have A8:=ay nE x.e x.e[g] (an i7);have A9:=fd x.e[g];omega)) (i3 x.e[g] (an i7)));have v1:=Hd q8;have t9:=Hd i8;have t8:=Hd i4;have n7:=Hd h7;obtain⟨op,i5⟩:∃k,k=x.op:=⟨_,rfl⟩;obtain⟨f0,i9⟩:∃k,k=x.sig:=⟨_,rfl⟩;obtain⟨hi,h8⟩:∃k,k=x.hi:=⟨_,rfl⟩;obtain⟨lo,i0⟩:∃k,k=x.lo:=⟨_,rfl⟩;rw[<-i5,<-i9,<-h8,<-i0] at q;have h6:op=1->0<=f0/\f0<d.length/\0<=lo/\lo<=hi/\hi<(aD d f0).w/\dg f2 (aD d f0).kind=true:=by rw[i5,i9,h8,i0];exact n7.o
   obtain⟨g6,g7,g8,g9,h0,h1⟩:=(q.ext (g5.o.trans f)).get6;obtain⟨A4,g4,p4,⟨r8,r9,s0,e3,s1,s2⟩,⟨o4,o5,o6,o7,o8,o9⟩,p5,h5,j0⟩:=varT j (.int .i64 op) (.int .i64 f0) (.int .i64 hi) (.int .i64 lo) (.slice A3 x.e.length t0) t2;have e4:=Hd (g5.o.trans (f.trans j0));have o2:=Hd (f.trans j0);obtain⟨d7,d8,d9,e0,e1,e2⟩:=h5.get6;obtain⟨y,z,A,B,p,C⟩:=h5.later6;obtain⟨d4,r4,r5⟩:=(t3.o.ext o2.o).later3;clear q i2 u q6 i8 q8 r2 q2 w2 i3 i4 h7 n7 i5 i9 h8 i0 f h5 j0;by_cases p1:op=1
   case' pos=>
    subst p1;obtain⟨s3,z6,w6,w7,n3,f6⟩:=h6 rfl;obtain⟨n,rfl⟩:=Int.eq_ofNat_of_zero_le s3;have q3:n<d.length:=by omega
    rw[gh q3] at n3 f6;obtain⟨e5,e6,q7,-,q⟩:=g2.o n q3;have o0:=Hd d4;rw[q7] at d4;obtain⟨v7,p0,v8,v9⟩:=(show Cells g4 e5 (e6+n*4) [.string d[n].name,.int .i64 d[n].w,.int .i64 d[n].kind,.int .u64 d[n].init] from q.ext e4.o).later4;obtain⟨h3,q0⟩:∃k,k=d[n].w:=⟨_,rfl⟩;obtain⟨gk,p9⟩:∃k,k=d[n].kind:=⟨_,rfl⟩;rw[<-q0] at n3 p0;rw[<-p9] at f6 v8;have s5:¬(n:Int)<0:=by omega
    have z8:decide ((n:Int)<0)=false:=decide_eq_false s5;have z9:¬d.length<=n:=by omega
    have A0:decide ((d.length:Int)<=(n:Int))=false:=decide_eq_false zO;have s6:¬lo<0:=by omega
    have A1:decide (lo<0)=false:=decide_eq_false s6;have s7:¬hi<lo:=by omega
    have A2:decide (hi<lo)=false:=decide_eq_false s7;have s8:¬h3<=hi:=by omega
    have z7:decide (h3<=hi)=false:=decide_eq_false s8;have t6:=Hd f6;clear h6 q q0 p9 v7 v9 s3 z6 w6 w7 n3 f6 q7;go_wp2_with fail
    refine bD 35 (W:=g4) (Ext) (eqG [.pointer (some ⟨j.heap.size,1,none⟩),.int .i64 n,.bool false,.bool false,.pointer (some ⟨j.heap.size,1,none⟩),.int .i64 n,.pointer (some ⟨w.heap.size,0,none⟩),.slice (some ⟨e5,e6,none⟩) d.length f7,.int .i64 d.length,.bool false,.bool false,.bool false,.pointer (some ⟨j.heap.size,3,none⟩),.int .i64 lo,.bool false,.bool false,.bool false,.pointer (some ⟨j.heap.size,3,none⟩),.int .i64 lo,.pointer (some ⟨j.heap.size,2,none⟩),.int .i64 hi,.bool false,.bool false,.bool false,.pointer (some ⟨j.heap.size,2,none⟩),.int .i64 hi,.pointer (some ⟨w.heap.size,0,none⟩),.slice (some ⟨e5,e6,none⟩) d.length f7,.pointer (some ⟨j.heap.size,1,none⟩),.int .i64 n,.pointer (some ⟨e5,e6+n*4,none⟩),.pointer (some ⟨e5,e6+n*4+1,none⟩),.int .i64 h3,.bool false,.bool false]) (λ_ _=>False) (λ_=>true) zK (bo) zK zK ?_ (af _) (λe9 v w g0 b f=>dz b f) ?_ (λd3 v6 w c i6=>i6.elim) ?_
    ·exact⟨rfl,rfl,rfl,rfl,(λv w b=>b),(λv w b=>b),(λv w b=>b),(λv w b=>b),(λv w b=>b),(λv w b=>b),rfl,rfl,(λv w b=>b),(λv w b=>b),(λv w b=>b),rfl,rfl,(λv w b=>b),(λv w b=>b),(λv w b=>b),(λv w b=>b),(λv w b=>b),rfl,rfl,(λv w b=>b),(λv w b=>b),(λv w b=>b),(λv w b=>b),(λv w b=>b),(λv w b=>b),(λv w b=>b),(λv w b=>b),(λv w b=>b),(λv w b=>b),rfl,trivial⟩
    ·refine⟨?_,?_,?_,?_,?_,?_,?_,?_,?_,?_,?_,?_,?_,?_,?_,?_,?_,?_,?_,?_,?_,?_,?_,?_,?_,?_,?_,?_,?_,?_,?_,?_,?_,?_,?_,trivial⟩
     all_goals
      intro d3 g1 r c m;obtain⟨t,rfl⟩:=ae r;try (have d7:=ab c 0 24 zD rfl;simp[eqG] at d7)
      try (have d8:=ab c 1 25 zD rfl;simp[eqG] at d8)
      try (have d9:=ab c 2 26 zD rfl;simp[eqG] at d9)
      try (have e1:=ab c 4 28 zD rfl;simp[eqG] at e1)
      try (have n4:=ab c 6 30 zD rfl;simp[eqG] at n4)
      try (have z2:=ab c 7 31 zD rfl;simp[eqG] at z2)
      try (have e2:=ab c 5 29 zD rfl;simp[eqG] at e2)
      try (have z3:=ab c 8 32 zD rfl;simp[eqG] at z3)
      try (have e0:=ab c 3 27 zD rfl;simp[eqG] at e0)
      try (have z4:=ab c 9 33 zD rfl;simp[eqG] at z4)
      try (have w8:=ab c 10 34 zD rfl;simp[eqG] at w8)
      try (have x0:=ab c 12 36 zD rfl;simp[eqG] at x0)
      try (have x1:=ab c 13 37 zD rfl;simp[eqG] at x1)
      try (have w9:=ab c 11 35 zD rfl;simp[eqG] at w9)
      try (have x2:=ab c 14 38 zD rfl;simp[eqG] at x2)
      try (have x3:=ab c 15 39 zD rfl;simp[eqG] at x3)
      try (have x5:=ab c 17 41 zD rfl;simp[eqG] at x5)
      try (have x7:=ab c 19 43 zD rfl;simp[eqG] at x7)
      try (have x6:=ab c 18 42 zD rfl;simp[eqG] at x6)
      try (have x8:=ab c 20 44 zD rfl;simp[eqG] at x8)
      try (have x4:=ab c 16 40 zD rfl;simp[eqG] at x4)
      try (have x9:=ab c 21 45 zD rfl;simp[eqG] at x9)
      try (have y0:=ab c 22 46 zD rfl;simp[eqG] at y0)
      try (have y2:=ab c 24 48 zD rfl;simp[eqG] at y2)
      try (have y4:=ab c 26 50 zD rfl;simp[eqG] at y4)
      try (have y6:=ab c 28 52 zD rfl;simp[eqG] at y6)
      try (have y5:=ab c 27 51 zD rfl;simp[eqG] at y5)
      try (have y7:=ab c 29 53 zD rfl;simp[eqG] at y7)
      try (have y8:=ab c 30 54 zD rfl;simp[eqG] at y8)
      try (have y9:=ab c 31 55 zD rfl;simp[eqG] at y9)
      try (have y3:=ab c 25 49 zD rfl;simp[eqG] at y3)
      try (have z0:=ab c 32 56 zD rfl;simp[eqG] at z0)
      try (have y1:=ab c 23 47 zD rfl;simp[eqG] at y1)
      try (have z1:=ab c 33 57 zD rfl;simp[eqG] at z1)
      have n5:=ah m 8 zK;simp at n5;have e3:=ah m 3 zK;simp at e3;clear c m;exact zA
    intro d3 g1 f4;obtain⟨h2,rfl,r,e7,a⟩:=f4.fin (n:=104) rfl;obtain⟨t,rfl⟩:=ae r;have y:=a 0 zK;have z:=a 1 zK;have A:=a 2 zK;have B:=a 3 zK;have p:=a 4 zK;have C:=a 5 zK;have X:=a 6 zK;have a8:=a 7 zK;have b9:=a 8 zK;have d0:=a 9 zK;have D:=a 10 zK;have I:=a 11 zK;have J:=a 12 zK;have K:=a 13 zK;have L:=a 14 zK;have M:=a 15 zK;have N:=a 16 zK;have O:=a 17 zK;have P:=a 18 zK;have Q:=a 19 zK;have R:=a 20 zK;have S:=a 21 zK;have T:=a 22 zK;have U:=a 23 zK;have V:=a 59 zK;have Y:=a 60 zK;have Z:=a 61 zK;have a0:=a 62 zK;have a1:=a 63 zK;have a2:=a 64 zK;have a3:=a 65 zK;have a4:=a 66 zK;have a5:=a 67 zK;have a6:=a 68 zK;have a7:=a 69 zK;have a9:=a 70 zK;have b0:=a 71 zK;have b1:=a 72 zK;have b2:=a 73 zK;have b3:=a 74 zK;have b4:=a 75 zK;have b5:=a 76 zK;have b6:=a 77 zK;have b7:=a 78 zK;have b8:=a 79 zK;have c0:=a 80 zK;have c1:=a 81 zK;have c2:=a 82 zK;have c3:=a 83 zK;have c4:=a 84 zK;have c5:=a 85 zK;have c6:=a 86 zK;have c7:=a 87 zK;have c8:=a 88 zK;have c9:=a 89 zK;have m6:=a 90 zK;have m7:=a 91 zK;have m8:=a 92 zK;have m9:=a 93 zK;have n0:=a 94 zK;have n1:=a 95 zK;have n2:=a 96 zK;have d6:=a 97 zK;have d1:=a 98 zK;have d2:=a 99 zK;have E:=a 100 zK;have F:=a 101 zK;have G:=a 102 zK;have H:=a 103 zK;have d5:h2 58=.bool false:=e7 34 58 rfl rfl;clear e7 a;simp at y z A B p C X a8 b9 d0 D I J K L M N O P Q R S T U V Y Z a0 a1 a2 a3 a4 a5 a6 a7 a9 b0 b1 b2 b3 b4 b5 b6 b7 b8 c0 c1 c2 c3 c4 c5 c6 c7 c8 c9 m6 m7 m8 m9 n0 n1 n2 d6 d1 d2 E F G H;simp only[List.drop_succ_cons,List.drop_zero];simp[List.range,List.range.loop,y,z,A,B,p,C,X,a8,b9,d0,D,I,J,K,L,M,N,O,P,Q,R,S,T,U,V,Y,Z,a0,a1,a2,a3,a4,a5,a6,a7,a9,b0,b1,b2,b3,b4,b5,b6,b7,b8,c0,c1,c2,c3,c4,c5,c6,c7,c8,c9,m6,m7,m8,m9,n0,n1,n2,d6,d1,d2,E,F,G,H,d5];clear y z A B p C X a8 b9 d0 D I J K L M N O P Q R S T U V Y Z a0 a1 a2 a3 a4 a5 a6 a7 a9 b0 b1 b2 b3 b4 b5 b6 b7 b8 c0 c1 c2 c3 c4 c5 c6 c7 c8 c9 m6 m7 m8 m9 n0 n1 n2 d6 d1 d2 E F G H d5;clear s5 z8 z9 A0 s6 A1 s7 A2 s8 z7 p0 g2 p4 r8 r9 s0 e3 s1 s2 o4 o5 o6 o7 o8 o9 p5 d7 d8 d9 e0 e1 e2 g6 g7 g8 g9 h0 h1;have e8:=t6.o;unfold dg at e8;cases f2;case' true=>
     have h9:gk=4:=by simpa using e8
     subst h9;clear e8;go_wp2_with fail
    case' false=>
     have h9:gk=3\/gk=2:=by simpa using e8
     clear e8;rcases h9 with rfl|rfl;all_goals go_wp2_with fail
    all_goals
     clear d4;have d4:=o0.o;clear o0
   case' neg=>
    have B5:(op==1)=false:=beq_eq_false_iff_ne.2 p1;clear h6 g2;go_wp2_with fail
    clear p4 r8 r9 s0 e3 s1 s2 o4 o5 o6 o7 o8 o9 p5 d7 d8 d9 e0 e1 e2 g6 g7 g8 g9 h0 h1
   all_goals
    go_loopw [10] (λj1 wr=>∃g:Nat,g<=x.e.length/\j1=.int .i64 g/\Ext g4 wr) (λj1 _=>x.e.length - (intOf j1).toNat)
    case atStart=>first|exact⟨0,aA _,rfl,t.ext⟩|exact⟨0,aA _,rfl,af _⟩
    case round=>
     obtain⟨g,i7,rfl,f⟩:=hrel;obtain⟨h,rfl⟩:=ae f;by_cases i1:g<x.e.length
     ·obtain⟨s9,t1,o3,rfl,q,i2,u⟩:=v1.o g i1;have f1:=Hd (e4.o.trans h.ext);have v3:=Hd (λ(g0:World) (b:Ext h.w g0)=>(n8.o g i1).1 g0 n6 _ f9 f8 o3 (n9.o.extG (f1.o.trans b) f3) (ad f3 (f1.o.trans b).size) r7 r6 (RE8.keep (f1.o.trans b).kp _ _ u) (n8.o g i1).2);obtain⟨s,r3⟩:∃s,s=x.e[g]:=⟨_,rfl⟩;rw[<-r3] at u;obtain⟨u7,rfl,q5⟩:=RE8_iff.1 u;have B2:=q5.oneCell;obtain⟨g6,g7,g8,g9,h0,h1,A6,A7⟩:=(q.ext f1.o).later8;go_wp2_with fail
      have p:=am p h.ext;have d4:=am d4 h.ext;have r4:=am r4 h.ext;have r5:=am r5 h.ext;clear q i2 u q5 r3 f;refine bD 8 (W:=h.w) (Ext) (eqG [.agg #[.slice s4 d.length f7,f9,f8],.pointer (some ⟨j.heap.size,4,none⟩),.slice (some ⟨s9,t1,none⟩) x.e.length t0,.int .i64 g,.pointer (some ⟨s9,t1+g*8,none⟩),.agg #[.int .i64 s.op,.int .i64 s.w,.int .u64 s.v,.int .i64 s.sig,.int .i64 s.hi,.int .i64 s.lo,.int .i64 s.n,u7],.bool true,.bool false]) (λ_ _=>False) (λ_=>true) zK (bo) zK zK ?_ (af _) (λe9 v w g0 b f=>dz b f) ?_ (λd3 v6 w c i6=>i6.elim) ?_
      ·exact⟨rfl,rfl,rfl,rfl,rfl,rfl,rfl,rfl,trivial⟩
      ·refine⟨?_,?_,?_,?_,?_,?_,?_,?_,trivial⟩;rotate_left 6
       ·intro d3 g1 r c m;obtain⟨t,rfl⟩:=ae r;have d7:=ab c 0 90 zK rfl;simp[eqG] at d7;have e2:=ab c 5 95 zK rfl;simp[eqG] at e2;clear c m;go_simp;refine(v3.o t.w t.ext).mono ?_;rintro _ C0 ⟨rfl,f⟩;go_simp;first|exact⟨_,rfl,f,rfl⟩|exact⟨f,rfl⟩|exact⟨_,rfl,rfl⟩|exact f
       all_goals
        intro d3 g1 r c m;obtain⟨t,rfl⟩:=ae r;try (have n4:=ab c 6 96 zD rfl;simp[eqG] at n4)
        try (have d8:=ab c 1 91 zD rfl;simp[eqG] at d8)
        try (have d9:=ab c 2 92 zD rfl;simp[eqG] at d9)
        try (have e0:=ab c 3 93 zD rfl;simp[eqG] at e0)
        try (have e1:=ab c 4 94 zD rfl;simp[eqG] at e1)
        have e3:=ah m 3 zK;simp at e3;have n5:=ah m 8 zK;simp at n5;have z5:=ah m 10 zK;simp at z5;clear c m;exact zA
      ·intro d3 g1 f4;obtain⟨h2,rfl,r,e7,a⟩:=f4.fin (n:=104) rfl;obtain⟨t,rfl⟩:=ae r;have y:=a 0 zK;have z:=a 1 zK;have A:=a 2 zK;have B:=a 3 zK;have p:=a 4 zK;have C:=a 5 zK;have X:=a 6 zK;have a8:=a 7 zK;have b9:=a 8 zK;have d0:=a 9 zK;have D:=a 10 zK;have I:=a 11 zK;have J:=a 12 zK;have K:=a 13 zK;have L:=a 14 zK;have M:=a 15 zK;have N:=a 16 zK;have O:=a 17 zK;have P:=a 18 zK;have Q:=a 19 zK;have R:=a 20 zK;have S:=a 21 zK;have T:=a 22 zK;have U:=a 23 zK;have j2:=a 24 zK;have j3:=a 25 zK;have j4:=a 26 zK;have j5:=a 27 zK;have j6:=a 28 zK;have j7:=a 29 zK;have j8:=a 30 zK;have j9:=a 31 zK;have k0:=a 32 zK;have k1:=a 33 zK;have k2:=a 34 zK;have k3:=a 35 zK;have k4:=a 36 zK;have k5:=a 37 zK;have k6:=a 38 zK;have k7:=a 39 zK;have k8:=a 40 zK;have k9:=a 41 zK;have l0:=a 42 zK;have l1:=a 43 zK;have l2:=a 44 zK;have l3:=a 45 zK;have l4:=a 46 zK;have l5:=a 47 zK;have l6:=a 48 zK;have l7:=a 49 zK;have l8:=a 50 zK;have l9:=a 51 zK;have m0:=a 52 zK;have m1:=a 53 zK;have m2:=a 54 zK;have m3:=a 55 zK;have m4:=a 56 zK;have m5:=a 57 zK;have d5:=a 58 zK;have V:=a 59 zK;have Y:=a 60 zK;have Z:=a 61 zK;have a0:=a 62 zK;have a1:=a 63 zK;have a2:=a 64 zK;have a3:=a 65 zK;have a4:=a 66 zK;have a5:=a 67 zK;have a6:=a 68 zK;have a7:=a 69 zK;have a9:=a 70 zK;have b0:=a 71 zK;have b1:=a 72 zK;have b2:=a 73 zK;have b3:=a 74 zK;have b4:=a 75 zK;have b5:=a 76 zK;have b6:=a 77 zK;have b7:=a 78 zK;have b8:=a 79 zK;have c0:=a 80 zK;have c1:=a 81 zK;have c2:=a 82 zK;have c3:=a 83 zK;have c4:=a 84 zK;have c5:=a 85 zK;have c6:=a 86 zK;have c7:=a 87 zK;have c8:=a 88 zK;have c9:=a 89 zK;have d1:=a 98 zK;have d2:=a 99 zK;have E:=a 100 zK;have F:=a 101 zK;have G:=a 102 zK;have H:=a 103 zK;have d6:h2 97=.bool false:=e7 7 97 rfl rfl;clear e7 a;simp at y z A B p C X a8 b9 d0 D I J K L M N O P Q R S T U j2 j3 j4 j5 j6 j7 j8 j9 k0 k1 k2 k3 k4 k5 k6 k7 k8 k9 l0 l1 l2 l3 l4 l5 l6 l7 l8 l9 m0 m1 m2 m3 m4 m5 d5 V Y Z a0 a1 a2 a3 a4 a5 a6 a7 a9 b0 b1 b2 b3 b4 b5 b6 b7 b8 c0 c1 c2 c3 c4 c5 c6 c7 c8 c9 d1 d2 E F G H;simp only[List.drop_succ_cons,List.drop_zero];simp[List.range,List.range.loop,y,z,A,B,p,C,X,a8,b9,d0,D,I,J,K,L,M,N,O,P,Q,R,S,T,U,j2,j3,j4,j5,j6,j7,j8,j9,k0,k1,k2,k3,k4,k5,k6,k7,k8,k9,l0,l1,l2,l3,l4,l5,l6,l7,l8,l9,m0,m1,m2,m3,m4,m5,d5,V,Y,Z,a0,a1,a2,a3,a4,a5,a6,a7,a9,b0,b1,b2,b3,b4,b5,b6,b7,b8,c0,c1,c2,c3,c4,c5,c6,c7,c8,c9,d1,d2,E,F,G,H,d6];clear y z A B p C X a8 b9 d0 D I J K L M N O P Q R S T U j2 j3 j4 j5 j6 j7 j8 j9 k0 k1 k2 k3 k4 k5 k6 k7 k8 k9 l0 l1 l2 l3 l4 l5 l6 l7 l8 l9 m0 m1 m2 m3 m4 m5 d5 V Y Z a0 a1 a2 a3 a4 a5 a6 a7 a9 b0 b1 b2 b3 b4 b5 b6 b7 b8 c0 c1 c2 c3 c4 c5 c6 c7 c8 c9 d1 d2 E F G H d6;have g3:=Hd (h.ext.trans t.ext);go_wp2_with fail
       go_roundw;case rel=>exact⟨g+1,zO,zN,g3.o⟩
       case measure=>simp[intOf];omega
     ·have w3:g=x.e.length:=by omega
      subst w3;have v4:=Hd (o1.o h.w n6 _ f9 f8 t2 (n9.o.extG (e4.o.trans h.ext) f3) (ad f3 (e4.o.trans h.ext).size) r7 r6 (SlT6.keep t9.o (e4.o.trans h.ext).kp) t8.o);clear f;go_wp2_with fail
      go_at_call 26;refine v4.o.mono ?_;rintro _ B9 ⟨rfl,r1⟩;have g3:=Hd (o2.o.trans (h.ext.trans r1));clear r1;go_wp2_with fail
      go_roundw;case rel=>exact⟨i+1,zO,zN,g3.o⟩
      case measure=>simp[intOf];omega
  ·have w1:i=l.length:=by omega
   subst w1;clear f;go_wp2_with fail
   go_ret;exact⟨rfl,g5.o.trans v2.o⟩
theorem Ay(c:List Sg)(f:c.length<=1000)(d:Bool)(x:DT):nT x<=1000000000->kv c d x.l:=by
 induction x using DT.ind with
 |h x ih=>
  intro i;have e:=fe x;have g:=aw nT x.l mQ;refine oA c f d x.l (λa b=>ih a b ?_) (λa b=>?_) zO
  ·have:=ay nT x.l a b;omega
  ·have:=ay nT x.l a b;have:=fe a;omega
theorem Ax(b:List Sg)(e:b.length<=1000)(c:Bool)(l:List DT)(g:aa nT l<=1000000000):kv b c l:=by
 have f:=aw nT l mQ;refine oA b e c l (λa d=>Ay b e c a ?_) (λa d=>?_) zO
 ·have:=ay nT l a d;omega
 ·have:=ay nT l a d;have:=fe a;omega
