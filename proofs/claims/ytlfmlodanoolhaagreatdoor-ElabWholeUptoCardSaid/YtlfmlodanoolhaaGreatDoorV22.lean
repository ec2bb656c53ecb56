import Derived.Test.YtlfmlodanoolhaaGreatDoorV21
set_option linter.all false
set_option maxRecDepth 200000
set_option maxHeartbeats 0
namespace Go.Proofs.YtlfmlodanoolhaaGreatDoor
open Go Go.RowKit Go.Proofs.Tryz
attribute [local go_sem] bc
theorem AP(n:SRow)(P:shapeRows[4]? =some n)(R of:ByteArray)(a0 a1 a2 a3 a4 a5:Option Addr)(G H I J K L:Nat)(i sl l k m bl:Nat)(i5:m+bl<=1000000000)
 (b1 b2 F ba bs bL be bp bb:Bool) (W:World) (d1:Tabs W) (i3:((i:Int)==n.x)=true) (i4:(0:Int)<i) (b o:Nat) (g2:a0=some ⟨b,o,none⟩) (z A B C D E:Value) (g9:z.oneCell'=true) (h0:A.oneCell'=true) (h1:B.oneCell'=true) (h2:C.oneCell'=true) (h3:D.oneCell'=true) (h4:E.oneCell'=true)
 (f:∀e:Later W,Cells e.w b o [z,A,B,C,D,E]) (b5:ECalls Tryz.prog 175 #[.agg #[z,A,B,C,D,E]] W (.bool F))
 (p:ECalls Tryz.prog 174 #[.string R,.bool n.name] W (.bool b1)) (q:ECalls Tryz.prog 174 #[.string of,.bool n.of] W (.bool b2))
 (y:ECalls Tryz.prog 173 #[.slice a0 i G,.func (.func 135) #[] #[]] W (.bool ba))
 (v:ECalls Tryz.prog 176 #[.slice a1 sl H,.func (.func 177) #[] #[]] W (.bool bs))
 (t:ECalls Tryz.prog 139 #[.slice a2 l I,.func (.func 140) #[] #[]] W (.bool bL))
 (s:ECalls Tryz.prog 139 #[.slice a3 k J,.func (.func 140) #[] #[]] W (.bool be))
 (u:ECalls Tryz.prog 136 #[.slice a4 m K,.func (.func 137) #[] #[]] W (.bool bp))
 (r:ECalls Tryz.prog 136 #[.slice a5 bl L,.func (.func 137) #[] #[]] W (.bool bb)):
 Calls Tryz.prog 140 #[.agg #[.int .i64 4,.string R,.string of,.slice a0 i G,.slice a1 sl H,.slice a2 l I,.slice a3 k J,.slice a4 m K,.slice a5 bl L]] W
  λe i1=>e=.returned (.bool (dP b1 b2 i n (decide (0<sl)) (decide (0<l)) (decide (0<k)) (decide ((0:Int)<(m:Int)+bl)) (F && ba) bs bL be bp bb))/\Ext W i1:=by
 obtain⟨V,X,Z,Y,U,T,S⟩:=n;subst g2;obtain⟨c9,O⟩:∃h,decide (0<sl)=h:=⟨_,rfl⟩;obtain⟨c8,N⟩:∃h,decide (0<l)=h:=⟨_,rfl⟩;obtain⟨c7,M⟩:∃h,decide (0<k)=h:=⟨_,rfl⟩;obtain⟨d8,d2⟩:∃h,decide ((0:Int)<(m:Int)+bl)=h:=⟨_,rfl⟩;have f8:decide ((0:Int)<(sl:Int))=c9:=by rw[<-O];simp
 have f7:decide ((0:Int)<(l:Int))=c8:=by rw[<-N];simp
 have f6:decide ((0:Int)<(k:Int))=c7:=by rw[<-M];simp
 obtain⟨d4,Q⟩:∃d4,d4=dP b1 b2 i ⟨V,X,Z,Y,U,T,S⟩ c9 c8 c7 d8 (F && ba) bs bL be bp bb:=⟨_,rfl⟩;rw[O,N,M,d2,<-Q];have b7:=Hd Q;clear Q;obtain⟨a6,a7,a8,a9,b0,b3,b4⟩:=Cells.later7 (d1.shapes 4 _ P);have f9:=Hd P;clear P d1;obtain⟨g,d0,f4,d,g0,b8,b9,c0,c1,c2,c3,c4,c5,c6⟩:=jb W (.int .i64 4) (.string R) (.string of) (.slice (some ⟨b,o,none⟩) i G) (.slice a1 sl H) (.slice a2 l I) (.slice a3 k J) (.slice a4 m K) (.slice a5 bl L) 37;have a6:∀e:Later g,e.w.cell? ⟨0,28,none⟩=some (.bool V):=am a6 d;have a7:∀e:Later g,e.w.cell? ⟨0,29,none⟩=some (.bool X):=am a7 d;have a8:∀e:Later g,e.w.cell? ⟨0,30,none⟩=some (.int .i64 Z):=am a8 d;have a9:∀e:Later g,e.w.cell? ⟨0,31,none⟩=some (.bool Y):=am a9 d;have b0:∀e:Later g,e.w.cell? ⟨0,32,none⟩=some (.bool U):=am b0 d;have b3:∀e:Later g,e.w.cell? ⟨0,33,none⟩=some (.bool T):=am b3 d;have b4:∀e:Later g,e.w.cell? ⟨0,34,none⟩=some (.bool S):=am b4 d;obtain⟨j,i2,f5,d3,g1,d9,e0,e1,e2,e3,e4,e5⟩:=kl d0.w (.bool V) (.bool X) (.int .i64 Z) (.bool Y) (.bool U) (.bool T) (.bool S) 221;have c:=d0.ext.trans d3;have d5:=am b8 c;have d6:=am b9 c;have d7:=am c0 c;have g3:=am c1 c;have g4:=am c2 c;have g5:=am c3 c;have g6:=am c4 c;have g7:=am c5 c;have g8:=am c6 c;have a:=d.trans c;have p:=Hd (p.later a);have q:=Hd (q.later a);have y:=Hd (y.later a);have v:=Hd (v.later a);have t:=Hd (t.later a);have s:=Hd (s.later a);have u:=Hd (u.later a);have r:=Hd (r.later a);have b6:=Hd (b5.later a);have h5:∀e:Later j,e.w.cell? ⟨b,o,none⟩=some z:=λe=>(f (e.under a)).get6.1
 have h6:∀e:Later j,e.w.cell? ⟨b,o+1,none⟩=some A:=λe=>(f (e.under a)).get6.2.1
 have h7:∀e:Later j,e.w.cell? ⟨b,o+2,none⟩=some B:=λe=>(f (e.under a)).get6.2.2.1
 have h8:∀e:Later j,e.w.cell? ⟨b,o+3,none⟩=some C:=λe=>(f (e.under a)).get6.2.2.2.1
 have h9:∀e:Later j,e.w.cell? ⟨b,o+4,none⟩=some D:=λe=>(f (e.under a)).get6.2.2.2.2.1
 have i0:∀e:Later j,e.w.cell? ⟨b,o+5,none⟩=some E:=λe=>(f (e.under a)).get6.2.2.2.2.2
 clear b5 f
 rename_i e6 e7 f3 f2 f0 e9 f1 e8
 clear e6 e7 f3 f2 f0 e9 f1 e8 d d3 c g0 g1 b9 c0 c1 c2 c3 c4 c5 c6
 go_in
 go_wp2_with (first
  |(go_at_call 174;with_reducible refine(p.o.at_ _).mono ?_;rintro _ _ ⟨rfl,e,rfl⟩)
  |(go_at_call 174;with_reducible refine(q.o.at_ _).mono ?_;rintro _ _ ⟨rfl,e,rfl⟩)
  |(go_at_call 175;with_reducible refine(b6.o.at_ _).mono ?_;rintro _ _ ⟨rfl,e,rfl⟩)
  |(go_at_call 173;with_reducible refine(y.o.at_ _).mono ?_;rintro _ _ ⟨rfl,e,rfl⟩)
  |(go_at_call 176;with_reducible refine(v.o.at_ _).mono ?_;rintro _ _ ⟨rfl,e,rfl⟩)
  |(go_at_call 139;with_reducible refine(t.o.at_ _).mono ?_;rintro _ _ ⟨rfl,e,rfl⟩)
  |(go_at_call 139;with_reducible refine(s.o.at_ _).mono ?_;rintro _ _ ⟨rfl,e,rfl⟩)
  |(go_at_call 136;with_reducible refine(u.o.at_ _).mono ?_;rintro _ _ ⟨rfl,e,rfl⟩)
  |(go_at_call 136;with_reducible refine(r.o.at_ _).mono ?_;rintro _ _ ⟨rfl,e,rfl⟩))
 all_goals
  go_ret;refine⟨?_,a.trans (ag _)⟩;rw[b7.o];refine congrArg (λb=>Ending.returned (Value.bool b)) ?_;clear O N M d2 f8 f7 f6;clear h5 h6 h7 h8 h9 i0 b6 g9 h0 h1 h2 h3 h4;clear b7 p q y v t s u r b8 d5 d6 d7 d9 e0 e1 e2 e3 e4 e5 g3 g4 g5 g6 g7 g8 f4 f5 f9 a6 a7 a8 a9 b0 b3 b4 a;unfold dP
  simp_all
  try omega
