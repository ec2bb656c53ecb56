import Derived.Test.YtlfmlodanoolhaaGreatDoorY38
set_option linter.all false
set_option maxRecDepth 200000
set_option maxHeartbeats 32000000
namespace Go.Proofs.YtlfmlodanoolhaaGreatDoor
open Go Go.RowKit Go.Proofs.Tryz
attribute [local go_sem] bc
theorem tP{env:List (ByteArray×Int)}{s:ByteArray}{z:Int}:bw env s=some z->∃b,b∈env/\b.2=z:=by
 refine uu (P:=λenv=>bw env s=some z->∃b,b∈env/\b.2=z) (λa=>by cases a) (λl c f a=>?_) env;rw[mC] at a;split at a
 ·injection a with a;exact⟨c,y2n.2 (.inr (y2m.2 rfl)),a⟩
 ·obtain⟨b,d,e⟩:=f a;exact⟨b,y2n.2 (.inl d),e⟩
theorem uW(a5:World)(B N0 mb sb mp:Nat)(d0 h7 d1 c9 J:Value)(m:Mk)(s:Sc)(x:X)(b5:List Value)(w:World)(c2:Cx a5 B w)(a6:XOk a5 B x b5)(h:MkI w N0 mb d0 h7 d1 c9 m)(O:ScI w sb mp J s)(L:Good m.d.sigs s)(C:x.op=2):
 bj Tryz.prog 150 #[.pointer (some ⟨mb,0,none⟩),.pointer (some ⟨sb,0,none⟩),.agg b5.toArray] w (aA m.d.sigs s x) (cb w) (Ext w):=by
 have d4:=Hd c2;have d8:=Hd a6;have d6:=Hd h;have b2:=Hd O;have d5:=Hd L;have g2:=L.env;obtain⟨h8,rfl,b7⟩:=RX_iff.1 a6.rx;have j3:=b7.oneCell;have y:=Hd (show aA m.d.sigs s x=(match bw s.env x.name with|some v=>.ok (bq 0 v,1)|none=>(do let b1<-ci m.d.sigs s x;return(fq b1,1))) by rw[eo];unfold dU;rw[if_neg zO,if_pos C];cases bw s.env x.name<;>rfl);obtain⟨a,b8,G,c0⟩:=aW w (.int .i64 2) (.string x.name) (.int .i64 x.n) (.int .i64 x.w) (.int .u64 x.v) h8 40;obtain⟨K,b9,H,c1⟩:=bI a (.int .i64 0) (.int .i64 0) (.int .u64 0) (.int .i64 0) (.int .i64 0) (.int .i64 0) (.int .i64 0) (.slice none 0 0) (.int .i64 0) 203;have i8:=b8.symm;have b:w.heap.size<=a.heap.size:=G.size;obtain⟨i0,i1,i2,i3,i4,i5⟩:=(c0.ext H).later6;obtain⟨e0,c4⟩:=ae (W:=K) (w:=K) (ah _);have i9:=b9.symm.trans c4;have z:=Hd (G.trans H);have h9:=cellAt ((G.trans H).at_ (h.blk.cell 0));have j6:∀e:Later K,e.w.cell? ⟨sb,0,none⟩=some J:=cellAt ((G.trans H).at_ (O.blk.cell 0));have j4:=O.env.oneCell;have a1:=Hd c1;have b4:=Hd (λ(q:World) (D:Ext w q)=>yj q.heap.size s.env x.name q J ((SlT.keep b2.o.env (.inr (.inr rfl)) D.kp (λ_ _ _ h=>h)).sl) (ac _) zO);have b3:=Hd (λ(q:World) (D:Ext w q)=>ky a5 B N0 mb sb mp d0 _ d1 c9 J m s x _ q (d4.o.later D) d8.o (d6.o.ext D) (b2.o.ext D) d5.o (λg3=>absurd C g3));rw[C] at b3;obtain⟨f,M⟩:∃f,f=bw s.env x.name:=⟨_,rfl⟩;rw[<-M] at b4 y;have M:∀g,f=some g->0<=g/\g<=9223372036854775807:=λg c8=>by
  obtain⟨g5,a8,g4⟩:=tP (M.symm.trans c8);have b6:=L.const g5 a8;rw[g4] at b6;unfold bF at b6;omega
 clear c4 b8 b9 G H c0 c1 b7 a6 h O L c2 g2;have j0:=@hmf_ Tryz.prog;rw[C];clear C h9
 go_enter_defers func150,ntmps150
 go_wp2_with fail
 refine bT 12 (W:=K) (Ext) (eqG [.pointer (some ⟨sb,0,none⟩),.pointer (some ⟨sb,0,none⟩),.pointer (some ⟨sb,0,none⟩),J,.pointer (some ⟨w.heap.size,1,none⟩),.string x.name,.tuple #[.int .i64 (f.getD 0),.bool f.isSome],.tuple #[.int .i64 (f.getD 0),.bool f.isSome],.int .i64 (f.getD 0),.bool f.isSome,.int .i64 (f.getD 0),.bool f.isSome]) (λ_ _=>False) (λ_=>true) zK (bG) zK zK ?_ (af e0) (λj2 v w q h E=>eU h E) ?_ (λr i6 w c a8=>a8.elim) ?_
 ·exact⟨rfl,rfl,rfl,rfl,rfl,rfl,rfl,rfl,rfl,rfl,rfl,rfl,trivial⟩
 ·refine⟨?_,?_,?_,?_,?_,?_,?_,?_,?_,?_,?_,?_,trivial⟩;rotate_left 6
  ·intro r d3 I c A;obtain⟨j,rfl⟩:=ae I;have g9:=aa c 3 39 zK rfl;simp[eqG] at g9;have h1:=aa c 5 41 zK rfl;simp[eqG] at h1;clear c A;go_simp;refine(b4.o j.w (z.o.trans j.ext)).mono ?_;rintro _ j5 ⟨rfl,E⟩;go_simp;first|exact⟨_,rfl,E,rfl⟩|exact⟨E,rfl⟩|exact⟨E,_,rfl,rfl⟩|exact⟨_,rfl,rfl⟩
  all_goals
   intro r d3 I c A;obtain⟨j,rfl⟩:=ae I;try (have g6:=aa c 0 36 zD rfl;simp[eqG] at g6)
   try (have g7:=aa c 1 37 zD rfl;simp[eqG] at g7)
   try (have g8:=aa c 2 38 zD rfl;simp[eqG] at g8)
   try (have h0:=aa c 4 40 zD rfl;simp[eqG] at h0)
   try (have h2:=aa c 6 42 zD rfl;simp[eqG] at h2)
   try (have h3:=aa c 7 35 zD rfl;simp[eqG] at h3)
   try (have h4:=aa c 8 43 zD rfl;simp[eqG] at h4)
   try (have h5:=aa c 9 44 zD rfl;simp[eqG] at h5)
   have u:=ag A 1 zK;simp at u;have h6:=ag A 5 zK;simp at h6;clear c A;exact zA
 ·intro r d3 g1;obtain⟨I,c7,c3,a7,p⟩:=g1;obtain⟨j,rfl⟩:=ae I;have P:=ag p 0 zK;simp at P;have Q:=ag p 1 zK;simp at Q;have U:=ag p 2 zK;simp at U;have V:=ag p 5 zK;simp at V;have Y:=ag p 6 zK;simp at Y;have R:=ag p 14 zK;simp at R;have S:=ag p 15 zK;simp at S;have T:=ag p 16 zK;simp at T;have a9:r.tmps.getD 7 undef=.int .i64 (f.getD 0):=a7 10 7 rfl rfl;have b0:r.tmps.getD 8 undef=.bool f.isSome:=a7 11 8 rfl rfl;clear a7 p;rw[el c7 c3];obtain⟨i7,c6,c5⟩:=tmpsF r;simp only[c6,c5] at P Q U V Y R S T a9 b0⊢;simp only[List.drop_succ_cons,List.drop_zero];simp[List.range,List.range.loop,P,Q,U,V,Y,R,S,T,a9,b0];clear P Q U V Y R S T a9 b0 c7 c3;clear c6 c5;cases f with
  |none=>
   simp only[Option.getD_none,Option.isSome_none] at*;go_wp2_with fail
   go_at_call 183;refine(b3.o _ (z.o.trans (af _))).mono ?_;rintro e d2 (⟨b1,v,N,rfl,rfl,t⟩|⟨d9,N,rfl,t⟩);rotate_left
   ·have f9:=(a1.o.ext ((af j).trans t)).cell 8;have d7:=Hd (show RunsP (aA m.d.sigs s x) (cb w) (Ext w) (.panicked (aN d9)) d2 from .no (by rw[y.o,N];rfl) ((z.o.trans (af _)).trans t));exact fc (by simpa using f9) zD d7.o
   obtain⟨u,Z,a0⟩:=b1;have a3:=Hd (show aA m.d.sigs s x=.ok (fq (u,Z,a0),1) by rw[y.o,N];rfl);have l:=a1.o.ext ((af j).trans t);have F:=(z.o.trans (af _)).trans t;obtain⟨f0,f1,f2,f3,f4,f5,f6,f7,f8⟩:=l.get9;obtain⟨e1,e2,e3,e4,e5,e6,e7,e8,e9⟩:=l.free9;obtain⟨i,k⟩:∃i,i=((((((((d2.setCell ⟨a.heap.size,0,none⟩ (.int .i64 2)).setCell ⟨a.heap.size,1,none⟩ (.int .i64 0)).setCell ⟨a.heap.size,2,none⟩ (.int .u64 0)).setCell ⟨a.heap.size,3,none⟩ (.int .i64 u)).setCell ⟨a.heap.size,4,none⟩ (.int .i64 Z)).setCell ⟨a.heap.size,5,none⟩ (.int .i64 a0)).setCell ⟨a.heap.size,6,none⟩ (.int .i64 0)).setCell ⟨a.heap.size,7,none⟩ (.slice none 0 0)).setCell ⟨a.heap.size,8,none⟩ (.int .i64 1):=⟨_,rfl⟩;have g0:=k.symm;have a2:=Hd (show Blk i a.heap.size 203 [.int .i64 2,.int .i64 0,.int .u64 0,.int .i64 u,.int .i64 Z,.int .i64 a0,.int .i64 0,.slice none 0 0,.int .i64 1] by rw[k];exact l.store9 _ _ _ _ _ _ _ _ _);have a4:=Hd (show Ext w i by rw[k];exact((((((((F.setCell b _).setCell b _).setCell b _).setCell b _).setCell b _).setCell b _).setCell b _).setCell b _).setCell b _);clear t F l k N;go_wp2_with fail
   refine fu rfl a2.o (λ_=>?_) (λh=>absurd zD h);exact .ok a3.o ⟨[.int .i64 2,.int .i64 0,.int .u64 0,.int .i64 u,.int .i64 Z,.int .i64 a0,.int .i64 0,.slice none 0 0],rfl,RE9.leaf _ _ _ _ _ _ _,a4.o,(show(0:Int)<=1 by decide),(show(1:Int)<=65537 by decide)⟩
  |some g=>
   simp only[Option.getD_some,Option.isSome_some] at*;have c8:=M g rfl;have l:=a1.o.ext (af j);have F:=z.o.trans (af j);have a3:=Hd (show aA m.d.sigs s x=.ok (bq 0 g,1) from y.o);obtain⟨f0,f1,f2,f3,f4,f5,f6,f7,f8⟩:=l.get9;obtain⟨e1,e2,e3,e4,e5,e6,e7,e8,e9⟩:=l.free9;obtain⟨i,k⟩:∃i,i=((((((((j.w.setCell ⟨a.heap.size,0,none⟩ (.int .i64 1)).setCell ⟨a.heap.size,1,none⟩ (.int .i64 0)).setCell ⟨a.heap.size,2,none⟩ (.int .u64 g)).setCell ⟨a.heap.size,3,none⟩ (.int .i64 0)).setCell ⟨a.heap.size,4,none⟩ (.int .i64 0)).setCell ⟨a.heap.size,5,none⟩ (.int .i64 0)).setCell ⟨a.heap.size,6,none⟩ (.int .i64 0)).setCell ⟨a.heap.size,7,none⟩ (.slice none 0 0)).setCell ⟨a.heap.size,8,none⟩ (.int .i64 1):=⟨_,rfl⟩;have g0:=k.symm;have a2:=Hd (show Blk i a.heap.size 203 [.int .i64 1,.int .i64 0,.int .u64 g,.int .i64 0,.int .i64 0,.int .i64 0,.int .i64 0,.slice none 0 0,.int .i64 1] by rw[k];exact l.store9 _ _ _ _ _ _ _ _ _);have a4:=Hd (show Ext w i by rw[k];exact((((((((F.setCell b _).setCell b _).setCell b _).setCell b _).setCell b _).setCell b _).setCell b _).setCell b _).setCell b _);clear F l k y;have j1:g<=18446744073709551615:=by omega
   go_wp2_with fail
   refine fu rfl a2.o (λ_=>?_) (λh=>absurd zD h);exact .ok a3.o ⟨[.int .i64 1,.int .i64 0,.int .u64 g,.int .i64 0,.int .i64 0,.int .i64 0,.int .i64 0,.slice none 0 0],rfl,RE9.leaf _ _ _ _ _ _ _,a4.o,(show(0:Int)<=1 by decide),(show(1:Int)<=65537 by decide)⟩
def ca(g h j:Nat)(c:Rs Int)(f:Int->Value)(k:Int->Rs (DE×Int))(W:World)(vals:List Value)(i:Nat)(v:Value)(w:World):Prop:=
 if i=g then∃a,c=.ok a/\v=.int .i64 a
 else if i=h then∃a,c=.ok a/\v=f a
 else if i=j then∃a b d,c=.ok a/\k a=.ok b/\v=.agg (d++[.int .i64 b.2]).toArray/\RE9 (λe=>W.heap.size<=e) w b.1 d/\0<=b.2/\b.2<=65537
 else v=vals.getD i undef
theorem oP{a b c:Nat}{e:Rs Int}{f:Int->Value}{d:Int->Rs (DE×Int)}{W:World}{vals:List Value}{i:Nat}{v:Value}{w g:World}(h:ca a b c e f d W vals i v w)(q:Ext w g):ca a b c e f d W vals i v g:=by
 unfold ca at h⊢;split
 ·rename_i hi;rw[if_pos hi] at h;exact h
 ·rename_i hi
  rw[if_neg hi] at h;split
  ·rename_i hi;rw[if_pos hi] at h;exact h
  ·rename_i hi
   rw[if_neg hi] at h;split
   ·rename_i hi
    rw[if_pos hi] at h;obtain⟨j,r,k,l,m,n,o,p⟩:=h;exact⟨j,r,k,l,m,n,o.ext q,p⟩
   ·rename_i hi;rw[if_neg hi] at h;exact h
def expP(e:Rs Int)(d:Int->Rs (DE×Int))(W:World)(c:List PanicEntry)(w:World):Prop:=∃b,(do let a<-e;d a)=.error b/\c=aN b/\Ext W w
theorem ja{a:DE×Int}(h:a.2<=65536):dD a=.ok a:=by unfold dD;rw[if_pos h]
theorem jl{a:DE×Int}(h:¬a.2<=65536):dD a=.error 2:=by unfold dD;rw[if_neg h]
theorem uY(P:World)(B N0 mb sb mp:Nat)(h3 h5 h4 h2 e5:Value)(m:Mk)(s:Sc)(x:X)(A:List Value)(w:World)(d1:Cx P B w)(c8:XOk P B x A)(h:MkI w N0 mb h3 h5 h4 h2 m)(e1:ScI w sb mp e5 s)(a7:x.op=4)(d5:x.l.length<=1000000000)
 (d4:∀i,i∈x.l->∀(q:World) (A:List Value),Ext w q->RX P B i A->bj Tryz.prog 150 #[.pointer (some ⟨mb,0,none⟩),.pointer (some ⟨sb,0,none⟩),.agg A.toArray] q (aA m.d.sigs s i) (cb q) (Ext q)):
 bj Tryz.prog 150 #[.pointer (some ⟨mb,0,none⟩),.pointer (some ⟨sb,0,none⟩),.agg A.toArray] w (aA m.d.sigs s x) (cb w) (Ext w):=by
 have b9:=Hd d1;have f1:=Hd e1;have e9:=Hd d4;obtain⟨b4,rfl,a3⟩:=RX_iff.1 c8.rx;have e7:=Hd a3;have l0:=a3.oneCell;obtain⟨H,a9⟩:∃H,H=dY s x.name:=⟨_,rfl⟩;obtain⟨U,a4⟩:∃U,U=aA m.d.sigs s:=⟨_,rfl⟩;obtain⟨G,a8⟩:∃G:Int->Rs (DE×Int),G=λf=>(do let z<-cP (x.l.map U) 1;return(DE.mk 3 0 0 f 0 0 0 z.1,z.2)):=⟨_,rfl⟩
 have V:=Hd (show aA m.d.sigs s x=(do let i<-(do let f<-H;G f);dD i) by
  rw[eo,a8,a9,a4];unfold dU;rw[if_neg zO,if_neg zO,if_neg zO,if_pos a7];cases dY s x.name with
  |error e=>rfl
  |ok f=>
   simp only[bind,Except.bind,pure,Except.pure];cases cP (x.l.map (aA m.d.sigs s)) 1<;>rfl)
 obtain⟨b,c6,b0,c9⟩:=aW w (.int .i64 4) (.string x.name) (.int .i64 x.n) (.int .i64 x.w) (.int .u64 x.v) b4 40;obtain⟨D,c7,b1,d0⟩:=bI b (.int .i64 0) (.int .i64 0) (.int .u64 0) (.int .i64 0) (.int .i64 0) (.int .i64 0) (.int .i64 0) (.slice none 0 0) (.int .i64 0) 203;have k5:=c6.symm;have u:w.heap.size<=b.heap.size:=b0.size;obtain⟨h8,h9,i0,i1,i2,i3⟩:=(c9.ext b1).later6;obtain⟨f3,d3⟩:=ae (W:=D) (w:=D) (ah _);have k6:=c7.symm.trans d3;have J:=Hd (b0.trans b1);have b8:=Hd d0;have c3:=Hd (λ(q:World) (Q:Ext w q)=>lT sb mp e5 s x.name q (f1.o.ext Q));have c4:=Hd (λ(f:Int) (q:World) (Q:Ext w q)=>ku P B (.pointer (some ⟨mb,0,none⟩)) (.pointer (some ⟨sb,0,none⟩)) (aA m.d.sigs s) 3 0 0 f 0 0 0 x.l b4 q e7.o b9.o.hB (b9.o.ext.trans Q) d5 (λi b2 h6 A f4 f5=>e9.o i b2 h6 A (Q.trans f4) f5));rw[<-a4] at c4;rw[<-a9] at c3;have c5:=Hd (λ(f:Int)=>congrFun a8 f);clear d3 c6 c7 b0 b1 c9 d0 a3 c8 h e1 d1 d5 d4 a9 a4 a8;have k8:=@hmf_ Tryz.prog;rw[a7];clear a7
 go_enter_defers func150,ntmps150
 go_wp2_with fail
 refine bT 10 (W:=D) (Ext) (ca 5 6 9 H (λf=>.agg #[.int .i64 3,.int .i64 0,.int .u64 0,.int .i64 f,.int .i64 0,.int .i64 0,.int .i64 0,.slice none 0 0]) G D [.pointer (some ⟨mb,0,none⟩),.pointer (some ⟨sb,0,none⟩),.pointer (some ⟨sb,0,none⟩),.pointer (some ⟨w.heap.size,1,none⟩),.string x.name,undef,undef,.pointer (some ⟨w.heap.size,5,none⟩),b4,undef]) (expP H G D) (λ_=>true) zK (bG) zK zK ?_ (af f3) (λk9 v w q h R=>oP h R) ?_ (λC i4 h7 c f8=>by
  obtain⟨j,k,rfl,R⟩:=f8;obtain⟨l1,i5⟩:=C;simp only at c;subst c;have f6:=(b8.o.ext R).cell 8;have f0:=Hd (show RunsP (aA m.d.sigs s x) (cb w) (Ext w) (.panicked (aN j)) h7 from .no (by rw[V.o,k];rfl) (J.o.trans R));exact fc (by simpa using f6) zD f0.o) ?_
 ·exact⟨rfl,rfl,rfl,rfl,rfl,rfl,rfl,rfl,rfl,rfl,trivial⟩
 ·refine⟨?_,?_,?_,?_,?_,?_,?_,?_,?_,?_,trivial⟩;rotate_left 5
  ·intro C T y c r;obtain⟨g,rfl⟩:=ae y;have g1:=aa c 2 65 zK rfl;simp[ca] at g1;have g3:=aa c 4 67 zK rfl;simp[ca] at g3;clear c r;go_simp;refine(c3.o g.w (J.o.trans g.ext)).mono ?_;rintro e e6 (⟨f,h1,k,rfl,rfl,rfl⟩|⟨j,k,rfl,rfl⟩);rotate_left
   ·exact⟨rfl,j,by rw[k];rfl,rfl,g.ext⟩
   have Y:=Hd k;clear k;go_simp;first|exact⟨_,rfl,ah _,f,Y.o,rfl⟩|exact⟨ah _,f,Y.o,rfl⟩|exact⟨_,rfl,f,Y.o,rfl⟩
  ·intro C T y c r;obtain⟨g,rfl⟩:=ae y;obtain⟨a2,d8,g4⟩:=aa c 5 68 zK rfl;simp at g4;have a0:=Hd d8;clear d8;clear c r;go_simp;first|exact⟨_,rfl,ah _,a2,a0.o,rfl⟩|exact⟨ah _,a2,a0.o,rfl⟩|exact⟨_,rfl,a2,a0.o,rfl⟩
  rotate_left 2
  ·intro C T y c r;obtain⟨g,rfl⟩:=ae y;have f9:=aa c 0 63 zK rfl;simp[ca] at f9;have g0:=aa c 1 64 zK rfl;simp[ca] at g0;obtain⟨E,d9,g5⟩:=aa c 6 69 zK rfl;simp at g5;have O:=Hd d9;clear d9;have g7:=aa c 8 71 zK rfl;simp[ca] at g7;clear c r;go_simp;refine(c4.o E g.w (J.o.trans g.ext)).mono ?_;rintro e e6 (⟨i,h1,k,rfl,j,rfl,F,S,M,N⟩|⟨j,k,rfl,S⟩);rotate_left
   ·exact⟨rfl,j,by rw[O.o];exact(c5.o E).trans k,rfl,g.ext.trans S⟩
   have a1:=Hd (an (F.imp (λt _ a5=>ad g.ext.size a5):RE9 (λt=>D.heap.size<=t) e6 i.1 j) (an M N));have Z:=Hd ((c5.o E).trans k);clear F k M N;go_simp;first|exact⟨_,rfl,S,E,i,j,O.o,Z.o,rfl,a1.o⟩|exact⟨S,E,i,j,O.o,Z.o,rfl,a1.o⟩|exact⟨_,rfl,E,i,j,O.o,Z.o,rfl,a1.o⟩
  all_goals
   intro C T y c r;obtain⟨g,rfl⟩:=ae y;try (have g2:=aa c 3 66 zD rfl;simp[ca] at g2)
   try (have g6:=aa c 7 70 zD rfl;simp[ca] at g6)
   have g8:=ag r 0 zK;simp at g8;have g9:=ag r 1 zK;simp at g9;have h0:=ag r 5 zK;simp at h0;clear c r;exact zA
 ·intro C T f7;obtain⟨i6,rfl,y,d2,e0⟩:=f7.fin (n:=133) rfl;obtain⟨g,rfl⟩:=ae y;have b3:=e0 6 zK;obtain⟨f,i,j,d6,d7,e4,F,M,N⟩:=d2 9 72 rfl rfl;clear d2 e0;simp at b3;simp only[List.drop_succ_cons,List.drop_zero];simp[List.range,List.range.loop,b3,e4];clear b3 e4;obtain⟨l2,rfl,e2⟩:=RE9_iff.1 F;obtain⟨b6,b7,rfl⟩:=e2.form;obtain⟨a,b5⟩:=i;have L:=b8.o.ext (af g);have e3:=J.o.trans (af g);have c1:=Hd (show(do let f<-H;G f)=.ok (a,b5) from(by rw[d6];exact d7));obtain⟨j6,j7,j8,j9,k0,k1,k2,k3,k4⟩:=L.get9;obtain⟨i7,i8,i9,j0,j1,j2,j3,j4,j5⟩:=L.free9;obtain⟨I,K⟩:∃I,I=((((((((g.w.setCell ⟨b.heap.size,0,none⟩ (.int .i64 a.op)).setCell ⟨b.heap.size,1,none⟩ (.int .i64 a.w)).setCell ⟨b.heap.size,2,none⟩ (.int .u64 a.v)).setCell ⟨b.heap.size,3,none⟩ (.int .i64 a.sig)).setCell ⟨b.heap.size,4,none⟩ (.int .i64 a.hi)).setCell ⟨b.heap.size,5,none⟩ (.int .i64 a.lo)).setCell ⟨b.heap.size,6,none⟩ (.int .i64 a.n)).setCell ⟨b.heap.size,7,none⟩ (.slice b6 a.l.length b7)).setCell ⟨b.heap.size,8,none⟩ (.int .i64 b5):=⟨_,rfl⟩;have k7:=K.symm;have e8:=Hd (show Blk I b.heap.size 203 [.int .i64 a.op,.int .i64 a.w,.int .u64 a.v,.int .i64 a.sig,.int .i64 a.hi,.int .i64 a.lo,.int .i64 a.n,.slice b6 a.l.length b7,.int .i64 b5] by rw[K];exact L.store9 _ _ _ _ _ _ _ _ _);have c2:=Hd (show Ext w I by rw[K];exact((((((((e3.setCell u _).setCell u _).setCell u _).setCell u _).setCell u _).setCell u _).setCell u _).setCell u _).setCell u _);have f2:=Hd (show RE9 (λt=>w.heap.size<=t) I a [.int .i64 a.op,.int .i64 a.w,.int .u64 a.v,.int .i64 a.sig,.int .i64 a.hi,.int .i64 a.lo,.int .i64 a.n,.slice b6 a.l.length b7] by
   rw[K];refine RE9.turn (X:=λt=>t=b.heap.size) ?_ (λt a5 b2=>⟨λe=>?_,ad J.o.size b2⟩) a _ F
   ·exact((((((((cC (X:=λt=>t=b.heap.size) (aV _ g.w) (p:=⟨b.heap.size,0,none⟩) rfl _).setCell (p:=⟨b.heap.size,1,none⟩) rfl _).setCell (p:=⟨b.heap.size,2,none⟩) rfl _).setCell (p:=⟨b.heap.size,3,none⟩) rfl _).setCell (p:=⟨b.heap.size,4,none⟩) rfl _).setCell (p:=⟨b.heap.size,5,none⟩) rfl _).setCell (p:=⟨b.heap.size,6,none⟩) rfl _).setCell (p:=⟨b.heap.size,7,none⟩) rfl _).setCell (p:=⟨b.heap.size,8,none⟩) rfl _
   ·exact absurd (a5.one (e▸L.tag)) zD)
  have c0:=Hd (an M N);clear L e3 K F e2 d6 d7 M N;go_wp2_with fail
  refine fu rfl e8.o (λa6=>?_) (λa6=>?_)
  ·exact .ok (by rw[V.o,c1.o];exact ja a6) ⟨_,rfl,f2.o,c2.o,c0.o.1,c0.o.2⟩
  ·exact .no (by rw[V.o,c1.o];exact jl a6) c2.o
theorem Sl.cut{α:Type}{R:α->List Value->Prop}{w:World}{B b:Nat}{l:List α}{a:Option Addr}{c lo hi:Nat}(h:Sl R w B b l (.slice a l.length c))(s:lo<=hi)(h2:hi<=l.length):
 Sl R w B b ((l.take hi).drop lo) (Go.sliced a lo hi c b):=by
 obtain⟨q,r,m,t,p⟩:=h;obtain⟨rfl,-,rfl⟩:=Value.slice.inj m;refine⟨_,c - lo,by unfold Go.sliced;rw[List.length_drop,List.length_take,Nat.min_eq_left h2],by rw[List.length_drop,List.length_take];omega,λd hi=>?_⟩;rw[List.length_drop,List.length_take,Nat.min_eq_left h2] at hi;rw[List.getElem_drop,List.getElem_take];obtain⟨e,o,f,rfl,k,n,i,g,j⟩:=p (lo+d) zO;rw[if_neg zO];exact⟨e,o+lo*b,f,congrArg some (eY e o (lo*b)),k,n,by rw[show o+lo*b+d*b=o+(lo+d)*b by rw[Nat.add_mul];omega];exact i,g,j⟩
theorem xf(y:World)(B N0 mb sb mp:Nat)(j8 k0 j9 j7 f8:Value)(m:Mk)(s:Sc)(x:X)(G:List Value)(w:World)(b9:Cx y B w)(b7:XOk y B x G)(h:MkI w N0 mb j8 k0 j9 j7 m)(f4:ScI w sb mp f8 s)(e8:Good m.d.sigs s)(c2:x.op=10)(Z:0<x.l.length)(h9:x.l.length<=1000000000)
 (e7:∀j,j∈x.l->∀(u:World) (G:List Value),Ext w u->RX y B j G->bj Tryz.prog 150 #[.pointer (some ⟨mb,0,none⟩),.pointer (some ⟨sb,0,none⟩),.agg G.toArray] u (aA m.d.sigs s j) (cb u) (Ext u)):
 bj Tryz.prog 150 #[.pointer (some ⟨mb,0,none⟩),.pointer (some ⟨sb,0,none⟩),.agg G.toArray] w (aA m.d.sigs s x) (cb w) (Ext w):=by
 have a7:=Hd b9;have g5:=Hd f4;have g2:=Hd e7;obtain⟨o8,rfl,h3⟩:=RX_iff.1 b7.rx;obtain⟨f7,D,rfl,h8,c0⟩:=h3;have g0:=Hd (show Sl (RX y B) y B 6 x.l (.slice f7 x.l.length D) from⟨f7,D,rfl,h8,c0⟩);obtain⟨F,H,o5,h7,h5,i0,b4,i1,b6⟩:=c0 0 Z;subst h7;obtain⟨k3,rfl,e0⟩:=RX_iff.1 b6;simp only[Nat.zero_mul,Nat.add_zero] at b4;have i:=cR (k:=0) Z;have g8:=Hd (b7.part (ao Z) b6);have g3:=Hd e8;have u0:=e0.oneCell;obtain⟨N,c5⟩:∃N,N=Go.sliced (some ⟨F,H,none⟩) 1 x.l.length D 6:=⟨_,rfl⟩;have g7:=Hd (show Sl (RX y B) y B 6 (x.l.drop 1) N from by have:=g0.o.cut (lo:=1) (hi:=x.l.length) Z (ac _);rw[List.take_length] at this;rw[c5];exact this);have g6:=Hd (show Value.slice (if D=1 then some ⟨F,H,none⟩ else some ⟨F,H+6,none⟩) (x.l.length - 1) (D - 1)=N from by
  rw[c5];simp[Go.sliced,eY])
 clear c5;generalize a1:x.l[0]=x0 at*;have o1:(1:Int)<=(x.l.length:Int):=by omega
 have o2:(x.l.length:Int)<=(D:Int):=by omega
 have o0:(0:Int)<(x.l.length:Int):=by omega
 obtain⟨M,c4⟩:∃M,M=bV s x0:=⟨_,rfl⟩;obtain⟨a6,b5⟩:∃a6,a6=aA m.d.sigs s:=⟨_,rfl⟩;obtain⟨L,c3⟩:∃L:Int->Rs (DE×Int),L=λf=>(do let z<-cP ((x.l.drop 1).map a6) 1;return(DE.mk 8 f 0 0 0 0 x.n z.1,z.2)):=⟨_,rfl⟩
 have a8:=Hd (show aA m.d.sigs s x=(do let j<-(do let f<-M;L f);dD j) by
  rw[eo,c3,c4,b5];unfold dU;rw[if_neg zO,if_neg zO,if_neg zO,if_neg zO,if_neg zO,if_pos c2,show xAt x.l 0=x0 from i,<-List.map_drop];cases bV s x0 with
  |error e=>rfl
  |ok f=>
   simp only[bind,Except.bind,pure,Except.pure];cases cP ((x.l.drop 1).map (aA m.d.sigs s)) 1<;>rfl)
 obtain⟨c,e1,a2,e3⟩:=aW w (.int .i64 10) (.string x.name) (.int .i64 x.n) (.int .i64 x.w) (.int .u64 x.v) (.slice (some ⟨F,H,none⟩) x.l.length D) 40;obtain⟨I,e2,a3,e4⟩:=bI c (.int .i64 0) (.int .i64 0) (.int .u64 0) (.int .i64 0) (.int .i64 0) (.int .i64 0) (.int .i64 0) (.slice none 0 0) (.int .i64 0) 203;have n7:=e1.symm;have C:w.heap.size<=c.heap.size:=a2.size;obtain⟨k4,k5,k6,k7,k8,k9⟩:=(e3.ext a3).later6;obtain⟨h0,e6⟩:=ae (W:=I) (w:=I) (ah _);have n8:=e2.symm.trans e6;have P:=Hd (a2.trans a3);have d3:=Hd e4;have d7:=Hd (λ(u:World) (U:Ext w u)=>iM y B x0 _ sb mp f8 s u (a7.o.later U) g8.o (g5.o.ext U) g3.o.env);have d8:=Hd (λ(f:Int) (u:World) (U:Ext w u)=>ku y B (.pointer (some ⟨mb,0,none⟩)) (.pointer (some ⟨sb,0,none⟩)) (aA m.d.sigs s) 8 f 0 0 0 0 x.n (x.l.drop 1) N u g7.o a7.o.hB (a7.o.ext.trans U) (by rw[List.length_drop];omega) (λj c6 k1 G h1 h2=>g2.o j (List.mem_of_mem_drop c6) k1 G (U.trans h1) h2));rw[<-b5] at d8;rw[<-c4] at d7;have d9:=Hd (λ(f:Int)=>congrFun c3 f);obtain⟨l1,l2,l3,l4,l5,l6⟩:=(b4.ext (b9.ext.trans (a2.trans a3))).later6;clear c0 b6 e0 i0 h5 e8 i a1 b4 i1 e6 e1 e2 a2 a3 e3 e4 b7 h f4 b9 h9 e7 c4 b5 c3;have o3:=@hmf_ Tryz.prog;rw[c2];clear c2
 go_enter_defers func150,ntmps150
 go_wp2_with fail
 refine bT 15 (W:=I) (Ext) (ca 9 10 14 M (λf=>.agg #[.int .i64 8,.int .i64 f,.int .u64 0,.int .i64 0,.int .i64 0,.int .i64 0,.int .i64 x.n,.slice none 0 0]) L I [.pointer (some ⟨mb,0,none⟩),.pointer (some ⟨sb,0,none⟩),.pointer (some ⟨w.heap.size,2,none⟩),.int .i64 x.n,.pointer (some ⟨sb,0,none⟩),.pointer (some ⟨w.heap.size,5,none⟩),.slice (some ⟨F,H,none⟩) x.l.length D,.pointer (some ⟨F,H,none⟩),.agg #[.int .i64 x0.op,.string x0.name,.int .i64 x0.n,.int .i64 x0.w,.int .u64 x0.v,k3],undef,undef,.pointer (some ⟨w.heap.size,5,none⟩),.slice (some ⟨F,H,none⟩) x.l.length D,N,undef]) (expP M L I) (λ_=>true) zK (bG) zK zK ?_ (af h0) (λo4 v w u h a0=>oP h a0) ?_ (λE l0 k2 b i2=>by
  obtain⟨r,t,rfl,a0⟩:=i2;obtain⟨o6,l7⟩:=E;simp only at b;subst b;have h4:=(d3.o.ext a0).cell 8;have g4:=Hd (show RunsP (aA m.d.sigs s x) (cb w) (Ext w) (.panicked (aN r)) k2 from .no (by rw[a8.o,t];rfl) (P.o.trans a0));exact fc (by simpa using h4) zD g4.o) ?_
 ·exact⟨rfl,rfl,rfl,rfl,rfl,rfl,rfl,rfl,rfl,rfl,rfl,rfl,rfl,rfl,rfl,trivial⟩
 ·refine⟨?_,?_,?_,?_,?_,?_,?_,?_,?_,?_,?_,?_,?_,?_,?_,trivial⟩;rotate_left 9
  ·intro E V i b q;obtain⟨g,rfl⟩:=ae i;have j0:=aa b 4 109 zK rfl;simp[ca] at j0;have j2:=aa b 8 113 zK rfl;simp[ca] at j2;clear b q;go_simp;refine(d7.o g.w (P.o.trans g.ext)).mono ?_;rintro e f9 (⟨f,j6,t,rfl,rfl,a5⟩|⟨r,t,rfl,a5⟩);rotate_left
   ·exact⟨rfl,r,by rw[t];rfl,rfl,g.ext.trans a5⟩
   have a9:=Hd t;clear t;go_simp;first|exact⟨_,rfl,a5,f,a9.o,rfl⟩|exact⟨a5,f,a9.o,rfl⟩|exact⟨_,rfl,f,a9.o,rfl⟩
  ·intro E V i b q;obtain⟨g,rfl⟩:=ae i;have i9:=aa b 3 108 zK rfl;simp[ca] at i9;obtain⟨b3,f1,c8⟩:=aa b 9 114 zK rfl;simp at c8;have b1:=Hd f1;clear f1;clear b q;go_simp;first|exact⟨_,rfl,ah _,b3,b1.o,rfl⟩|exact⟨ah _,b3,b1.o,rfl⟩|exact⟨_,rfl,b3,b1.o,rfl⟩
  rotate_left 2
  ·intro E V i b q;obtain⟨g,rfl⟩:=ae i;have i6:=aa b 12 117 zK rfl;simp[ca] at i6;clear b q;go_simp;first|exact⟨_,rfl,ah _,g6.o⟩
  ·intro E V i b q;obtain⟨g,rfl⟩:=ae i;have i3:=aa b 0 105 zK rfl;simp[ca] at i3;have i4:=aa b 1 106 zK rfl;simp[ca] at i4;obtain⟨J,f2,c9⟩:=aa b 10 115 zK rfl;simp at c9;have Y:=Hd f2;clear f2;have i7:=aa b 13 118 zK rfl;simp[ca] at i7;clear b q;go_simp;refine(d8.o J g.w (P.o.trans g.ext)).mono ?_;rintro e f9 (⟨j,j6,t,rfl,r,rfl,K,a4,S,T⟩|⟨r,t,rfl,a4⟩);rotate_left
   ·exact⟨rfl,r,by rw[Y.o];exact(d9.o J).trans t,rfl,g.ext.trans a4⟩
   have b2:=Hd (an (K.imp (λA _ b8=>ad g.ext.size b8):RE9 (λA=>I.heap.size<=A) f9 j.1 r) (an S T));have b0:=Hd ((d9.o J).trans t);clear K t S T;go_simp;first|exact⟨_,rfl,a4,J,j,r,Y.o,b0.o,rfl,b2.o⟩|exact⟨a4,J,j,r,Y.o,b0.o,rfl,b2.o⟩|exact⟨_,rfl,J,j,r,Y.o,b0.o,rfl,b2.o⟩
  all_goals
   intro E V i b q;obtain⟨g,rfl⟩:=ae i;try (have i8:=aa b 2 107 zD rfl;simp[ca] at i8)
   try (have c8:=aa b 5 110 zD rfl;simp[ca] at c8)
   try (have c9:=aa b 6 111 zD rfl;simp[ca] at c9)
   try (have j1:=aa b 7 112 zD rfl;simp[ca] at j1)
   try (have i5:=aa b 11 116 zD rfl;simp[ca] at i5)
   have j3:=ag q 0 zK;simp at j3;have j4:=ag q 1 zK;simp at j4;have j5:=ag q 5 zK;simp at j5;clear b q;exact zA
 ·intro E V h6;obtain⟨l8,rfl,i,e5,f3⟩:=h6.fin (n:=133) rfl;obtain⟨g,rfl⟩:=ae i;have c7:=f3 6 zK;obtain⟨f,j,r,e9,f0,f6,K,S,T⟩:=e5 14 119 rfl rfl;clear e5 f3;simp at c7;simp only[List.drop_succ_cons,List.drop_zero];simp[List.range,List.range.loop,c7,f6];clear c7 f6;obtain⟨o7,rfl,f5⟩:=RE9_iff.1 K;obtain⟨d1,d2,rfl⟩:=f5.form;obtain⟨a,d0⟩:=j;have R:=d3.o.ext (af g);have a1:=P.o.trans (af g);have d5:=Hd (show(do let f<-M;L f)=.ok (a,d0) from(by rw[e9];exact f0));obtain⟨m8,m9,n0,n1,n2,n3,n4,n5,n6⟩:=R.get9;obtain⟨l9,m0,m1,m2,m3,m4,m5,m6,m7⟩:=R.free9;obtain⟨O,Q⟩:∃O,O=((((((((g.w.setCell ⟨c.heap.size,0,none⟩ (.int .i64 a.op)).setCell ⟨c.heap.size,1,none⟩ (.int .i64 a.w)).setCell ⟨c.heap.size,2,none⟩ (.int .u64 a.v)).setCell ⟨c.heap.size,3,none⟩ (.int .i64 a.sig)).setCell ⟨c.heap.size,4,none⟩ (.int .i64 a.hi)).setCell ⟨c.heap.size,5,none⟩ (.int .i64 a.lo)).setCell ⟨c.heap.size,6,none⟩ (.int .i64 a.n)).setCell ⟨c.heap.size,7,none⟩ (.slice d1 a.l.length d2)).setCell ⟨c.heap.size,8,none⟩ (.int .i64 d0):=⟨_,rfl⟩;have n9:=Q.symm;have g1:=Hd (show Blk O c.heap.size 203 [.int .i64 a.op,.int .i64 a.w,.int .u64 a.v,.int .i64 a.sig,.int .i64 a.hi,.int .i64 a.lo,.int .i64 a.n,.slice d1 a.l.length d2,.int .i64 d0] by rw[Q];exact R.store9 _ _ _ _ _ _ _ _ _);have d6:=Hd (show Ext w O by rw[Q];exact((((((((a1.setCell C _).setCell C _).setCell C _).setCell C _).setCell C _).setCell C _).setCell C _).setCell C _).setCell C _);have g9:=Hd (show RE9 (λA=>w.heap.size<=A) O a [.int .i64 a.op,.int .i64 a.w,.int .u64 a.v,.int .i64 a.sig,.int .i64 a.hi,.int .i64 a.lo,.int .i64 a.n,.slice d1 a.l.length d2] by
   rw[Q];refine RE9.turn (X:=λA=>A=c.heap.size) ?_ (λA b8 c6=>⟨λe=>?_,ad P.o.size c6⟩) a _ K
   ·exact((((((((cC (X:=λA=>A=c.heap.size) (aV _ g.w) (p:=⟨c.heap.size,0,none⟩) rfl _).setCell (p:=⟨c.heap.size,1,none⟩) rfl _).setCell (p:=⟨c.heap.size,2,none⟩) rfl _).setCell (p:=⟨c.heap.size,3,none⟩) rfl _).setCell (p:=⟨c.heap.size,4,none⟩) rfl _).setCell (p:=⟨c.heap.size,5,none⟩) rfl _).setCell (p:=⟨c.heap.size,6,none⟩) rfl _).setCell (p:=⟨c.heap.size,7,none⟩) rfl _).setCell (p:=⟨c.heap.size,8,none⟩) rfl _
   ·exact absurd (b8.one (e▸R.tag)) zD)
  have d4:=Hd (an S T);clear R a1 Q K f5 e9 f0 S T;go_wp2_with fail
  refine fu rfl g1.o (λc1=>?_) (λc1=>?_)
  ·exact .ok (by rw[a8.o,d5.o];exact ja c1) ⟨_,rfl,g9.o,d6.o,d4.o.1,d4.o.2⟩
  ·exact .no (by rw[a8.o,d5.o];exact jl c1) d6.o
theorem ru(n:Int):(aX (bo (bo (bo (bo [] (.int .i64 5) (.int .i64 4)) (.int .i64 6) (.int .i64 5)) (.int .i64 7) (.int .i64 6)) (.int .i64 8) (.int .i64 7)) (.int .i64 n)).getD (.int .i64 0)=.int .i64 (opD n):=by
 simp only[fP,Value.int.injEq,true_and];unfold opD;by_cases d:n=8
 ·subst d;simp[aX]
 rw[if_neg (λe:(8:Int)=n=>d e.symm)];by_cases c:n=7
 ·subst c;simp[aX]
 rw[if_neg (λe:(7:Int)=n=>c e.symm)];by_cases b:n=6
 ·subst b;simp[aX]
 rw[if_neg (λe:(6:Int)=n=>b e.symm)];by_cases a:n=5
 ·subst a;simp[aX]
 rw[if_neg (λe:(5:Int)=n=>a e.symm)];simp[aX,a,b,c,d]
theorem vb(H:World)(B N0 mb sb mp:Nat)(i5 i7 i6 i3 i4:Value)(m:Mk)(s:Sc)(x:X)(k:List Value)(w:World)(e5:Cx H B w)(e2:XOk H B x k)(h:MkI w N0 mb i5 i7 i6 i3 m)(f4:ScI w sb mp i4 s)(C:x.op≠1)(h2:x.op≠2)(h3:x.op≠3)(U:x.op≠4)(Y:x.op≠9)(T:x.op≠10)(f0:x.l.length<=1000000000)
 (e8:∀f,f∈x.l->∀(q:World) (k:List Value),Ext w q->RX H B f k->bj Tryz.prog 150 #[.pointer (some ⟨mb,0,none⟩),.pointer (some ⟨sb,0,none⟩),.agg k.toArray] q (aA m.d.sigs s f) (cb q) (Ext q)):
 bj Tryz.prog 150 #[.pointer (some ⟨mb,0,none⟩),.pointer (some ⟨sb,0,none⟩),.agg k.toArray] w (aA m.d.sigs s x) (cb w) (Ext w):=by
 have c8:=Hd e5;have i9:=Hd f4;have g5:=Hd e8;obtain⟨g2,rfl,V⟩:=RX_iff.1 e2.rx;have g3:=Hd V;have l4:=V.oneCell;obtain⟨O,Z⟩:∃O,O=aA m.d.sigs s:=⟨_,rfl⟩;obtain⟨N,a6⟩:∃N:Rs (DE×Int),N=(do let z<-cP (x.l.map O) 1;return(DE.mk (opD x.op) 0 0 0 0 0 x.n z.1,z.2)):=⟨_,rfl⟩;have P:=Hd (show aA m.d.sigs s x=(do let f<-N;dD f) by
  rw[eo,a6,Z];unfold dU;rw[if_neg C,if_neg h2,if_neg h3,if_neg U,if_neg Y,if_neg T];simp only[bind,Except.bind,pure,Except.pure];cases cP (x.l.map (aA m.d.sigs s)) 1<;>rfl)
 obtain⟨b,e0,a7,e3⟩:=aW w (.int .i64 x.op) (.string x.name) (.int .i64 x.n) (.int .i64 x.w) (.int .u64 x.v) g2 40;obtain⟨y,e1,a8,e4⟩:=bI b (.int .i64 0) (.int .i64 0) (.int .u64 0) (.int .i64 0) (.int .i64 0) (.int .i64 0) (.int .i64 0) (.slice none 0 0) (.int .i64 0) 203;have k9:=e0.symm;have j:w.heap.size<=b.heap.size:=a7.size;obtain⟨g8,j0,g9,j1,j2,h0⟩:=(e3.ext a8).later6;obtain⟨c,e6⟩:=ae (W:=y) (w:=y) (ah _);have l0:=e1.symm.trans e6;have I:=Hd (a7.trans a8);have c7:=Hd e4;have d2:=Hd (λ(q:World) (f6:Ext w q)=>ku H B (.pointer (some ⟨mb,0,none⟩)) (.pointer (some ⟨sb,0,none⟩)) (aA m.d.sigs s) (opD x.op) 0 0 0 0 0 x.n x.l g2 q g3.o c8.o.hB (c8.o.ext.trans f6) f0 (λf a9 i8 k C h2=>g5.o f a9 i8 k (f6.trans C) h2));rw[<-Z] at d2;have d3:=Hd a6;clear e6 e0 e1 a7 a8 e3 e4 V e2 h f4 e5 f0 e8 Z a6;have l2:=@hmf_ Tryz.prog;have l5:(x.op==1)=false:=beq_eq_false_iff_ne.2 C;have l7:(x.op==2)=false:=beq_eq_false_iff_ne.2 h2;have l8:(x.op==3)=false:=beq_eq_false_iff_ne.2 h3;have l9:(x.op==4)=false:=beq_eq_false_iff_ne.2 U;have m0:(x.op==9)=false:=beq_eq_false_iff_ne.2 Y;have l6:(x.op==10)=false:=beq_eq_false_iff_ne.2 T;have t:Tryz.prog.underlying 240=some (.map 3 3):=underlying240;have r:Tryz.prog.underlying 3=some (.int .i64):=underlying3;have f8:∀w:World,(zeroValue 3).run Tryz.prog w=.ok (.int .i64 0) w:=λ_=>by kernel_rfl
 obtain⟨Q,L⟩:∃g,g=c.w.alloc (.map #[] 0):=⟨_,rfl⟩;have g0:MV Q c.w.heap.size []:=by rw[L];exact MV.new _
 have b0:∀b8,b8∈([]:List (Value×Value))->MapKept.IsKey (.int .i64) b8.1:=λb8 h4=>by cases h4
 have b9:Below c.w.heap.size c.w Q:=by rw[L];exact ax _ _
 obtain⟨h5,h9,b4⟩:=g0.update t r (bh 5) b0 (.int .i64 4);have b1:=cu (v:=.int .i64 4) b0 (bh 5);obtain⟨d4,a0⟩:∃g,g=aE Q c.w.heap.size h5:=⟨_,rfl⟩;rw[<-a0] at h9 b4;have c0:Below c.w.heap.size c.w d4:=by rw[a0];exact b9.trans (cV (ac _) b9.size)
 obtain⟨h6,i0,b5⟩:=b4.update t r (bh 6) b1 (.int .i64 5);have b2:=cu (v:=.int .i64 5) b1 (bh 6);obtain⟨d5,a1⟩:∃g,g=aE d4 c.w.heap.size h6:=⟨_,rfl⟩;rw[<-a1] at i0 b5;have c1:Below c.w.heap.size c.w d5:=by rw[a1];exact c0.trans (cV (ac _) c0.size)
 obtain⟨h7,i1,b6⟩:=b5.update t r (bh 7) b2 (.int .i64 6);have b3:=cu (v:=.int .i64 6) b2 (bh 7);obtain⟨d6,a2⟩:∃g,g=aE d5 c.w.heap.size h7:=⟨_,rfl⟩;rw[<-a2] at i1 b6;have c2:Below c.w.heap.size c.w d6:=by rw[a2];exact c1.trans (cV (ac _) c1.size)
 obtain⟨h8,i2,b7⟩:=b6.update t r (bh 8) b3 (.int .i64 7);have f9:=cu (v:=.int .i64 7) b3 (bh 8);obtain⟨R,a3⟩:∃g,g=aE d6 c.w.heap.size h8:=⟨_,rfl⟩;rw[<-a3] at i2 b7;have c3:Below c.w.heap.size c.w R:=by rw[a3];exact c2.trans (cV (ac _) c2.size)
 have e9:=b7.lookup t r (bh x.op) f9 (f8 _) false;rw[ru] at e9;simp only[Bool.false_eq_true,if_false] at e9;obtain⟨J,e7⟩:=ae (W:=y) ((af c).trans c3);have d7:=g8 J;have d8:=g9 J;have d9:=h0 J;rw[<-e7] at d7 d8 d9;have u:=Hd (show Ext y R from(af c).trans c3);have k8:=L.symm;clear f8 t r g0 b0 b9 b4 b1 c0 b5 b2 c1 b6 b3 c2 b7 f9 c3 e7 J L a0 a1 a2 a3 C h2 h3 U Y T;have l3:=@run_makeMap Tryz.prog
 go_enter_defers func150,ntmps150
 go_wp2_with fail
 go_at_call 189;refine(d2.o R (I.o.trans u.o)).mono ?_;rintro e g1 (⟨f,m1,M,rfl,S,rfl,F,G,f1,f2⟩|⟨S,M,rfl,G⟩);rotate_left
 ·have h1:=(c7.o.ext (u.o.trans G)).cell 8;have g6:=Hd (show RunsP (aA m.d.sigs s x) (cb w) (Ext w) (.panicked (aN S)) g1 from .no (by rw[P.o,d3.o,M];rfl) ((I.o.trans u.o).trans G));exact fc (by simpa using h1) zD g6.o
 have f3:=d3.o.trans M;have F:=(F.imp (λi _ a4=>ad u.o.size a4):RE9 (λi=>y.heap.size<=i) g1 f.1 S);obtain⟨K,rfl⟩:=ae (u.o.trans G);clear M G;obtain⟨m2,rfl,f5⟩:=RE9_iff.1 F;obtain⟨c5,c6,rfl⟩:=f5.form;obtain⟨a,c4⟩:=f;have E:=c7.o.ext (af K);have f7:=I.o.trans (af K);have d0:=Hd (show N=.ok (a,c4) from f3);obtain⟨d7,k2,d8,k3,k4,d9,k5,k6,k7⟩:=E.get9;obtain⟨j3,j4,j5,j6,j7,j8,j9,k0,k1⟩:=E.free9;obtain⟨A,D⟩:∃A,A=((((((((K.w.setCell ⟨b.heap.size,0,none⟩ (.int .i64 a.op)).setCell ⟨b.heap.size,1,none⟩ (.int .i64 a.w)).setCell ⟨b.heap.size,2,none⟩ (.int .u64 a.v)).setCell ⟨b.heap.size,3,none⟩ (.int .i64 a.sig)).setCell ⟨b.heap.size,4,none⟩ (.int .i64 a.hi)).setCell ⟨b.heap.size,5,none⟩ (.int .i64 a.lo)).setCell ⟨b.heap.size,6,none⟩ (.int .i64 a.n)).setCell ⟨b.heap.size,7,none⟩ (.slice c5 a.l.length c6)).setCell ⟨b.heap.size,8,none⟩ (.int .i64 c4):=⟨_,rfl⟩;have l1:=D.symm;have g4:=Hd (show Blk A b.heap.size 203 [.int .i64 a.op,.int .i64 a.w,.int .u64 a.v,.int .i64 a.sig,.int .i64 a.hi,.int .i64 a.lo,.int .i64 a.n,.slice c5 a.l.length c6,.int .i64 c4] by rw[D];exact E.store9 _ _ _ _ _ _ _ _ _);have d1:=Hd (show Ext w A by rw[D];exact((((((((f7.setCell j _).setCell j _).setCell j _).setCell j _).setCell j _).setCell j _).setCell j _).setCell j _).setCell j _);have g7:=Hd (show RE9 (λi=>w.heap.size<=i) A a [.int .i64 a.op,.int .i64 a.w,.int .u64 a.v,.int .i64 a.sig,.int .i64 a.hi,.int .i64 a.lo,.int .i64 a.n,.slice c5 a.l.length c6] by
  rw[D];refine RE9.turn (X:=λi=>i=b.heap.size) ?_ (λi a4 a9=>⟨λe=>?_,ad I.o.size a9⟩) a _ F
  ·exact((((((((cC (X:=λi=>i=b.heap.size) (aV _ K.w) (p:=⟨b.heap.size,0,none⟩) rfl _).setCell (p:=⟨b.heap.size,1,none⟩) rfl _).setCell (p:=⟨b.heap.size,2,none⟩) rfl _).setCell (p:=⟨b.heap.size,3,none⟩) rfl _).setCell (p:=⟨b.heap.size,4,none⟩) rfl _).setCell (p:=⟨b.heap.size,5,none⟩) rfl _).setCell (p:=⟨b.heap.size,6,none⟩) rfl _).setCell (p:=⟨b.heap.size,7,none⟩) rfl _).setCell (p:=⟨b.heap.size,8,none⟩) rfl _
  ·exact absurd (a4.one (e▸E.tag)) zD)
 have c9:=Hd (an f1 f2);clear E f7 D F f5 f3 f1 f2;go_wp2_with fail
 refine fu rfl g4.o (λa5=>?_) (λa5=>?_)
 ·exact .ok (by rw[P.o,d0.o];exact ja a5) ⟨_,rfl,g7.o,d1.o,c9.o.1,c9.o.2⟩
 ·exact .no (by rw[P.o,d0.o];exact jl a5) d1.o
end Go.Proofs.YtlfmlodanoolhaaGreatDoor
namespace Go.Proofs.YtlfmlodanoolhaaGreatDoor
open Go Go.RowKit Go.Proofs.Tryz
def RT9(Y:Nat->Prop)(w:World):DT->List Value->Prop
 |.mk op sig hi lo e l,cs=>∃g,SlY Y 60 (RE9 Y w) w 8 e g/\∃d f,cs=[.int .i64 op,.int .i64 sig,.int .i64 hi,.int .i64 lo,g,.slice d l.length f]/\l.length<=f/\
   ∀c,(h:c<l.length)->∃a o b,d=some ⟨a,o,none⟩/\Y a/\Tag w a 73/\b.length=6/\Cells w a (o+c*6) b/\(∀v,v∈b->v.oneCell'=true)/\RT9 Y w l[c] b
termination_by x=>SizeOf.sizeOf x
decreasing_by
 have:=List.sizeOf_lt_of_mem (ao h);simp only[DT.mk.sizeOf_spec];omega
theorem RT9_iff{Y:Nat->Prop}{w:World}{x:DT}{h:List Value}:
 RT9 Y w x h↔∃i j,h=[.int .i64 x.op,.int .i64 x.sig,.int .i64 x.hi,.int .i64 x.lo,i,j]/\SlY Y 60 (RE9 Y w) w 8 x.e i/\SlY Y 73 (RT9 Y w) w 6 x.l j:=by
 obtain⟨op,sig,hi,lo,e,l⟩:=x;rw[RT9];constructor
 ·rintro⟨k,c,a,b,d,f,g⟩;exact⟨_,_,d,c,a,b,rfl,f,g⟩
 ·rintro⟨_,_,d,c,a,b,rfl,f,g⟩;exact⟨_,c,a,b,d,f,g⟩
theorem RT9.rt6{Y:Nat->Prop}{w:World}(x:DT):∀a,RT9 Y w x a->RT6 w x a:=by
 induction x using DT.ind with
 |h x ih=>
  intro a b;obtain⟨e,f,rfl,c,d⟩:=RT9_iff.1 b;exact RT6_iff.2 ⟨e,f,rfl,c.slT (λg _=>RE9.re8 g),d.slT ih⟩
theorem RT9.turn{X Y Y':Nat->Prop}{w f:World}(e:Chg X w f)(d:∀a,Tag w a 60\/Tag w a 73->Y a->¬X a/\Y' a)(x:DT):∀c,RT9 Y w x c->RT9 Y' f x c:=by
 induction x using DT.ind with
 |h x ih=>
  intro c g;obtain⟨k,l,rfl,i,j⟩:=RT9_iff.1 g;exact RT9_iff.2 ⟨k,l,rfl,i.turn e (λa b=>d a (.inl b)) (λm _=>RE9.turn e (λa b=>d a (.inl b)) m),j.turn e (λa b=>d a (.inr b)) ih⟩
theorem RT9.ext{Y:Nat->Prop}{w b:World}(c:Ext w b){x:DT}{a:List Value}(h:RT9 Y w x a):RT9 Y b x a:=
 RT9.turn (c.chg (X:=λ_=>False)) (λe _ d=>⟨id,d⟩) x a h
theorem RT9.imp{Y Y':Nat->Prop}{w:World}(c:∀a,a<w.heap.size->Y a->Y' a){x:DT}{b:List Value}(h:RT9 Y w x b):RT9 Y' w x b:=
 RT9.turn (aV (λ_=>False) w) (λa d e=>⟨id,c a (d.elim Tag.lt Tag.lt) e⟩) x b h
theorem RT9.one{Y:Nat->Prop}{w:World}{x:DT}{a:List Value}(h:RT9 Y w x a):∀b,b∈a->b.oneCell'=true:=(RT9.rt6 x a h).one
theorem RT9.len{Y:Nat->Prop}{w:World}{x:DT}{a:List Value}(h:RT9 Y w x a):a.length=6:=(RT9.rt6 x a h).len
abbrev SlE9(Y:Nat->Prop)(w:World)(l:List DE)(v:Value):Prop:=SlY Y 60 (RE9 Y w) w 8 l v
abbrev SlT9(Y:Nat->Prop)(w:World)(l:List DT)(v:Value):Prop:=SlY Y 73 (RT9 Y w) w 6 l v
theorem SlE9.turn{X Y Y':Nat->Prop}{w d:World}{l:List DE}{v:Value}(h:SlE9 Y w l v)(c:Chg X w d)(b:∀a,Tag w a 60->Y a->¬X a/\Y' a):SlE9 Y' d l v:=
 SlY.turn h c b (λe _=>RE9.turn c b e)
theorem SlT9.turn{X Y Y':Nat->Prop}{w d:World}{l:List DT}{v:Value}(h:SlT9 Y w l v)(c:Chg X w d)(b:∀a,Tag w a 60\/Tag w a 73->Y a->¬X a/\Y' a):SlT9 Y' d l v:=
 SlY.turn h c (λa e=>b a (.inr e)) (λf _=>RT9.turn c b f)
theorem SlE9.ext{Y:Nat->Prop}{w a:World}{l:List DE}{v:Value}(h:SlE9 Y w l v)(b:Ext w a):SlE9 Y a l v:=SlE9.turn h (b.chg (X:=λ_=>False)) (λd _ c=>⟨id,c⟩)
structure OwnT(N:Nat)(l:List DT)(v:Value)(w:World):Prop where
 ex:∃xs,w.ownsRow N 73 6 v l.length xs/\Fl (RT9 (λb=>N<=b/\v.ownBlock≠some b) w) 6 l xs
theorem OwnT.none_{a:Nat}{w:World}:OwnT a [] (.slice none 0 0) w:=⟨[],World.ownsRow_nil _ _ _ _,Fl.nil⟩
theorem OwnT.ownL{a:Nat}{l:List DT}{v:Value}{w:World}(h:OwnT a l v w):OwnL (RT9 (λb=>a<=b/\v.ownBlock≠some b) w) a 73 6 l v w:=⟨h.ex⟩
theorem OwnT.form{a:Nat}{l:List DT}{v:Value}{w:World}(h:OwnT a l v w):∃b c,v=.slice b l.length c:=h.ownL.form
theorem OwnT.lt{b:Nat}{l:List DT}{v:Value}{w:World}(h:OwnT b l v w):∀a,v.ownBlock=some a->b<=a/\a<w.heap.size:=h.ownL.lt
theorem OwnT.chg{c:Nat}{X:Nat->Prop}{l:List DT}{v:Value}{w j:World}(h:OwnT c l v w)(i:Chg X w j)(g:∀a,X a->a<c):OwnT c l v j:=by
 obtain⟨y,f,r⟩:=h.ex;refine⟨y,?_,r.imp λx m=>RT9.turn i (λa _ s=>⟨λd=>absurd (g a d) zO,s⟩) x m⟩;refine⟨f.1,?_⟩;rcases f.2 with t|⟨b,k,n,o,p,e,q⟩
 ·exact .inl t
 ·have u:b<w.heap.size:=(y1w.1 e).1;exact .inr ⟨b,k,n,o,p,(i.block b u (λd=>absurd (g b d) zO)).trans e,q⟩
theorem OwnT.later{a:Nat}{l:List DT}{v:Value}{w b:World}(h:OwnT a l v w)(c:Ext w b):OwnT a l v b:=h.chg (c.chg (X:=λ_=>False)) (λ_ h=>h.elim)
theorem OwnT.slY{a:Nat}{l:List DT}{v:Value}{w:World}(h:OwnT a l v w):SlT9 (λb=>a<=b) w l v:=by
 have p:=h.lt;obtain⟨d,e,c,m,r⟩:=h.ownL.slT zD;refine⟨d,e,c,m,λt q=>?_⟩;obtain⟨b,o,f,ha,s,n,i,g,j⟩:=r t q;refine⟨b,o,f,ha,(p b ?_).1,s,n,i,g,j.imp λb _ k=>k.1⟩;rw[c,ha];rfl
theorem rh{P:Program}{w:World}{ops:Array Oper}{D:List Oper}{o:Oper}{a:Act}{Q:Exit->Act->World->Prop}(M:o.guard=none)(s x:Operand)(t:TypeId)
 (S:o.op=.call {callee:=.builtin .append,args:=#[s,x],argTypes:=#[t,t]})
 (f:Nat) (z:Value) (bytes:Nat) (hi:(P.info? 73).map (λu=>(u.zero,u.size,u.bytes))=some (some z,6,bytes)) (ht:P.underlying t=some (.slice 73))
 (a0:z.cells.size=6) (p:bytes<=1000)
 (l:List DT) (F:DT) (v:Value) (V:a.eval s=v) (C:OwnT f l v w)
 (B:Nat) (c:Nat) (k:List Value) (r:a.eval x=.slice (some ⟨B,0,none⟩) 1 c) (U:Blk w B 73 k) (d:RT9 (λb=>f<=b/\v.ownBlock≠some b) w F k)
 (R:l.length<=1000000000) (I:f<=w.heap.size)
 (h:∀j i,OwnT f (l++[F]) j i->w.grownBy i v.ownBlock->(∀n,v.ownBlock=some n->f<=n)->wpList P ops Q D (a.put o.dst j) i):wpList P ops Q (o::D) a w:=by
 obtain⟨E,G,H⟩:=C.ex;obtain⟨a3,X,Z,Y,W⟩:=info_parts hi;have L:Flat w 6 (some ⟨B,0,none⟩) 1 k:=⟨by rw[d.len],λy q=>d.one y q,λ_=>⟨B,0,rfl,λa1 y q=>by
  have:=U.cells a1 y q;simpa using this⟩⟩
 have O:=C.lt;refine fY M s x t S f _ a3 z 6 bytes ht X Z Y W a0 zD p v l.length E V G (some ⟨B,0,none⟩) 1 c k r L R zD I ?_;intro j i T g K;have J:Chg (λb=>v.ownBlock=some b) w i:=⟨g.os,g.tape,g.output,g.size,λa2 N r=>g.block a2 N λe=>r e.symm⟩;have A:∀x m,RT9 (λb=>f<=b/\v.ownBlock≠some b) w x m->RT9 (λb=>f<=b/\j.ownBlock≠some b) i x m:=λx m=>
  RT9.turn J (λb p d=>⟨d.2,d.1,λe=>by
   rcases K b e with h|h
   ·exact d.2 h
   ·have:=p.elim Tag.lt Tag.lt;omega⟩) x m
 exact h j i ⟨E++k,by rw[List.length_append];exact T,(H.imp A).append (Fl.one_ d.len d.one (A _ _ d))⟩ g λn g=>(O n g).1
theorem SlY.flat{α:Type}{Y:Nat->Prop}{T:TypeId}{R:α->List Value->Prop}{w:World}{b:Nat}{l:List α}{v:Value}(h:SlY Y T R w b l v):∃g m a,v=.slice g l.length m/\Flat w b g l.length a/\Fl R b l a:=by
 obtain⟨g,m,E,H,D⟩:=h;have F:∀n,n<=l.length->∃a:List Value,a.length=n*b/\(∀c,c∈a->c.oneCell'=true)/\(0<n->∃j o,g=some ⟨j,o,none⟩/\Cells w j o a)/\Fl R b (l.take n) a:=by
  intro n;induction n with
  |zero=>intro _;exact⟨[],zS,zS,λh=>absurd h zO,by simpa using Fl.nil⟩
  |succ n ih=>
   intro I;obtain⟨a,d,p,q,k⟩:=ih zO;obtain⟨j,o,x,ha,-,-,t,A,u,C⟩:=D n zO;refine⟨a++x,by rw[List.length_append,d,t,Nat.add_mul];omega,λc f=>(y2n.1 f).elim (p c) (u c),λ_=>⟨j,o,ha,λi c f=>?_⟩,?_⟩
   ·by_cases s:i<a.length
    ·rw[List.getElem?_append_left s] at f;obtain⟨G,J,r,B⟩:=q (by
      rcases Nat.eq_zero_or_pos n with h|h
      ·subst h;simp at d;subst d;simp at s
      ·exact h)
     rw[ha] at r;injection r with e;injection e with y z;subst y;subst z;exact B i c f
    ·rw[List.getElem?_append_right zO,d] at f;have:=A (i - n*b) c f;rwa[show o+n*b+(i - n*b)=o+i by omega] at this
   ·rw[List.take_succ_eq_append_getElem zO];exact k.append (Fl.one_ t u C)
 obtain⟨a,d,p,q,k⟩:=F l.length (ac _);rw[List.take_length] at k;exact⟨g,m,a,E,⟨d,p,q⟩,k⟩
theorem rk{P:Program}{w:World}{ops:Array Oper}{A:List Oper}{o:Oper}{a:Act}{Q:Exit->Act->World->Prop}(K:o.guard=none)(s x:Operand)(t:TypeId)
 (R:o.op=.call {callee:=.builtin .append,args:=#[s,x],argTypes:=#[t,t]})
 (c:Nat) (z:Value) (bytes:Nat) (hi:(P.info? 73).map (λq=>(q.zero,q.size,q.bytes))=some (some z,6,bytes)) (ht:P.underlying t=some (.slice 73))
 (Z:z.cells.size=6) (m:bytes<=1000)
 (l k:List DT) (v u:Value) (U:a.eval s=v) (y:OwnT c l v w) (n:a.eval x=u) (T:SlT9 (λb=>c<=b/\v.ownBlock≠some b) w k u)
 (O:l.length<=1000000000) (N:k.length<=1000000000) (F:c<=w.heap.size)
 (h:∀g f,OwnT c (l++k) g f->w.grownBy f v.ownBlock->(∀j,v.ownBlock=some j->c<=j)->wpList P ops Q A (a.put o.dst g) f):wpList P ops Q (o::A) a w:=by
 obtain⟨B,D,E⟩:=y.ex;obtain⟨a1,W,Y,X,V⟩:=info_parts hi;obtain⟨a2,a3,C,rfl,I,J⟩:=SlY.flat T;have M:=y.lt;refine fY K s x t R c _ a1 z 6 bytes ht W Y X V Z zD m v l.length B U D a2 k.length a3 C n I O N F ?_;intro g f S d H;have G:Chg (λb=>v.ownBlock=some b) w f:=⟨d.os,d.tape,d.output,d.size,λa0 L n=>d.block a0 L λe=>n e.symm⟩;have r:∀x i,RT9 (λb=>c<=b/\v.ownBlock≠some b) w x i->RT9 (λb=>c<=b/\g.ownBlock≠some b) f x i:=λx i=>
  RT9.turn G (λb m p=>⟨p.2,p.1,λe=>by
   rcases H b e with h|h
   ·exact p.2 h
   ·have:=m.elim Tag.lt Tag.lt;omega⟩) x i
 exact h g f ⟨B++C,by rw[List.length_append];exact S,(E.imp r).append (J.imp r)⟩ d λj d=>(M j d).1
end Go.Proofs.YtlfmlodanoolhaaGreatDoor
