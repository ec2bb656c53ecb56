import Derived.Test.YtlfmlodanoolhaaGreatDoorV46
set_option linter.all false
set_option maxRecDepth 200000
set_option maxHeartbeats 0
namespace Go.Proofs.YtlfmlodanoolhaaGreatDoor
open Go Go.RowKit Go.Proofs.Tryz
attribute [local go_sem] bc
theorem tG:(Tryz.prog.info? 62).map (λi=>(i.zero,i.size,i.bytes))=some (some (.agg #[.string ⟨#[]⟩,.int .i64 0,.int .i64 0,.int .u64 0,.int .i64 0,.int .i64 0,.int .i64 0,.int .i64 0,.slice none 0 0]),9,96):=by kernel_rfl
theorem uV{α:Type}{R:α->List Value->Prop}{P:Program}{w:World}{o:Oper}{a:Act}{k:Act->World->Prop}{X:Exit->Act->World->Prop}(s x:Operand)(t:TypeId)
 (F:o.op=.call {callee:=.builtin .append,args:=#[s,x],argTypes:=#[t,t]})
 (base:Nat) (e:TypeId) (z:Value) (size bytes:Nat) (hi:(P.info? e).map (λj=>(j.zero,j.size,j.bytes))=some (some z,size,bytes)) (ht:P.underlying t=some (.slice e))
 (U:z.cells.size=size) (K:0<size) (y:bytes<=1000)
 (l:List α) (r:α) (v:Value) (J:a.eval s=v) (G:OwnL R base e size l v w)
 (B:Nat) (m:Nat) (b:List Value) (S:a.eval x=.slice (some ⟨B,0,none⟩) 1 m) (H:Blk w B e b) (E:b.length=size) (n:∀c∈b,c.oneCell'=true) (T:R r b)
 (Z:l.length<=1000000000) (A:base<=w.heap.size)
 (h:∀i d,OwnL R base e size (l++[r]) i d->w.grownBy d v.ownBlock->(∀f,v.ownBlock=some f->base<=f)->k (a.put o.dst i) d):o.wp P a w k X:=by
 obtain⟨q,p,u⟩:=G.ex;obtain⟨Y,M,O,N,L⟩:=info_parts hi;have C:∀g c,b[g]? =some c->w.cell? ((⟨B,0,none⟩:Addr).add g)=some c:=λg c Q=>by rw[fv];exact H.cells g c Q
 obtain⟨i,d,I,V,W,-,-⟩:=run_append_own_at (P:=P) w base t o.type e Y z size bytes ht M O N L U K v l.length q p ⟨B,0,none⟩ 1 m b zO C n (by simp only[maxLen];omega) (by
  have:(l.length+1)*bytes<=(l.length+1)*1000:=Nat.mul_le_mul_left _ y;omega) A
 unfold Oper.wp execOp;simp only[F,resolve,invoke,builtin,Sem.run_bind,Sem.run_pure,Result.andThen_ok,List.map_toArray,List.map_cons,List.map_nil,J,S,I];exact h i d ⟨q++b,by rw[List.length_append];exact V,u.append (Fl.one_ E n T)⟩ W λf D=>(p.lt f D).1
def KJ(b:Rs (DE×Mk))(N0 mb:Nat)(e g f d:Value)(m:Mk)(W:World)(c:DE->Value->World->Prop)(u:Value)(w:World):Prop:=
 ∃a,b=.ok a/\c a.1 u w/\MkI w N0 mb e g f d a.2/\FrS mb W w/\CntM m a.2
def K1(W:World)(e:DE)(u:Value)(w:World):Prop:=SlE9 (λa=>W.heap.size<=a) w [e] u
def K2(W:World)(e:DE)(u:Value)(w:World):Prop:=∃b o a,u=.pointer (some ⟨b,o,none⟩)/\Cells w b o a/\RE9 (λc=>W.heap.size<=c) w e a
def K3(W:World)(e:DE)(u:Value)(w:World):Prop:=∃a,u=.agg a.toArray/\RE9 (λb=>W.heap.size<=b) w e a
def K4(W:World)(c:ByteArray)(e:DE)(u:Value)(w:World):Prop:=∃a,u=.agg (.string c::a).toArray/\RE9 (λb=>W.heap.size<=b) w e a
def K5(W:World)(d:ByteArray)(e:DE)(u:Value)(w:World):Prop:=∃b a,u=.slice (some ⟨b,0,none⟩) 1 1/\Blk w b 62 (.string d::a)/\RE9 (λc=>W.heap.size<=c) w e a
def K6(c:Rs (DE×Mk))(N0 mb:Nat)(f h g b:Value)(m:Mk)(W:World)(e:ByteArray)(u:Value)(w:World):Prop:=
 ∃a X,c=.ok a/\MkI X N0 mb f h g b a.2/\FrS mb W X/\CntM m a.2/\X.grownBy w b.ownBlock/\OwnL (RCk X) N0 62 9 (a.2.d.chks++[⟨e,a.1⟩]) u w
theorem K6.frI{i:Rs (DE×Mk)}{N0 mb n:Nat}{q s r d:Value}{m:Mk}{W:World}{p:ByteArray}{u:Value}{w:World}(h:K6 i N0 mb q s r d m W p u w):FrI N0 mb n n W w/\w.cell? ⟨mb,3,none⟩=some d:=by
 obtain⟨B,X,y,c,k,z,b,A⟩:=h;have g:∀a,d.ownBlock=some a->N0<=a/\Tag X a 62:=λa f=>c.chk.tag f
 have o:some mb≠d.ownBlock:=λe=>absurd ((g mb e.symm).2.one c.blk.tag) zD
 refine⟨(FrI.of_chg k).trans ⟨b.os,b.tape,b.output,b.size,λa f t v x j=>b.block a f (λe=>j ⟨(g a e.symm).1,.inr (.inr (g a e.symm).2)⟩)⟩,?_⟩;have l:Blk w mb 99 _:=(b.block mb c.blk.lt o).trans c.blk;simpa using l.cell 3
theorem KJ.frI{b:Rs (DE×Mk)}{N0 mb n:Nat}{f i g a:Value}{m:Mk}{W:World}{c:DE->Value->World->Prop}{u:Value}{w:World}(h:KJ b N0 mb f i g a m W c u w):FrI N0 mb n n W w/\w.cell? ⟨mb,3,none⟩=some a:=by
 obtain⟨o,j,k,d,e,l⟩:=h;exact⟨.of_chg e,by simpa using d.blk.cell 3⟩
theorem EC.check{y w W g:World}{B N0 mb sb mp:Nat}{k v t p u:Value}{m:Mk}{s:Sc}{x:Rs (DE×Mk)}{r:ByteArray}(h:EC y B N0 mb sb mp k m s w)(D:Ext w W)(c:K6 x N0 mb k v t p m W r u g)(R:(m.d.chks.length:Int)+1<=m.count):
 ∃a,x=.ok a/\EC y B N0 mb sb mp k {a.2 with d:={a.2.d with chks:=a.2.d.chks++[⟨r,a.1⟩]}} s (g.setCell ⟨mb,3,none⟩ u)/\FrI N0 mb sb mp w (g.setCell ⟨mb,3,none⟩ u):=by
 have I:=(c.frI (n:=W.heap.size)).1;obtain⟨a,X,F,b,Q,q,l,G⟩:=c;obtain⟨V,U,S,T,M,N⟩:=(h.ext D).ex;have o:∀f,p.ownBlock=some f->N0<=f/\Tag X f 62:=λf c=>b.chk.tag c
 have K:some mb≠p.ownBlock:=λe=>absurd ((o mb e.symm).2.one b.blk.tag) zD
 have z:Blk g mb 99 [k,v,t,p,.int .i64 a.2.count,.int .i64 a.2.bits]:=(l.block mb b.blk.lt K).trans b.blk;have C:Kp X (g.setCell ⟨mb,3,none⟩ u):=jI (af X) l (λf c=>⟨_,(o f c).2,by unfold dx;decide⟩) b.blk.tag (by unfold dx;decide);have J:MkI (g.setCell ⟨mb,3,none⟩ u) N0 mb k v t u {a.2 with d:={a.2.d with chks:=a.2.d.chks++[⟨r,a.1⟩]}}:=by
  refine⟨by simpa using z.set_ 3 u,?_,?_,?_,b.base⟩
  ·exact b.sig.chg (λE _ j=>gR (af X) l j (λf c=>⟨_,(o f c).2,zD⟩) b.blk.tag zD) (λ_ _ h=>h)
  ·exact b.prc.chg (λE _ j=>gR (af X) l j (λf c=>⟨_,(o f c).2,zD⟩) b.blk.tag zD) (RPc.keep C)
  ·exact lJ G z.tag zD (RCk.keep C)
 have A:FrI N0 mb W.heap.size W.heap.size W (g.setCell ⟨mb,3,none⟩ u):=I.trans (.of_chg (dD _ _ _ _));have j:=(cb (N0:=N0) (mb:=mb) (sb:=sb) (mp:=mp) D).trans (A.wide (sb:=sb) (mp:=mp) (ac _));have H:=q.d;have i:=(h.inv.cnt q);refine⟨a,F,h.frI j J (N.frI A (ac _) M.blk.tag) (by show Good a.2.d.sigs s;rw[H];exact h.gd) ⟨i.c0,i.c1,i.b0,i.b1,i.sg,i.pr,?_⟩,j⟩;obtain⟨n,L,O,P⟩:=q;show(((a.2.d.chks++[_]).length:Nat):Int)<=a.2.count;rw[List.length_append,L];simp only[List.length_cons,List.length_nil];show((m.d.chks.length+1:Nat):Int)<=n;omega
theorem uM(a9:World)(B N0 mb:Nat)(q:Value)(inst:Itm->Sc->Mk->Rs Mk)(k:Nat)(t:Itm)(d8:t.op=10)(g5:∀O,O∈t.x->VX O)(h2:t.x.length=1)(g4:∀O,O∈t.x->MayX O)(t2:t.name.size<=64):eF a9 B N0 mb q inst k t:=by
 intro V e2 a s w c7 i j0 s7 t3 d0;have a8:=Hd i;have s1:=i.inv.b0;have s2:=i.inv.b1;have v0:=i.inv.sg;have t5:=i.inv.pr;have s3:=i.inv.c0;have s4:=i.inv.c1;obtain⟨t1,v1,t8,k0,t4,t6,r6⟩:=i.mlt;obtain⟨o7,o8,o9,p0,M,p1,rfl,Z,a3,a4,a5,L,f5⟩:=RI_iff.1 d0;have v7:=Z.oneCell;have v8:=a3.oneCell;have v9:=a4.oneCell;have w0:=a5.oneCell;have w1:=L.oneCell;have w2:=f5.oneCell;have i3:=Hd Z;have p6:=Hd a3;have p7:=Hd a4;have p8:=Hd a5;have p5:=Hd d0;obtain⟨c4,f6,g6,d3⟩:=aL w (.pointer (some ⟨mb,0,none⟩)) 97;obtain⟨a2,f7,e1,d4⟩:=aL c4 (.pointer (some ⟨V,0,none⟩)) 100;obtain⟨c,f8,b5,d5⟩:=bM a2 (.int .i64 t.op) (.string t.name) (.string t.of) o7 o8 o9 p0 M p1 37;have r7:=f6.symm;have r8:=f7.symm;have w3:w.heap.size<c4.heap.size:=d3.lt;have w4:c4.heap.size<a2.heap.size:=d4.lt;have w5:a2.heap.size<c.heap.size:=d5.lt;have e4:=Hd (d3.ext (e1.trans b5));have e5:=Hd (d4.ext b5);have b8:=Hd d5;have c5:=Hd (g6.trans (e1.trans b5));have e6:=Hd (i.ext c5.o);obtain⟨D,d6⟩:=ae (W:=c) (w:=c) (af _);have i6:=f8.symm.trans d6;obtain⟨i5,q1,q2,q3,q4,q5,q6,q7,q8⟩:=b8.o.later9;have v5:=cellAt (e4.o.cell 0);have v6:=cellAt (e5.o.cell 0);have Y:=Hd d6;clear d6 f6 f7 f8 g6 e1 b5 d3 d4 d5 i Z a3 a4 a5 L f5 d0;have t9:1+aa al t.x<=1000000000:=by have:=bq t;omega
 obtain⟨v4,l9,rfl,s6,g3⟩:=i3.o;have b4:0<t.x.length:=by omega
 obtain⟨f2,h1,w6,j3,i9,j4,c9,j5,d1⟩:=g3 0 b4;subst j3;have i2:=Hd (XOk.of (an b4) d1 zO g5);obtain⟨p4,rfl,f4⟩:=RX_iff.1 d1;simp only[Nat.zero_mul,Nat.add_zero] at c9;have k3:=dh (k:=0) b4;have u0:=f4.oneCell;have h8:=Hd c9;have s5:(0:Int)<(t.x.length:Int):=by omega
 have i0:=Hd (g4 _ (an b4));have e7:=Hd (show aF inst t s a=(do let O<-aG s t.x[0] a;return(s,{O.2 with d:={O.2.d with chks:=O.2.d.chks++[⟨s.path++t.name,O.1⟩]}})) by rw[mB inst t s a d8,show xAt t.x 0=t.x[0] from k3]);obtain⟨A,z,w7,p2,e0⟩:=e6.o.stc;obtain⟨l,m,rfl⟩:=e0.mk_.chk.form;have c3:=Hd e0;have t7:s.path.size<=1000000000:=by omega
 have d9:¬(9223372036854775807<s.path.size+t.name.size):=by omega
 have s9:=a8.o.lo;have s8:=a8.o.ls;have h9:=Hd (show a.d.chks.length<=65536 by have:=a8.o.inv.ck;omega);generalize t.x[0]=x0 at*;rw[d8] at i6 i5;rw[d8];clear g3 d1 f4 j4 i9 c9 j5 e0 g4 g5 h2;have t0:¬w.heap.size=mb:=by omega
 go_enter func76,ntmps76;go_wp2_with fail
 refine eO 25 (eqS [19,20,21,22,23,24] [.pointer (some ⟨mb,0,none⟩),.pointer (some ⟨mb,0,none⟩),.pointer (some ⟨mb,0,none⟩),.pointer (some ⟨mb,1,none⟩),.pointer (some ⟨mb,3,none⟩),.slice l a.d.chks.length m,.pointer (some ⟨V,0,none⟩),.pointer (some ⟨V,0,none⟩),.pointer (some ⟨V,2,none⟩),.string s.path,.pointer (some ⟨a2.heap.size,1,none⟩),.string t.name,.string (s.path++t.name),.pointer (some ⟨mb,0,none⟩),.pointer (some ⟨V,0,none⟩),.pointer (some ⟨a2.heap.size,3,none⟩),.slice (some ⟨f2,h1,none⟩) t.x.length l9,.pointer (some ⟨f2,h1,none⟩),.agg #[.int .i64 x0.op,.string x0.name,.int .i64 x0.n,.int .i64 x0.w,.int .u64 x0.v,p4],undef,undef,undef,undef,undef,undef]) (chJ [(19,λr w=>Ext D.w w),(20,λr w=>KJ (aG s x0 a) N0 mb q A z (.slice l a.d.chks.length m) a c (K1 c) (r 112) w),(21,λr w=>KJ (aG s x0 a) N0 mb q A z (.slice l a.d.chks.length m) a c (K2 c) (r 113) w),(22,λr w=>KJ (aG s x0 a) N0 mb q A z (.slice l a.d.chks.length m) a c (K3 c) (r 114) w),(23,λr w=>KJ (aG s x0 a) N0 mb q A z (.slice l a.d.chks.length m) a c (K4 c (s.path++t.name)) (r 115) w),(24,λr w=>KJ (aG s x0 a) N0 mb q A z (.slice l a.d.chks.length m) a c (K5 c (s.path++t.name)) (r 116) w)] (λr w=>K6 (aG s x0 a) N0 mb q A z (.slice l a.d.chks.length m) a c (s.path++t.name) (r 117) w)) (λf3 U=>∃K,aG s x0 a=.error K/\f3=aR K/\FrS mb c U) zK (λ_ _ _ _ i=>i) zK zK ?_ (gI _ ((af _).drew)) ?_ (λu f3 U h j8=>by
  obtain⟨K,y,rfl,k2⟩:=j8;obtain⟨tA,r5⟩:=u;simp only at h;subst h;have i1:=Hd (show RunsP (aF inst t s a) (ER a9 B N0 mb V e2 q (aj t) s w) (FrI N0 mb V e2 w) (.panicked (aR K)) U from .no (by rw[e7.o,y];rfl) ((cb c5.o).trans (.of_chg k2)));exact⟨rfl,i1.o⟩) ?_
 ·simp[GuardsMet]
 ·refine⟨?_,?_,?_,?_,?_,?_,?_,?_,?_,?_,?_,?_,?_,?_,?_,?_,?_,?_,?_,?_,?_,?_,?_,?_,?_,trivial⟩;rotate_left 19
  ·refine StepI.chain 0 rfl zK zK ?_;intro u j p f h J;replace p:=Hd p;have m4:=ab h 13 106 zK rfl;simp[eqS] at m4;have m5:=ab h 14 107 zK rfl;simp[eqS] at m5;have m9:=ab h 18 111 zK rfl;simp[eqS] at m9;clear h J;replace f:Ext D.w j:=f;have i4:=Hd (ir a9 B N0 mb V e2 q A z _ p2 a s x0 _ j (c3.o.ext (D.ext.trans f)) i2.o i0.o);have b9:=Hd (D.ext.trans f);clear f;go_simp;refine i4.o.mono ?_;rintro e e3 (⟨g,b7,y,rfl,d9,C,F,E⟩|⟨K,y,rfl,F⟩);rotate_left
   ·exact⟨rfl,K,y,rfl,b9.o.chg.trans F⟩
   have P:=Hd (show KJ (aG s x0 a) N0 mb q A z (.slice l a.d.chks.length m) a c (K1 c) b7 e3 from⟨g,y,SlE9.turn d9 (bg (λ_=>False) e3) (λq0 _ k4=>⟨id,ad b9.o.size k4⟩),C,b9.o.chg.trans F,E⟩);clear y d9 C F E;go_simp;refine⟨_,rfl,trivial,?_⟩;show KJ (aG s x0 a) N0 mb q A z (.slice l a.d.chks.length m) a c (K1 c) (tau (u.put (some 112) (b7)) 112) e3;rw[dX (by rw[p.o];exact of_decide_eq_true zK)];exact P.o
  ·refine StepI.chain 1 rfl zK zK ?_;intro u j p f h J;replace p:=Hd p;clear h J;obtain⟨g,y,d7,C,F,E⟩:=f;obtain⟨w9,h7,H,k6,g8⟩:=d7;obtain⟨N,o,K,k5,i7,k1,j1,a7,j6,G⟩:=g8 0 zS;subst k5;have H:tau u 112=.slice (some ⟨N,o,none⟩) 1 h7:=H;have n7:u.tmps.getD 112 undef=.slice (some ⟨N,o,none⟩) 1 h7:=H;simp only[Array.getD_eq_getD_getElem?] at n7;have P:=Hd (show KJ (aG s x0 a) N0 mb q A z (.slice l a.d.chks.length m) a c (K2 c) (.pointer (some ⟨N,o,none⟩)) j from⟨g,y,⟨N,o,K,rfl,by simpa using a7,G⟩,C,F,E⟩);clear y C F E H k6 g8 i7 k1 j1 a7 j6 G;go_simp;refine⟨_,rfl,trivial,?_⟩;show KJ (aG s x0 a) N0 mb q A z (.slice l a.d.chks.length m) a c (K2 c) (tau (u.put (some 113) (.pointer (some ⟨N,o,none⟩))) 113) j;rw[dX (by rw[p.o];exact of_decide_eq_true zK)];exact P.o
  ·refine StepI.chain 2 rfl zK zK ?_;intro u j p f h J;replace p:=Hd p;clear h J;obtain⟨g,y,⟨N,o,K,H,a7,G⟩,C,F,E⟩:=f;have n8:u.tmps.getD 113 undef=.pointer (some ⟨N,o,none⟩):=H;simp only[Array.getD_eq_getD_getElem?] at n8;obtain⟨M,rfl,L⟩:=RE9_iff.1 G;have h3:=L.oneCell;obtain⟨l2,l3,l4,l5,l6,l7,l8,v3⟩:=a7.get8;obtain⟨e,a0⟩:∃e,e=g.1:=⟨_,rfl⟩;have P:=Hd (show KJ (aG s x0 a) N0 mb q A z (.slice l a.d.chks.length m) a c (K3 c) (.agg #[.int .i64 e.op,.int .i64 e.w,.int .u64 e.v,.int .i64 e.sig,.int .i64 e.hi,.int .i64 e.lo,.int .i64 e.n,M]) j from⟨g,y,⟨_,rfl,a0▸G⟩,C,F,E⟩);rw[<-a0] at l2 l3 l4 l5 l6 l7 l8;clear y C F E H a7 G L a0;go_simp;refine⟨_,rfl,trivial,?_⟩;show KJ (aG s x0 a) N0 mb q A z (.slice l a.d.chks.length m) a c (K3 c) (tau (u.put (some 114) (.agg #[.int .i64 e.op,.int .i64 e.w,.int .u64 e.v,.int .i64 e.sig,.int .i64 e.hi,.int .i64 e.lo,.int .i64 e.n,M])) 114) j;rw[dX (by rw[p.o];exact of_decide_eq_true zK)];exact P.o
  ·refine StepI.chain 3 rfl zK zK ?_;intro u j p f h J;replace p:=Hd p;have m3:=ab h 12 105 zK rfl;simp[eqS] at m3;clear h J;obtain⟨g,y,⟨K,H,G⟩,C,F,E⟩:=f;obtain⟨M,rfl,L⟩:=RE9_iff.1 G;have h3:=L.oneCell;have h5:u.tmps.getD 114 undef=.agg #[.int .i64 g.1.op,.int .i64 g.1.w,.int .u64 g.1.v,.int .i64 g.1.sig,.int .i64 g.1.hi,.int .i64 g.1.lo,.int .i64 g.1.n,M]:=H;simp only[Array.getD_eq_getD_getElem?] at h5;obtain⟨e,a0⟩:∃e,e=g.1:=⟨_,rfl⟩;have P:=Hd (show KJ (aG s x0 a) N0 mb q A z (.slice l a.d.chks.length m) a c (K4 c (s.path++t.name)) (.agg #[.string (s.path++t.name),.int .i64 e.op,.int .i64 e.w,.int .u64 e.v,.int .i64 e.sig,.int .i64 e.hi,.int .i64 e.lo,.int .i64 e.n,M]) j from⟨g,y,⟨_,rfl,a0▸G⟩,C,F,E⟩);rw[<-a0] at h5;clear y C F E H G L a0;go_simp;refine⟨_,rfl,trivial,?_⟩;show KJ (aG s x0 a) N0 mb q A z (.slice l a.d.chks.length m) a c (K4 c (s.path++t.name)) (tau (u.put (some 115) (.agg #[.string (s.path++t.name),.int .i64 e.op,.int .i64 e.w,.int .u64 e.v,.int .i64 e.sig,.int .i64 e.hi,.int .i64 e.lo,.int .i64 e.n,M])) 115) j;rw[dX (by rw[p.o];exact of_decide_eq_true zK)];exact P.o
  ·refine StepI.chain 4 rfl zK zK ?_;intro u j p f h J;replace p:=Hd p;clear h J;obtain⟨g,y,⟨K,H,G⟩,C,F,E⟩:=f;obtain⟨M,rfl,L⟩:=RE9_iff.1 G;have h3:=L.oneCell;have n9:u.tmps.getD 115 undef=.agg #[.string (s.path++t.name),.int .i64 g.1.op,.int .i64 g.1.w,.int .u64 g.1.v,.int .i64 g.1.sig,.int .i64 g.1.hi,.int .i64 g.1.lo,.int .i64 g.1.n,M]:=H;simp only[Array.getD_eq_getD_getElem?] at n9;obtain⟨f0,f9,b6,g0⟩:=bM j (.string (s.path++t.name)) (.int .i64 g.1.op) (.int .i64 g.1.w) (.int .u64 g.1.v) (.int .i64 g.1.sig) (.int .i64 g.1.hi) (.int .i64 g.1.lo) (.int .i64 g.1.n) M 62;have r9:=f9.symm;have P:=Hd (show KJ (aG s x0 a) N0 mb q A z (.slice l a.d.chks.length m) a c (K5 c (s.path++t.name)) (.slice (some ⟨j.heap.size,0,none⟩) 1 1) f0 from⟨g,y,⟨_,_,rfl,g0,G.ext b6⟩,C.ext b6,F.trans b6.chg,E⟩);clear y C F E H G L f9 b6 g0;go_simp;refine⟨_,rfl,trivial,?_⟩;show KJ (aG s x0 a) N0 mb q A z (.slice l a.d.chks.length m) a c (K5 c (s.path++t.name)) (tau (u.put (some 116) (.slice (some ⟨j.heap.size,0,none⟩) 1 1)) 116) f0;rw[dX (by rw[p.o];exact of_decide_eq_true zK)];exact P.o
  ·refine StepI.chain 5 rfl zK zK ?_;intro u j p f h J;replace p:=Hd p;have h4:=ab h 5 98 zK rfl;simp[eqS] at h4;clear h J;obtain⟨g,y,⟨N,K,H,i8,G⟩,C,F,E⟩:=f;have o0:u.tmps.getD 116 undef=.slice (some ⟨N,0,none⟩) 1 1:=H;have g1:=C.chk;rw[E.d] at g1;refine uV (R:=RCk j) (.tmp 98) (.tmp 116) 48 rfl N0 62 _ 9 96 tG underlying48 rfl zD zD a.d.chks ⟨s.path++t.name,g.1⟩ (.slice l a.d.chks.length m) (by simpa [Act.eval] using h4) g1 N 1 _ (by simpa [Act.eval] using o0) i8 (by rw[List.length_cons,G.len]) (λb7 a1=>by
    rcases List.mem_cons.1 a1 with rfl|a1
    ·rfl
    ·exact G.one b7 a1) ⟨K,rfl,RE9.re8 _ _ G⟩ (by have:=h9.o;omega) (ad C.base (Nat.le_of_lt C.blk.lt)) ?_
   intro h6 p3 j7 j2 _;refine⟨h6,rfl,trivial,?_⟩;show K6 (aG s x0 a) N0 mb q A z (.slice l a.d.chks.length m) a c (s.path++t.name) (tau (u.put (some 117) h6) 117) p3;rw[dX (by rw[p.o];exact of_decide_eq_true zK)];exact⟨g,j,y,C,F,E,j2,by rw[E.d];exact j7⟩
  all_goals
   refine StepI.plain (S:=[19,20,21,22,23,24]) (T:=[112,113,114,115,116,117]) (I:=λU=>FrI N0 mb D.w.heap.size D.w.heap.size D.w U/\U.cell? ⟨mb,3,none⟩=some (.slice l a.d.chks.length m)) (gi (T:=[112,113,114,115,116,117]) (λr a6 w b f=>?_) _ ⟨λr a6 w b f=>?_,λr a6 w b f=>?_,λr a6 w b f=>?_,λr a6 w b f=>?_,λr a6 w b f=>?_,λr a6 w b f=>?_,trivial⟩) (λp9 r w i=>hK (I:=λU=>FrI N0 mb D.w.heap.size D.w.heap.size D.w U/\U.cell? ⟨mb,3,none⟩=some (.slice l a.d.chks.length m)) i (λ_ _ i=>by rw[<-Y.o];exact K6.frI i) ⟨λ_ _ i=>⟨.of_ext i,by simpa using((c3.o.mk_.ext D.ext).ext i).blk.cell 3⟩,λ_ _ i=>by rw[<-Y.o];exact KJ.frI i,λ_ _ i=>by rw[<-Y.o];exact KJ.frI i,λ_ _ i=>by rw[<-Y.o];exact KJ.frI i,λ_ _ i=>by rw[<-Y.o];exact KJ.frI i,λ_ _ i=>by rw[<-Y.o];exact KJ.frI i,trivial⟩) zD zD ?_
   ·try simp only[b 112 zD,b 113 zD,b 114 zD,b 115 zD,b 116 zD,b 117 zD]
    exact f
   ·try simp only[b 112 zD,b 113 zD,b 114 zD,b 115 zD,b 116 zD,b 117 zD]
    exact f
   ·try simp only[b 112 zD,b 113 zD,b 114 zD,b 115 zD,b 116 zD,b 117 zD]
    exact f
   ·try simp only[b 112 zD,b 113 zD,b 114 zD,b 115 zD,b 116 zD,b 117 zD]
    exact f
   ·try simp only[b 112 zD,b 113 zD,b 114 zD,b 115 zD,b 116 zD,b 117 zD]
    exact f
   ·try simp only[b 112 zD,b 113 zD,b 114 zD,b 115 zD,b 116 zD,b 117 zD]
    exact f
   ·try simp only[b 112 zD,b 113 zD,b 114 zD,b 115 zD,b 116 zD,b 117 zD]
    exact f
   intro u j Q h J;try (have m0:=ab h 1 94 zD rfl;simp[eqS] at m0)
   try (have n0:=ab h 2 95 zD rfl;simp[eqS] at n0)
   try (have n1:=ab h 3 96 zD rfl;simp[eqS] at n1)
   try (have n2:=ab h 4 97 zD rfl;simp[eqS] at n2)
   try (have n3:=ab h 6 99 zD rfl;simp[eqS] at n3)
   try (have n4:=ab h 7 100 zD rfl;simp[eqS] at n4)
   try (have n5:=ab h 8 101 zD rfl;simp[eqS] at n5)
   try (have m1:=ab h 10 103 zD rfl;simp[eqS] at m1)
   try (have n6:=ab h 9 102 zD rfl;simp[eqS] at n6)
   try (have m2:=ab h 11 104 zD rfl;simp[eqS] at m2)
   try (have m6:=ab h 15 108 zD rfl;simp[eqS] at m6)
   try (have m7:=ab h 16 109 zD rfl;simp[eqS] at m7)
   try (have m8:=ab h 17 110 zD rfl;simp[eqS] at m8)
   have o1:=ah J 3 zK;simp at o1;have o2:=ah J 4 zK;simp at o2;have o3:=ah J 5 zK;simp at o3;clear h J;obtain⟨Q,v2⟩:=Q;have o4:a2.heap.size<D.w.heap.size:=by rw[<-Y.o];omega
   have g7:Ext a9 j:=Q.ext (e6.o.cx.ext.trans D.ext) zO zO zO zO;obtain⟨q9,r0,r1,r2,r3,r4⟩:=(h8.o.ext g7).get6;have k7:=(Q.blk (e4.o.ext D.ext) ⟨zD,zD,zD⟩ zO zO zO).cell 0;have k8:=(Q.blk (e5.o.ext D.ext) ⟨zD,zD,zD⟩ zO zO zO).cell 0;have k9:=(Q.blk (b8.o.ext D.ext) ⟨zD,zD,zD⟩ zO zO zO).cell 3;have l0:=(Q.blk (b8.o.ext D.ext) ⟨zD,zD,zD⟩ zO zO zO).cell 1;have l1:=(Q.blk (c3.o.sc.blk.ext D.ext) ⟨zD,zD,zD⟩ k0 zO zO).cell 2;try simp only[List.getElem?_cons_succ,List.getElem?_cons_zero] at k7 k8 k9 l0 l1
   clear Q g7 o4;exact zB
 ·intro u j d7;obtain⟨b2,rfl,g2,j9,f⟩:=d7.fin (n:=154) rfl;replace f:(λr w=>K6 (aG s x0 a) N0 mb q A z (.slice l a.d.chks.length m) a c (s.path++t.name) (r 117) w) b2 j:=gz _ rfl f;have h0:b2 93=.pointer (some ⟨mb,0,none⟩):=g2 0 93 rfl rfl;clear g2 j9;have e9:=Hd f;obtain⟨o5,o6,a1⟩:∃c6 k,b2 117=.slice c6 (a.d.chks.length+1) k:=by
   obtain⟨g,X,c8,h2,Z,a3,a4,a5⟩:=e9.o;obtain⟨c6,k,H⟩:=a5.form;rw[List.length_append,a3.d] at H;exact⟨c6,k,H⟩
  have g9:=a1;replace f:K6 (aG s x0 a) N0 mb q A z (.slice l a.d.chks.length m) a c (s.path++t.name) (b2 117) j:=f;rw[a1] at f;have c2:=Hd f;clear a1 f e9;simp only[List.drop_succ_cons,List.drop_zero];simp[List.range,List.range.loop,h0,g9];clear h0 g9;have w8:=(c2.o.frI (n:=0)).2;have b3:∃c7,Blk j mb 99 c7:=by
   obtain⟨g,X,c8,h2,Z,a3,a4,a5⟩:=c2.o;exact⟨_,(a4.block mb h2.blk.lt (λe=>absurd ((h2.chk.tag e.symm).2.one h2.blk.tag) zD)).trans h2.blk⟩
  obtain⟨c7,b3⟩:=b3;have x1:=b3.frozen 3;obtain⟨f1,d2⟩:∃f1,f1=j.setCell ⟨mb,3,none⟩ (.slice o5 (a.d.chks.length+1) o6):=⟨_,rfl⟩;have s0:=d2.symm;have e8:=Hd (a8.o.check c5.o c2.o j0);rw[<-d2] at e8;clear d2 b3;go_wp2_with fail
  obtain⟨g,c8,h2,Z⟩:=e8.o;refine bodyPost_ret (v:=aO) ?_ rfl (.ok (by rw[e7.o,c8];rfl) ⟨rfl,h2,Z,Nat.le_add_right _ _,rfl⟩);simp[results,results76,go_sem,aO]
