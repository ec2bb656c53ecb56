import Derived.Test.YtlfmlodanoolhaaGreatDoorY40
import Derived.Test.YtlfmlodanoolhaaGreatDoorY6
set_option linter.all false
set_option maxRecDepth 200000
set_option maxHeartbeats 32000000
namespace Go.Proofs.YtlfmlodanoolhaaGreatDoor
open Go Go.RowKit Go.Proofs.Tryz
attribute [local go_sem] bc
def eqS(S:List Nat)(vals:List Value)(i:Nat)(v:Value)(_:World):Prop:=if S.contains i=true then True else v=vals.getD i undef
def eO(W:World)(mp:Nat)(c:ByteArray)(env:List (ByteArray×Int))(vals:List Value)(i:Nat)(v:Value)(w:World):Prop:=
 if i=6 then∃b,v=.agg #[b,.map (some mp),.string c]/\SlT 85 RNm w 2 env b
 else if i=7 then∃a,v=.pointer (some ⟨a,0,none⟩)/\W.heap.size<=a/\Blk w a 126 [.slice none 0 0,.map none,.string ⟨#[]⟩]
 else v=vals.getD i undef
theorem sZ{W:World}{mp:Nat}{d:ByteArray}{env:List (ByteArray×Int)}{vals:List Value}{i:Nat}{v:Value}{w e:World}(h:eO W mp d env vals i v w)(c:Ext w e):eO W mp d env vals i v e:=by
 unfold eO at h⊢;split
 ·rename_i hi;rw[if_pos hi] at h;obtain⟨j,a,b⟩:=h;exact⟨j,a,b.keep (.inr (.inr rfl)) c.kp (λ_ _ _ h=>h)⟩
 rename_i hi
 rw[if_neg hi] at h;split
 ·rename_i hi;rw[if_pos hi] at h;obtain⟨f,a,b,g⟩:=h;exact⟨f,a,b,g.ext c⟩
 ·rename_i hi;rw[if_neg hi] at h;exact h
structure LpI(w0:World)(N N0 mb sb gm gs gx gt gk gr:Nat)(vf vs vp vc:Value)(clk:Bool)(x:S)(v2 v3:Value)(m:Mk)(a:List DT×Mk)(w:World):Prop where
 fr:FrS mb w0 w
 mk_:MkI w N0 mb vf vs vp vc a.2
 cn:CntM m a.2
 bm:Blk w gm 97 [.pointer (some ⟨mb,0,none⟩)]
 bs:Blk w gs 100 [.pointer (some ⟨sb,0,none⟩)]
 bx:Blk w gx 177 [.int .i64 x.op,.string x.name,v2,v3]
 bk:Blk w gk 4 [.bool clk]
 row:∃v5,Blk w gt 73 [.int .i64 5,.int .i64 0,.int .i64 0,.int .i64 0,.slice none 0 0,v5]/\OwnT N a.1 v5 w
 sz:N<=w.heap.size
 len:(a.1.length:Int)<=a.2.count
 br:Blk w gr 73 [.int .i64 0,.int .i64 0,.int .i64 0,.int .i64 0,.slice none 0 0,.slice none 0 0]
def fj(b:Rs (List DT×Mk))(N0 mb:Nat)(e g f d:Value)(m:Mk)(W:World)(u:Value)(w:World):Prop:=
 ∃a,b=.ok a/\SlT9 (λc=>W.heap.size<=c) w a.1 u/\MkI w N0 mb e g f d a.2/\FrS mb W w/\CntM m a.2
theorem StC.con{f w c:World}{B N0 mb sb mp g:Nat}{k n l j u e:Value}{m:Mk}{s:Sc}(h:StC f B N0 mb sb mp k n l j u m s w)(t:Ext w c){b:ByteArray}{v:Int}(o:Blk c g 126 [e,.map (some mp),.string s.path])(p:SlT 85 RNm c 2 (s.env++[(b,v)]) e)(r:bF v)(q:s.env.length+1<=1000000):
 StC f B N0 mb g mp k n l j e m (s.con b v) c:=by
 have d:=h.ext t;refine⟨d.cx,d.mk_,⟨o,p,d.sc.map⟩,⟨h.gd.at_,h.gd.w,by show(s.env++[(b,v)]).length<=_;rw[List.length_append];exact q,λi a=>?_⟩,h.c0,h.c1,h.lo⟩;rcases y2n.1 (show i∈s.env++[(b,v)] from a) with a|a
 ·exact h.gd.const i a
 ·rw[List.mem_singleton.1 a];exact r
theorem MkI.one{w:World}{N0 mb:Nat}{f l i c g n j d:Value}{m p:Mk}(h:MkI w N0 mb f l i c m)(k:MkI w N0 mb g n j d p):g=f/\n=l/\j=i/\d=c:=by
 have e:=h.blk.symm.trans k.blk;injection e with e;injection e with e;have e:=List.cons.inj (Array.mk.inj e);have a:=List.cons.inj e.2;have b:=List.cons.inj a.2;have o:=List.cons.inj b.2;exact⟨e.1.symm,a.1.symm,b.1.symm,o.1.symm⟩
theorem vK{q w0:World}{B b N0 mb sb mp c gs e d gk gr:Nat}{l p o k t:Value}{v:Bool}{x:S}{z A:Value}{m:Mk}{s:Sc}(h:StC q B N0 mb sb mp l p o k t m s w0)(F:mb<w0.heap.size)
 (r:w0.heap.size<=c/\c<b) (h2:w0.heap.size<=gs/\gs<b) (h3:w0.heap.size<=e/\e<b) (C:w0.heap.size<=d/\d<b) (D:w0.heap.size<=gk/\gk<b) (E:w0.heap.size<=gr/\gr<b):PassI q B N0 mb sb mp s (LpI w0 b N0 mb sb c gs e d gk gr l p o k v x z A m) Prod.snd (λa f=>(a.1,f)) (FrS mb w0) where
 ctx a w hj:=⟨l,p,o,k,t,h.frS hj.fr hj.mk_ hj.cn⟩
 ext a w w' hj hx:=by
  obtain⟨j,g,i⟩:=hj.row;exact⟨hj.fr.trans hx.chg,hj.mk_.ext hx,hj.cn,hj.bm.ext hx,hj.bs.ext hx,hj.bx.ext hx,hj.bk.ext hx,⟨j,g.ext hx,i.later hx⟩,ad hj.sz hx.size,hj.len,hj.br.ext hx⟩
 cnt a w w' vf' vs' vp' vc' f hj hk hk' hf hc:=by
  obtain⟨rfl,rfl,rfl,rfl⟩:=hj.mk_.one hk;obtain⟨j,g,i⟩:=hj.row;have H:=hj.len;have G:a.2.count<=f.count:=by obtain⟨n,r,h2,-⟩:=hc;rw[r];exact h2
  exact⟨hj.fr.trans hf,hk',hj.cn.trans hc,hf.blk hj.bm (show¬c=mb by omega),hf.blk hj.bs (show¬gs=mb by omega),hf.blk hj.bx (show¬e=mb by omega),hf.blk hj.bk (show¬gk=mb by omega),
   ⟨j,hf.blk g (show¬d=mb by omega),i.chg hf (λu y=>by have:u=mb:=y;omega)⟩,ad hj.sz hf.size,by show(a.1.length:Int)<=f.count;omega,hf.blk hj.br (show¬gr=mb by omega)⟩
 bad a w w' hj hf:=hj.fr.trans hf
theorem ot{body:Int->Mk->Rs (List DT×Mk)}:∀(n:Nat) (v:Int) (b:List DT) (m:Mk),dm (σ:=List DT×Mk) Prod.snd (λa c=>(a.1,c)) (λv a=>do let y<-body v a.2;return(a.1++y.1,y.2)) n v (b,m)=(do let z<-fH body n v m;return(b++z.1,z.2))
 |0,v,b,m=>by simp[dm,fH,bind,Except.bind,pure,Except.pure]
 |n+1,v,b,m=>by
  simp only[dm,fH,bind,Except.bind,pure,Except.pure];cases aZ 1 m with
  |error e=>rfl
  |ok m1=>
   simp only[];cases body v m1 with
   |error e=>rfl
   |ok y=>
    simp only[];have:=ot (body:=body) n (v+1) (b++y.1) y.2;simp only[bind,Except.bind,pure,Except.pure] at this;rw[this];cases fH body n (v+1) y.2 with
    |error e=>rfl
    |ok z=>simp
theorem wl(b1 w0:World)(B j N0 mb sb mp G gs y d gk gr:Nat)(L N M K f0:Value)(r:Bool)(m:Mk)(s:Sc)(x:S)(b9 a3:Value)(h:StC b1 B N0 mb sb mp L N M K f0 m s w0)(c7:SlK b1 B mb w0 x.l a3)(g9:s.env.length+aq x<=1000000)
 (g6:∀z,z∈x.l->dB b1 B N0 mb L N M K r 149 (aK r) z)
 (c6:w0.heap.size<=G/\G<j) (h2:w0.heap.size<=gs/\gs<j) (h3:w0.heap.size<=y/\y<j) (f8:w0.heap.size<=d/\d<j) (l1:w0.heap.size<=gk/\gk<j) (n9:w0.heap.size<=gr/\gr<j) (b:G≠d/\gs≠d/\y≠d/\gk≠d/\gr≠d) (o4:b9.oneCell'=true)
 (v:Int) (h1:bF v) (a:List DT×Mk) (w:World) (H:LpI w0 j N0 mb sb G gs y d gk gr L N M K r x b9 a3 m a w):
 Calls Tryz.prog 185 #[.int .i64 v,.pointer (some ⟨gs,0,none⟩),.pointer (some ⟨y,0,none⟩),.pointer (some ⟨d,0,none⟩),.pointer (some ⟨G,0,none⟩),.pointer (some ⟨gk,0,none⟩)] w
  (RunsP (do let z<-bE r (s.con x.name v) x.l a.2;return(a.1++z.1,z.2)) (λk5 e9 b0=>e9=aM/\LpI w0 j N0 mb sb G gs y d gk gr L N M K r x b9 a3 m k5 b0) (FrS mb w0)):=by
 have j1:=Hd h;have j6:=Hd c7;have j3:=Hd g6;have k:=Hd H;have o1:=h.mk_.blk.lt;have m3:=H.sz;obtain⟨o8,g3,d3⟩:=H.row;obtain⟨b7,b8,rfl⟩:=d3.form;have f3:=Hd g3;have f6:=Hd d3;have Q:=Hd (h.frS H.fr H.mk_ H.cn);have m2:s.env.length+1+ab aq x.l<=1000000:=by rw[bX] at g9;omega
 have l4:=Hd h1;have o5:=c7.oneCell;have o7:=Q.o.sc.env.oneCell;have k6:=cellAt (H.bs.cell 0);have k7:=cellAt (H.bx.cell 1);have k8:=cellAt (Q.o.sc.blk.cell 0);have k9:=cellAt (Q.o.sc.blk.cell 1);have l0:=cellAt (Q.o.sc.blk.cell 2);have k3:=Hd (λ(b0:World) (m4:Ext w b0)=>hU s f0 (.map (some mp)) x.name v b0 ((Q.o.ext m4).sc.env) rfl zO);clear h c7 g6 H g3 d3 g9 h1
 go_in
 go_wp2_with fail
 refine bT 8 (W:=w) (Ext) (eO w mp s.path (s.env++[(x.name,v)]) [.pointer (some ⟨sb,0,none⟩),.pointer (some ⟨sb,0,none⟩),.agg #[f0,.map (some mp),.string s.path],.pointer (some ⟨y,1,none⟩),.string x.name,.int .i64 v,undef,undef]) (λ_ _=>False) (λ_=>true) zK (bG) zK zK ?_ (ah _) (λo3 v w b0 h d6=>sZ h d6) ?_ (λF c4 w b d5=>d5.elim) ?_
 ·exact⟨rfl,rfl,rfl,rfl,rfl,rfl,rfl,rfl,trivial⟩
 ·refine⟨?_,?_,?_,?_,?_,?_,?_,?_,trivial⟩;rotate_left 6
  ·intro F g Z b f;obtain⟨u,rfl⟩:=ae Z;have e4:=aa b 2 10 zK rfl;simp[eO] at e4;have e6:=aa b 4 12 zK rfl;simp[eO] at e6;have e7:=aa b 5 13 zK rfl;simp[eO] at e7;clear b f;go_simp;refine(k3.o u.w u.ext).mono ?_;rintro e f1 ⟨P,rfl,E,h6⟩;have c3:=Hd E;clear E;go_simp;first|exact⟨_,rfl,h6,P,rfl,c3.o⟩|exact⟨h6,P,rfl,c3.o⟩|exact⟨_,rfl,P,rfl,c3.o⟩
  ·intro F g Z b f;obtain⟨u,rfl⟩:=ae Z;clear b f;obtain⟨R,U,h5,g2⟩:=fk u.w (.slice none 0 0) (.map none) (.string ⟨#[]⟩) 126;have l2:=U.symm;have f5:=Hd (an h5 g2);clear U h5 g2;go_simp;first|exact⟨_,rfl,f5.o.1,_,rfl,u.ext.size,f5.o.2⟩
  all_goals
   intro F g Z b f;obtain⟨u,rfl⟩:=ae Z;try (have e3:=aa b 0 8 zD rfl;simp[eO] at e3)
   try (have m9:=aa b 1 9 zD rfl;simp[eO] at m9)
   try (have e5:=aa b 3 11 zD rfl;simp[eO] at e5)
   have n1:=ag f 1 zK;simp at n1;have e8:=ag f 2 zK;simp at e8;have n0:=ag f 0 zK;simp at n0;clear b f;exact zA
 ·intro F g d2;obtain⟨c5,rfl,Z,a2,D⟩:=d2.fin (n:=24) rfl;obtain⟨u,rfl⟩:=ae Z;have d8:=D 0 zK;have d9:=D 1 zK;have e0:=D 2 zK;have a0:=D 3 zK;have e1:=D 4 zK;have e2:=D 5 zK;obtain⟨P,h8,d0⟩:=a2 6 14 rfl rfl;obtain⟨t,i2,b3,a8⟩:=a2 7 7 rfl rfl;clear a2 D;simp at d8 d9 e0 a0 e1 e2;simp only[List.drop_succ_cons,List.drop_zero];simp[List.range,List.range.loop,d8,d9,e0,a0,e1,e2,h8,i2];clear d8 d9 e0 a0 e1 e2 h8 i2;obtain⟨p3,p4,p5⟩:=a8.free3;obtain⟨p0,p1,p2⟩:=a8.get3;obtain⟨q,a6⟩:∃q,q=((u.w.setCell ⟨t,0,none⟩ P).setCell ⟨t,1,none⟩ (.map (some mp))).setCell ⟨t,2,none⟩ (.string s.path):=⟨_,rfl⟩;have o0:=a6.symm;have d7:Ext w q:=by rw[a6];exact((u.ext.setCell b3 _).setCell b3 _).setCell b3 _
  have g0:Blk q t 126 [P,.map (some mp),.string s.path]:=by rw[a6];exact a8.store3 _ _ _
  have g4:Chg (λc=>c=t) u.w q:=by rw[a6];exact(((cC (X:=λc=>c=t) (aV _ u.w) (p:=⟨t,0,none⟩) rfl _).setCell (p:=⟨t,1,none⟩) rfl _).setCell (p:=⟨t,2,none⟩) rfl _)
  have g5:SlT 85 RNm q 2 (s.env++[(x.name,v)]) P:=d0.keep (.inr (.inr rfl)) (g4.kp (λc V _=>⟨_,V▸a8.tag,by unfold dj;decide⟩)) (λ_ _ _ h=>h);have o6:=d0.oneCell;have j2:=Hd (Q.o.con d7 g0 g5 l4.o zO);have a4:=Hd d7;clear a6 d7 g0 g4 g5 a8 d0 b3;go_wp2_with fail
  clear k6 k7 k8 k9 l0;refine eD 7 (eqS [6] [.pointer (some ⟨d,5,none⟩),.slice b7 a.1.length b8,.pointer (some ⟨mb,0,none⟩),.pointer (some ⟨y,3,none⟩),a3,.bool r,undef]) (phJ 6 21 (λc1=>Ext q c1) (fj (bE r (s.con x.name v) x.l a.2) N0 mb L N M K a.2 q)) (λc4 c1=>∃a5,(do let z<-bE r (s.con x.name v) x.l a.2;return(a.1++z.1,z.2):Rs (List DT×Mk))=.error a5/\c4=aN a5/\FrS mb q c1) zK (λ_ _ _ _ h=>h) zK zK ?_ ((ah _).drew) ?_ (λF c4 c1 b d5=>by
   obtain⟨a5,C,rfl,d6⟩:=d5;obtain⟨tA,n7⟩:=F;simp only at b;subst b;exact⟨rfl,.no C ((k.o.fr.trans a4.o.chg).trans d6)⟩) ?_
  ·simp[GuardsMet]
  ·refine⟨?_,?_,?_,?_,?_,?_,?_,trivial⟩;rotate_left 6
   ·refine StepI.turn rfl zK ?_;intro F g O b f;have e4:=aa b 2 17 zK rfl;simp[eqS] at e4;have n5:=ag f 7 zK;simp at n5;have e6:=aa b 4 19 zK rfl;simp[eqS] at e6;have e7:=aa b 5 20 zK rfl;simp[eqS] at e7;clear b f;have k4:=Hd (hM b1 B N0 mb t mp L N M K P a.2 (s.con x.name v) r x.l a3 g (j2.o.ext O) ((j6.o.frS k.o.fr).frS (a4.o.trans O).chg) j3.o (by show(s.env++[(x.name,v)]).length+_<=_;rw[List.length_append];exact m2));have c2:=Hd O;clear O;go_simp;refine k4.o.mono ?_;rintro e f1 (⟨i,e9,C,rfl,E,a9,Y,a1⟩|⟨a5,C,rfl,Y⟩);rotate_left
    ·exact⟨rfl,a5,by rw[C];rfl,rfl,c2.o.chg.trans Y⟩
    have k0:=Hd (show fj (bE r (s.con x.name v) x.l a.2) N0 mb L N M K a.2 q e9 f1 from⟨i,C,SlT9.turn E (aV (λ_=>False) f1) (λc _ h7=>⟨id,ad c2.o.size h7⟩),a9,c2.o.chg.trans Y,a1⟩);clear C E a9 Y a1;go_simp;first|exact⟨_,rfl,trivial,k0.o⟩
   all_goals
    refine StepI.plain (S:=[6]) (T:=[21]) (I:=FrS mb q) gC (gX (λ_ h=>h.chg) (λ_ _ h=>by obtain⟨i,c6,h2,h3,f8,l1⟩:=h;exact f8)) zD zD ?_;intro F g f9 b f;try (have e3:=aa b 0 15 zD rfl;simp[eqS] at e3)
    try (have e5:=aa b 3 18 zD rfl;simp[eqS] at e5)
    have n2:=ag f 3 zK;simp at n2;have n3:=ag f 4 zK;simp at n3;have e8:=ag f 2 zK;simp at e8;have n4:=ag f 5 zK;simp at n4;clear b f;have a7:FrS mb w g:=a4.o.chg.trans f9;have m5:=(a7.blk f3.o (show¬d=mb by omega)).cell 5;have m6:=(a7.blk k.o.bm (show¬G=mb by omega)).cell 0;have m7:=(a7.blk k.o.bx (show¬y=mb by omega)).cell 3;have m8:=(a7.blk k.o.bk (show¬gk=mb by omega)).cell 0;try simp only[List.getElem?_cons_succ,List.getElem?_cons_zero] at m5 m6 m7 m8
    clear f9 a7;exact zB
  ·intro F g d2;obtain⟨c5,rfl,a2,D,O⟩:=d2.fin (n:=24) rfl;replace O:(fj (bE r (s.con x.name v) x.l a.2) N0 mb L N M K a.2 q) (c5 21) g:=O;have a0:=D 3 zK;have h9:c5 16=.slice b7 a.1.length b8:=a2 1 16 rfl rfl;clear a2 D;obtain⟨i,C,E,a9,Y,a1⟩:=O;obtain⟨i3,i4,b4⟩:=E.form;obtain⟨b5,m1⟩:∃b5,b5=i.1.length:=⟨_,rfl⟩;rw[<-m1] at b4;have i0:=b4;rw[b4] at E;clear b4;have A:FrS mb w g:=a4.o.chg.trans Y;have o2:w.heap.size<=q.heap.size:=a4.o.size;have j9:=Hd (f6.o.chg A (λc V=>by have:c=mb:=V;omega));have i9:=Hd (A.blk f3.o (show¬d=mb by omega));have i6:=Hd (A.blk k.o.bm (show¬G=mb by omega));have i8:=Hd (A.blk k.o.bs (show¬gs=mb by omega));have j0:=Hd (A.blk k.o.bx (show¬y=mb by omega));have i5:=Hd (A.blk k.o.bk (show¬gk=mb by omega));have i7:=Hd (A.blk k.o.br (show¬gr=mb by omega));have k2:=Hd (show SlT9 (λc=>j<=c/\(Value.slice b7 a.1.length b8).ownBlock≠some c) g i.1 (.slice i3 b5 i4) from SlT9.turn E (aV (λ_=>False) g) (λc V h7=>⟨id,zO,λe=>by have:=(f6.o.lt c e).2;omega⟩));have j8:=Hd a9;have f4:=Hd (k.o.cn.trans a1);have j4:=Hd (k.o.fr.trans A);have k1:=Hd (show(do let z<-bE r (s.con x.name v) x.l a.2;return(a.1++z.1,z.2):Rs (List DT×Mk))=.ok (a.1++i.1,i.2) by rw[C];rfl);have g1:j<=g.heap.size:=ad m3 A.size;have l5:=k.o.len;have l6:=ws C;have l7:=Q.o.c0;have l8:i.2.count<=65536:=by obtain⟨n,c6,-,h2⟩:=a1;rw[c6];exact h2
   have l9:a.1.length<=1000000000:=by omega
   have m0:i.1.length<=1000000000:=by omega
   have j7:=Hd (show((a.1++i.1).length:Int)<=i.2.count by rw[List.length_append];omega);clear l5 l6 l7 l8;clear C E a9 a1 A Y;simp at a0;simp only[List.drop_succ_cons,List.drop_zero];simp[List.range,List.range.loop,a0,h9,i0];clear a0 h9 i0
   go_wp2_with (first
    |(at_builtin;go_loud (
      refine rk rfl _ _ 68 rfl j _ 80 jG underlying68 rfl zD a.1 i.1 (.slice b7 a.1.length b8) (.slice i3 b5 i4) rfl j9.o rfl k2.o l9 m0 g1 ?_;intro o9 f2 d4 g7 g8;have c8:Chg (λc=>j<=c) g f2:=Chg.grown (aV _ g) g7 (λt l3 _=>g8 t l3);have b2:=c8.blk i9.o zO;have n6:=b2.cell 5;have n8:=b2.frozen 5;simp only[List.getElem?_cons_succ,List.getElem?_cons_zero] at n6;obtain⟨f7,i1,h4⟩:=d4.form;obtain⟨b6,h0⟩:∃b6,b6=(a.1++i.1).length:=⟨_,rfl⟩;rw[<-h0] at h4;subst h4;obtain⟨R,U⟩:∃R,R=f2.setCell ⟨d,5,none⟩ (.slice f7 b6 i1):=⟨_,rfl⟩;have l2:=U.symm;have c9:Chg (λc=>c=d) f2 R:=by rw[U];exact dt _ _ _ _
      have J:Chg (λc=>j<=c\/c=d) g R:=(c8.mono (λ_ _ h=>.inl h)).trans (c9.mono (λ_ _ h=>.inr h));have d1:FrS mb w0 R:=j4.o.trans_new J (λc V=>by omega)
      have j5:=Hd (show LpI w0 j N0 mb sb G gs y d gk gr L N M K r x b9 a3 m (a.1++i.1,i.2) R from
       ⟨d1,j1.o.mk_.back d1 j8.o J zO f4.o,f4.o,J.blk i6.o zO,J.blk i8.o zO,J.blk j0.o zO,J.blk i5.o zO,
        ⟨_,by rw[U];simpa using b2.set_ 5 (.slice f7 b6 i1),d4.chg c9 (λc V=>by have:c=d:=V;omega)⟩,ad g1 J.size,j7.o,J.blk i7.o zO⟩)
      clear d4 g7 g8 c8 b2 U c9 J d1 h0)))
   go_end0
   exact .ok k1.o ⟨rfl,j5.o⟩
theorem wm(c2:World)(B N0 mb:Nat)(e6 e8 e7 e5:Value)(d:Bool)(x:S)(b1:x.op=1)(b3:∀c,c∈x.x->VX c)(d4:∀c,c∈x.x->MayX c)(h2:x.x.length=2)(d7:∀c,c∈x.x.head?->c.op=3\/c.op=4->0<c.l.length):dB c2 B N0 mb e6 e8 e7 e5 d 149 (aK d) x:=by
 intro P k2 l5 N s w m1 i i9 i2;have f7:=Hd i;have o3:=i.mk_.blk.lt;have n9:=i.c1;obtain⟨l3,l4,rfl,j,a9⟩:=i2;have p3:=a9.oneCell;have p2:=j.oneCell;have l7:=Hd a9;have g7:=Hd j;obtain⟨R,c9,d8,a1⟩:=aJ w (.pointer (some ⟨mb,0,none⟩)) 97;obtain⟨r,d0,j,a2⟩:=aJ R (.pointer (some ⟨P,0,none⟩)) 100;obtain⟨T,d1,M,a3⟩:=bH r (.int .i64 x.op) (.string x.name) l3 l4 177;obtain⟨b,d2,C,a4⟩:=aJ T (.bool d) 4;obtain⟨t,d3,q,a5⟩:=aW b (.int .i64 0) (.int .i64 0) (.int .i64 0) (.int .i64 0) (.slice none 0 0) (.slice none 0 0) 73;have n4:=c9.symm;have n5:=d0.symm;have i3:=d1.symm;have n6:=d2.symm;have p6:w.heap.size<R.heap.size:=a1.lt;have p7:R.heap.size<r.heap.size:=a2.lt;have p8:r.heap.size<T.heap.size:=a3.lt;have p9:T.heap.size<b.heap.size:=a4.lt;have q0:b.heap.size<t.heap.size:=a5.lt;have f3:=Hd (a1.ext (j.trans (M.trans (C.trans q))));have f5:=Hd (a2.ext (M.trans (C.trans q)));have f6:=Hd (a3.ext (C.trans q));have f2:=Hd (a4.ext q);have f4:=Hd a5;have U:=Hd (d8.trans (j.trans (M.trans (C.trans q))));have Q:=Hd (i.ext U.o);obtain⟨i1,a7⟩:=ae (W:=t) (w:=t) (ah _);have n7:=d3.symm.trans a7;obtain⟨c4,h0,h1,h3⟩:=f6.o.later4;have o9:=cellAt (f3.o.cell 0);have p0:=cellAt (f5.o.cell 0);have o7:=cellAt (f2.o.cell 0);have l8:=Hd a7;clear a7 c9 d0 d1 d2 d3 d8 j M C q a1 a2 a3 a4 a5 i a9;have o4:1+ab am x.x+ab aq x.l<=1000000:=by rw[<-bX];omega
 obtain⟨o8,e4,rfl,o2,b0⟩:=g7.o;have K:0<x.x.length:=by omega
 have A:1<x.x.length:=by omega
 obtain⟨F,O,q2,i7,i4,j0,X,j2,Z⟩:=b0 0 K;obtain⟨l9,p1,q3,i8,i5,j1,Y,j3,a0⟩:=b0 1 A;subst i7;injection i8 with V;injection V with V i0;subst V;subst i0;have g5:=Hd (XOk.of (ao K) Z zO b3);have g6:=Hd (XOk.of (ao A) a0 zO b3);have g0:=Hd (d4 _ (ao A));have g3:=Hd (d7 x.x[0] (by rw[List.head?_eq_getElem?,List.getElem?_eq_getElem K];exact rfl));obtain⟨f0,rfl,c7⟩:=RX_iff.1 Z;obtain⟨f1,rfl,c8⟩:=RX_iff.1 a0;simp only[Nat.zero_mul,Nat.add_zero,Nat.one_mul] at X Y;have c0:=Hd (show aK d x s N=cJ s d x.x[0] x.x[1] N by rw[fT];unfold fg;rw[if_pos b1,cR (k:=0) K,cR (k:=1) A]);generalize x.x[0]=x0 at*;generalize x.x[1]=x1 at*;have u0:=c7.oneCell;have u1:=c8.oneCell;obtain⟨h4,h5,h6,h7,h8,h9⟩:=(X.ext Q.o.cx.ext).later6;obtain⟨k3,k4,b6,b7,b8,k5⟩:=(Y.ext Q.o.cx.ext).later6;have o0:(0:Int)<(x.x.length:Int):=by omega
 have o1:(1:Int)<(x.x.length:Int):=by omega
 rw[b1] at i3 c4;clear b0 Z a0 c7 c8 j0 j1 i4 i5 X Y j2 j3 A h2 b3 d4 d7 j i9;rw[b1];go_enter func149,ntmps149;go_wp2_with fail
 refine bT 11 (W:=t) (Ext) (eqG [.pointer (some ⟨mb,0,none⟩),.pointer (some ⟨P,0,none⟩),.pointer (some ⟨r.heap.size,2,none⟩),.slice (some ⟨F,O,none⟩) x.x.length e4,.pointer (some ⟨F,O,none⟩),.agg #[.int .i64 x0.op,.string x0.name,.int .i64 x0.n,.int .i64 x0.w,.int .u64 x0.v,f0],.pointer (some ⟨r.heap.size,2,none⟩),.slice (some ⟨F,O,none⟩) x.x.length e4,.pointer (some ⟨F,O+6,none⟩),.agg #[.int .i64 x1.op,.string x1.name,.int .i64 x1.n,.int .i64 x1.w,.int .u64 x1.v,f1],.bool d]) (λ_ _=>False) (λ_=>true) zK (bG) zK zK ?_ (af i1) (λo6 v w q5 i j5=>eU i j5) ?_ (λb9 m0 w g j4=>j4.elim) ?_
 ·exact⟨rfl,rfl,rfl,rfl,rfl,rfl,rfl,rfl,rfl,rfl,rfl,trivial⟩
 ·refine⟨?_,?_,?_,?_,?_,?_,?_,?_,?_,?_,?_,trivial⟩
  all_goals
   intro b9 l6 b4 g y;obtain⟨f,rfl⟩:=ae b4;try (have b6:=aa g 2 19 zD rfl;simp[eqG] at b6)
   try (have b7:=aa g 3 20 zD rfl;simp[eqG] at b7)
   try (have b8:=aa g 4 21 zD rfl;simp[eqG] at b8)
   try (have k6:=aa g 6 23 zD rfl;simp[eqG] at k6)
   try (have k7:=aa g 7 24 zD rfl;simp[eqG] at k7)
   try (have k8:=aa g 8 25 zD rfl;simp[eqG] at k8)
   have k9:=ag y 4 zK;simp at k9;have l0:=ag y 5 zK;simp at l0;have l1:=ag y 6 zK;simp at l1;have l2:=ag y 7 zK;simp at l2;clear g y;exact zA
 ·intro b9 l6 i6;obtain⟨u,rfl,b4,p,d6⟩:=i6.fin (n:=120) rfl;obtain⟨f,rfl⟩:=ae b4;have b5:=d6 8 zK;have d9:u 17=.pointer (some ⟨mb,0,none⟩):=p 0 17 rfl rfl;have e0:u 18=.pointer (some ⟨P,0,none⟩):=p 1 18 rfl rfl;have e1:u 22=.agg #[.int .i64 x0.op,.string x0.name,.int .i64 x0.n,.int .i64 x0.w,.int .u64 x0.v,f0]:=p 5 22 rfl rfl;have e2:u 26=.agg #[.int .i64 x1.op,.string x1.name,.int .i64 x1.n,.int .i64 x1.w,.int .u64 x1.v,f1]:=p 9 26 rfl rfl;have e3:u 27=.bool d:=p 10 27 rfl rfl;clear p d6;simp at b5;simp only[List.drop_succ_cons,List.drop_zero];simp[List.range,List.range.loop,b5,d9,e0,e1,e2,e3];clear b5 d9 e0 e1 e2 e3;have g8:=Hd (mq c2 B N0 mb P k2 e6 e8 e7 e5 l5 N s d x0 x1 _ _ f.w (Q.o.ext f.ext) g5.o g6.o g3.o g0.o);go_wp2_with fail
  go_at_call 108;refine g8.o.mono ?_;rintro e e9 (⟨a,q4,L,rfl,g9,rfl,b2,d5,z,a6⟩|⟨g9,L,rfl,z⟩);rotate_left
  ·exact⟨rfl,.no (by rw[c0.o,L]) ((U.o.trans f.ext).chg.trans z)⟩
  have G:=z.blk (f4.o.ext f.ext) (show¬b.heap.size=mb by omega);have q1:t.heap.size<=f.w.heap.size:=f.ext.size;obtain⟨D,E,rfl,c5,c6⟩:=RT9_iff.1 b2;have p4:=c5.oneCell;have p5:=c6.oneCell;obtain⟨m2,m3,m4,m5,m6,m7⟩:=G.free6;obtain⟨m8,m9,n0,n1,n2,n3⟩:=G.get6;obtain⟨m,H⟩:∃m,m=(((((e9.setCell ⟨b.heap.size,0,none⟩ (.int .i64 a.1.op)).setCell ⟨b.heap.size,1,none⟩ (.int .i64 a.1.sig)).setCell ⟨b.heap.size,2,none⟩ (.int .i64 a.1.hi)).setCell ⟨b.heap.size,3,none⟩ (.int .i64 a.1.lo)).setCell ⟨b.heap.size,4,none⟩ D).setCell ⟨b.heap.size,5,none⟩ E:=⟨_,rfl⟩;have n8:=H.symm;have c3:Blk m b.heap.size 73 [.int .i64 a.1.op,.int .i64 a.1.sig,.int .i64 a.1.hi,.int .i64 a.1.lo,D,E]:=by rw[H];exact G.store6 _ _ _ _ _ _
  have J:Chg (λh=>h=b.heap.size) e9 m:=by rw[H];exact gE _ _ _ _ _ _ _ _
  have a8:FrS mb w m:=((U.o.trans f.ext).chg.trans z).trans_new J (λh I=>by have:h=b.heap.size:=I;omega);have g1:=Hd (f7.o.mk_.back a8 d5 J (λI=>by have:mb=b.heap.size:=I;omega) a6);have g4:=Hd (show RT9 (λh=>w.heap.size<=h) m a.1 [.int .i64 a.1.op,.int .i64 a.1.sig,.int .i64 a.1.hi,.int .i64 a.1.lo,D,E] from RT9.turn J (λh I o5=>⟨λe=>by have:h=b.heap.size:=e;omega,zO⟩) a.1 _ b2);have f9:=Hd a8;have f8:=Hd a6;have g2:=Hd (show aK d x s N=.ok a by rw[c0.o,L]);obtain⟨j6,j7,j8,j9,k0,k1⟩:=c3.get6;clear b2 d5 z a6 L G H c3 J a8 c5 c6 h4 h5 h6 h7 h8 h9 k3 k4 b6 b7 b8 k5 c4 h0 h1 h3;go_wp2_with fail
  refine bodyPost_ret (v:=.agg #[.int .i64 a.1.op,.int .i64 a.1.sig,.int .i64 a.1.hi,.int .i64 a.1.lo,D,E]) ?_ rfl (.ok g2.o ⟨[.int .i64 a.1.op,.int .i64 a.1.sig,.int .i64 a.1.hi,.int .i64 a.1.lo,D,E],rfl,g4.o,g1.o,f9.o,f8.o⟩);simp[results,results149,go_sem,j6,j7,j8,j9,k0,k1]
theorem mc(a3:World)(B N0 mb:Nat)(U X V T:Value)(k:Bool)(x:S)(P:x.op=5)(e0:∀e9,e9∈x.l->dB a3 B N0 mb U X V T k 149 (aK k) e9):dB a3 B N0 mb U X V T k 149 (aK k) x:=by
 intro e7 i5 i9 R s w k7 A e2 h6;have a0:=Hd A;have n0:=A.mk_.blk.lt;have m9:=A.c1;obtain⟨i8,e8,rfl,t,b6⟩:=h6;have o1:=b6.oneCell;have o0:=t.oneCell;have g1:=Hd b6;have j0:=Hd t;obtain⟨H,d2,e5,a7⟩:=aJ w (.pointer (some ⟨mb,0,none⟩)) 97;obtain⟨I,d3,t,a8⟩:=aJ H (.pointer (some ⟨e7,0,none⟩)) 100;obtain⟨J,d4,Q,a9⟩:=bH I (.int .i64 x.op) (.string x.name) i8 e8 177;obtain⟨c,d5,F,b0⟩:=aJ J (.bool k) 4;obtain⟨u,d6,y,b1⟩:=aW c (.int .i64 0) (.int .i64 0) (.int .i64 0) (.int .i64 0) (.slice none 0 0) (.slice none 0 0) 73;have m1:=d2.symm;have m3:=d3.symm;have h7:=d4.symm;have m4:=d5.symm;have o8:w.heap.size<H.heap.size:=a7.lt;have o9:H.heap.size<I.heap.size:=a8.lt;have p0:I.heap.size<J.heap.size:=a9.lt;have p1:J.heap.size<c.heap.size:=b0.lt;have p2:c.heap.size<u.heap.size:=b1.lt;have c5:=Hd (a7.ext (t.trans (Q.trans (F.trans y))));have c6:=Hd (a8.ext (Q.trans (F.trans y)));have Y:=Hd (a9.ext (F.trans y));have c4:=Hd (b0.ext y);have f2:=Hd b1;have a4:=Hd (e5.trans (t.trans (Q.trans (F.trans y))));have a1:=Hd (A.ext a4.o);obtain⟨a5,b3⟩:=ae (W:=u) (w:=u) (ah _);have m5:=d6.symm.trans b3;obtain⟨h5,k4,k5,k6⟩:=Y.o.later4;have n8:=cellAt (c5.o.cell 0);have n9:=cellAt (c6.o.cell 0);have n1:=cellAt (c4.o.cell 0);have g6:=Hd b3;clear b3 d2 d3 d4 d5 d6 e5 t Q F y a7 a8 a9 b0 b1 A b6;have h8:s.env.length+ab aq x.l<=1000000:=by rw[bX] at e2;omega
 have g0:=Hd e0;have a2:=Hd (show aK k x s R=(do let c2<-aZ 1 R;let p<-bE k s x.l c2;return(.mk 5 0 0 0 [] p.1,p.2)) by rw[fT];unfold fg bE;rw[if_neg zO];simp only[if_pos P,List.map_map];rfl);rw[P] at h7 h5 Y;rw[P];clear P e0 t e2;have g7:=Hd (ee N0 mb U X V T R 1 a5.w (g6.o▸a1.o.mk_) a1.o.c0 a1.o.c1 zD zD);go_enter func149,ntmps149;go_wp2_with fail
 go_at_call 75;refine g7.o.mono ?_;rintro e b (⟨c2,i7,i,rfl,rfl,E,d⟩|⟨h4,i,rfl,d⟩);rotate_left
 ·exact⟨rfl,.no (by rw[a2.o,i];rfl) ((a4.o.trans a5.ext).chg.trans d)⟩
 have b5:FrS mb u b:=a5.ext.chg.trans d;obtain⟨h0,d7,e6,O⟩:=aW b (.int .i64 0) (.int .i64 0) (.int .i64 0) (.int .i64 0) (.slice none 0 0) (.slice none 0 0) 73;have m8:=d7.symm;obtain⟨j1,j2,j3,j4,j5,j6⟩:=O.get6;obtain⟨n2,n3,n4,n5,n6,n7⟩:=O.free6;obtain⟨h,M⟩:∃h,h=(((((h0.setCell ⟨b.heap.size,0,none⟩ (.int .i64 5)).setCell ⟨b.heap.size,1,none⟩ (.int .i64 0)).setCell ⟨b.heap.size,2,none⟩ (.int .i64 0)).setCell ⟨b.heap.size,3,none⟩ (.int .i64 0)).setCell ⟨b.heap.size,4,none⟩ (.slice none 0 0)).setCell ⟨b.heap.size,5,none⟩ (.slice none 0 0):=⟨_,rfl⟩;have m6:=M.symm;have b2:Blk h b.heap.size 73 [.int .i64 5,.int .i64 0,.int .i64 0,.int .i64 0,.slice none 0 0,.slice none 0 0]:=by rw[M];exact O.store6 _ _ _ _ _ _
 have b8:Ext b h:=by rw[M];exact(((((e6.setCell (ac _) _).setCell (ac _) _).setCell (ac _) _).setCell (ac _) _).setCell (ac _) _).setCell (ac _) _
 have p3:u.heap.size<=b.heap.size:=b5.size;have p4:b.heap.size<h.heap.size:=b2.lt;have r:FrS mb u h:=b5.trans b8.chg;have G:=Hd (a4.o.chg.trans r);have f1:=Hd (r.blk c5.o (show¬w.heap.size=mb by omega));have f4:=Hd (r.blk c6.o (show¬H.heap.size=mb by omega));have f6:=Hd (r.blk Y.o (show¬I.heap.size=mb by omega));have f0:=Hd (r.blk c4.o (show¬J.heap.size=mb by omega));have f3:=Hd (r.blk f2.o (show¬c.heap.size=mb by omega));have f5:=Hd b2;have c7:=Hd (dX i zD);have g4:=Hd (E.ext b8);have f7:=Hd (a0.o.frS G.o g4.o c7.o);have c8:=Hd i;have j7:=f1.o.cell 0;have j8:=f4.o.cell 0;have k3:=f0.o.cell 0;obtain⟨j9,k0,k1,k2⟩:=f6.o.get4;clear d7 e6 O M b2 b8 d b5 r E i;have g8:=Hd (hM a3 B N0 mb e7 i5 U X V T i9 c2 s k x.l e8 h f7.o (g1.o.frS G.o) g0.o h8);go_wp2_with fail
 go_at_call 109;refine g8.o.mono ?_;rintro e c3 (⟨p,i7,i,rfl,b7,E,d,d8⟩|⟨h4,i,rfl,d⟩);rotate_left
 ·exact⟨rfl,.no (by rw[a2.o,c8.o];simp only[bind,Except.bind];rw[i]) (G.o.trans d)⟩
 obtain⟨m,n,e4⟩:=b7.form;obtain⟨g,e3⟩:∃g,g=p.1.length:=⟨_,rfl⟩;rw[<-e3] at e4;subst e4;have K:=d.blk f5.o (show¬b.heap.size=mb by omega);have d1:=d.blk f3.o (show¬c.heap.size=mb by omega);have i6:=K.cell 5;have l4:=K.frozen 5;simp only[List.getElem?_cons_succ,List.getElem?_cons_zero] at i6;have p5:h.heap.size<=c3.heap.size:=d.size;obtain⟨j,N⟩:∃j,j=c3.setCell ⟨b.heap.size,5,none⟩ (.slice m g n):=⟨_,rfl⟩;have m7:=N.symm;have D:Chg (λa=>a=b.heap.size) c3 j:=by rw[N];exact dt _ _ _ _
 have h3:Blk j b.heap.size 73 [.int .i64 5,.int .i64 0,.int .i64 0,.int .i64 0,.slice none 0 0,.slice m g n]:=by rw[N];simpa using K.set_ 5 (.slice m g n)
 have h2:=D.blk d1 (show¬c.heap.size=b.heap.size by omega);have a6:FrS mb w j:=(G.o.trans d).trans_new D (λa f=>by have:a=b.heap.size:=f;omega);have h1:=Hd a6;have Z:=Hd (c7.o.trans d8);have g9:=Hd (a0.o.mk_.back a6 E D (λf=>by have:mb=b.heap.size:=f;omega) Z.o);have e1:SlT9 (λa=>h.heap.size<=a) j p.1 (.slice m g n):=SlT9.turn b7 D (λa f b9=>⟨λe=>by have:a=b.heap.size:=e;omega,b9⟩);have d9:SlE9 (λa=>h.heap.size<=a) j [] (.slice none 0 0):=SlY.nil;have g5:=Hd (show aK k x s R=.ok (.mk 5 0 0 0 [] p.1,p.2) by rw[a2.o,c8.o];simp only[bind,Except.bind];rw[i];rfl);clear b7 E d d8 i K d1 N D a6 e3;have d0:=h3;have z:=h2;obtain⟨o2,o3,o4,o5,o6,o7⟩:=d0.get6;obtain⟨k8,k9,l0,l1,l2,l3⟩:=z.free6;obtain⟨l5,l6,l7,l8,l9,m0⟩:=z.get6;obtain⟨q,L⟩:∃q,q=(((((j.setCell ⟨c.heap.size,0,none⟩ (.int .i64 5)).setCell ⟨c.heap.size,1,none⟩ (.int .i64 0)).setCell ⟨c.heap.size,2,none⟩ (.int .i64 0)).setCell ⟨c.heap.size,3,none⟩ (.int .i64 0)).setCell ⟨c.heap.size,4,none⟩ (.slice none 0 0)).setCell ⟨c.heap.size,5,none⟩ (.slice m g n):=⟨_,rfl⟩;have m2:=L.symm;have c9:Blk q c.heap.size 73 [.int .i64 5,.int .i64 0,.int .i64 0,.int .i64 0,(.slice none 0 0),(.slice m g n)]:=by rw[L];exact z.store6 _ _ _ _ _ _
 have C:Chg (λa=>a=c.heap.size) j q:=by rw[L];exact gE _ _ _ _ _ _ _ _
 have b4:FrS mb w q:=h1.o.trans_new C (λa f=>by have:a=c.heap.size:=f;omega);have g3:=Hd (a0.o.mk_.back b4 g9.o C (λf=>by have:mb=c.heap.size:=f;omega) Z.o);have f8:=Hd (show SlE9 (λa=>w.heap.size<=a) q [] (.slice none 0 0) from SlE9.turn d9 C (λa f b9=>⟨λe=>absurd (f.one (show Tag _ a _ from(show a=c.heap.size from e)▸z.tag)) zD,zO⟩));have g2:=Hd (show SlT9 (λa=>w.heap.size<=a) q p.1 (.slice m g n) from SlT9.turn e1 C (λa f b9=>⟨λe=>by have:a=c.heap.size:=e;omega,zO⟩));have f9:=Hd b4;obtain⟨h9,i0,i1,i2,i3,i4⟩:=c9.get6;clear e1 d9 d0 z L c9 C b4;go_wp2_with fail
 refine bodyPost_ret (v:=.agg #[.int .i64 5,.int .i64 0,.int .i64 0,.int .i64 0,(.slice none 0 0),(.slice m g n)]) ?_ rfl (.ok g5.o ⟨[.int .i64 5,.int .i64 0,.int .i64 0,.int .i64 0,(.slice none 0 0),(.slice m g n)],rfl,RT9_iff.2 ⟨_,_,rfl,f8.o,g2.o⟩,g3.o,f9.o,Z.o⟩);simp[results,results149,go_sem,h9,i0,i1,i2,i3,i4]
theorem wq(R:World)(B N0 mb:Nat)(O Q P N:Value)(g:Bool)(x:S)(E:x.op=6)(f5:∀j,j∈x.x->VX j)(h2:x.x.length=2)(e9:∀j,j∈x.l->dB R B N0 mb O Q P N g 149 (aK g) j):dB R B N0 mb O Q P N g 149 (aK g) x:=by
 intro Y f8 j8 h s w l7 I f1 i4;have G:=Hd I;have i6:=I.mk_.blk.lt;have n8:=I.c1;obtain⟨Z,c7,rfl,t,c3⟩:=i4;have p0:=c3.oneCell;have j6:=t.oneCell;have g5:=Hd c3;have h3:=Hd t;obtain⟨k,e2,f6,b2⟩:=aJ w (.pointer (some ⟨mb,0,none⟩)) 97;obtain⟨m,e3,t,b3⟩:=aJ k (.pointer (some ⟨Y,0,none⟩)) 100;obtain⟨n,e4,X,b4⟩:=bH m (.int .i64 x.op) (.string x.name) Z c7 177;obtain⟨a,e5,K,b5⟩:=aJ n (.bool g) 4;obtain⟨A,e6,F,b6⟩:=aW a (.int .i64 0) (.int .i64 0) (.int .i64 0) (.int .i64 0) (.slice none 0 0) (.slice none 0 0) 73;have n0:=e2.symm;have n2:=e3.symm;have i5:=e4.symm;have n3:=e5.symm;have p7:w.heap.size<k.heap.size:=b2.lt;have p8:k.heap.size<m.heap.size:=b3.lt;have p9:m.heap.size<n.heap.size:=b4.lt;have q0:n.heap.size<a.heap.size:=b5.lt;have q1:a.heap.size<A.heap.size:=b6.lt;have d1:=Hd (b2.ext (t.trans (X.trans (K.trans F))));have d3:=Hd (b3.ext (X.trans (K.trans F)));have a0:=Hd (b4.ext (K.trans F));have c9:=Hd (b5.ext F);have f9:=Hd b6;have a4:=Hd (f6.trans (t.trans (X.trans (K.trans F))));have a1:=Hd (I.ext a4.o);obtain⟨b1,b8⟩:=ae (W:=A) (w:=A) (ah _);have n4:=e6.symm.trans b8;obtain⟨i2,l4,l5,l6⟩:=a0.o.later4;have o8:=cellAt (d1.o.cell 0);have o9:=cellAt (d3.o.cell 0);have o1:=cellAt (c9.o.cell 0);have h1:=Hd b8;clear b8 e2 e3 e4 e5 e6 f6 t X K F b2 b3 b4 b5 b6 I c3;have o0:1+ab am x.x+ab aq x.l<=1000000:=by rw[<-bX];omega
 have g4:=Hd e9;have h0:=Hd f5;have g7:=Hd f1;have a2:=Hd (show aK g x s h=(do let u<-aZ 1 h;let z<-(do let b<-aG s (xAt x.x 0);let c<-aG s (xAt x.x 1);dm (σ:=List DT×Mk) Prod.snd (λb c5=>(b.1,c5)) (λv b=>do let j<-bE g (s.con x.name v) x.l b.2;return(b.1++j.1,j.2)) (c - b).toNat b ([],u));return(.mk 5 0 0 0 [] z.1,z.2)) by
  rw[fT];unfold fg;rw[if_neg zO];simp only[if_neg (show¬x.op=5 by omega),if_pos E,List.map_map];simp only[bind,Except.bind,pure,Except.pure];cases aZ 1 h with
  |error e=>rfl
  |ok u=>
   simp only[];cases aG s (xAt x.x 0) with
   |error e=>rfl
   |ok b=>
    simp only[];cases aG s (xAt x.x 1) with
    |error e=>rfl
    |ok c=>
     simp only[];have:=ot (body:=λv h=>bE g (s.con x.name v) x.l h) (c - b).toNat b [] u;simp only[bind,Except.bind,pure,Except.pure] at this;rw[this];have e:(λv=>bM (x.l.map ((λi3=>i3 (s.con x.name v)) ∘ aK g)))=(λv h=>bE g (s.con x.name v) x.l h):=rfl;rw[e];cases fH (λv h=>bE g (s.con x.name v) x.l h) (c - b).toNat b u<;>rfl)
 have i7:=E;rw[E] at i5 i2;rw[E];rw[E] at a0;clear E e9 t f1 f5;have n9:=@hmf_ Tryz.prog;have h4:=Hd (ee N0 mb O Q P N h 1 b1.w (h1.o▸a1.o.mk_) a1.o.c0 a1.o.c1 zD zD);go_enter func149,ntmps149;go_wp2_with fail
 go_at_call 75;refine h4.o.mono ?_;rintro e d (⟨u,j7,i,rfl,rfl,f2,D⟩|⟨i1,i,rfl,D⟩);rotate_left
 ·exact⟨rfl,.no (by rw[a2.o,i];rfl) ((a4.o.trans b1.ext).chg.trans D)⟩
 have c2:FrS mb A d:=b1.ext.chg.trans D;obtain⟨h7,e7,f7,V⟩:=aW d (.int .i64 0) (.int .i64 0) (.int .i64 0) (.int .i64 0) (.slice none 0 0) (.slice none 0 0) 73;have n6:=e7.symm;obtain⟨k1,k2,k3,k4,k5,k6⟩:=V.get6;obtain⟨o2,o3,o4,o5,o6,o7⟩:=V.free6;obtain⟨f,U⟩:∃f,f=(((((h7.setCell ⟨d.heap.size,0,none⟩ (.int .i64 5)).setCell ⟨d.heap.size,1,none⟩ (.int .i64 0)).setCell ⟨d.heap.size,2,none⟩ (.int .i64 0)).setCell ⟨d.heap.size,3,none⟩ (.int .i64 0)).setCell ⟨d.heap.size,4,none⟩ (.slice none 0 0)).setCell ⟨d.heap.size,5,none⟩ (.slice none 0 0):=⟨_,rfl⟩;have n5:=U.symm;have b7:Blk f d.heap.size 73 [.int .i64 5,.int .i64 0,.int .i64 0,.int .i64 0,.slice none 0 0,.slice none 0 0]:=by rw[U];exact V.store6 _ _ _ _ _ _
 have c4:Ext d f:=by rw[U];exact(((((f7.setCell (ac _) _).setCell (ac _) _).setCell (ac _) _).setCell (ac _) _).setCell (ac _) _).setCell (ac _) _
 have q2:A.heap.size<=d.heap.size:=c2.size;have q3:d.heap.size<f.heap.size:=b7.lt;have r:FrS mb A f:=c2.trans c4.chg;have d7:=Hd (a4.o.chg.trans r);have d2:=Hd (r.blk d1.o (show¬w.heap.size=mb by omega));have d4:=Hd (r.blk d3.o (show¬k.heap.size=mb by omega));have d5:=Hd (r.blk a0.o (show¬m.heap.size=mb by omega));have d0:=Hd (r.blk c9.o (show¬n.heap.size=mb by omega));have g0:=Hd (r.blk f9.o (show¬a.heap.size=mb by omega));have g1:=Hd b7;have d8:=Hd (dX i zD);have d9:=Hd (f2.ext c4);have k0:=Hd (G.o.frS d7.o d9.o d8.o);have a3:=Hd i;have k7:=d2.o.cell 0;have k8:=d4.o.cell 0;have l3:=d0.o.cell 0;obtain⟨k9,l0,l1,l2⟩:=d5.o.get4;clear e7 f7 V U b7 c4 D c2 r f2 i;have a5:w.heap.size<=w.heap.size/\w.heap.size<f.heap.size:=by omega
 have a6:w.heap.size<=k.heap.size/\k.heap.size<f.heap.size:=by omega
 have a7:w.heap.size<=m.heap.size/\m.heap.size<f.heap.size:=by omega
 have a8:w.heap.size<=d.heap.size/\d.heap.size<f.heap.size:=by omega
 have a9:w.heap.size<=n.heap.size/\n.heap.size<f.heap.size:=by omega
 have b0:w.heap.size<=a.heap.size/\a.heap.size<f.heap.size:=by omega
 have n7:=G.o.c0
 have h5:=Hd (mM R B N0 mb Y f8 s (LpI w f.heap.size N0 mb Y w.heap.size k.heap.size m.heap.size d.heap.size n.heap.size a.heap.size O Q P N g x Z c7 h) Prod.snd (λb c5=>(b.1,c5)) (FrS mb w) (vK G.o i6 a5 a6 a7 a8 a9 b0)
  (λv b=>do let j<-bE g (s.con x.name v) x.l b.2;return(b.1++j.1,j.2)) 185 #[.pointer (some ⟨k.heap.size,0,none⟩),.pointer (some ⟨m.heap.size,0,none⟩),.pointer (some ⟨d.heap.size,0,none⟩),.pointer (some ⟨w.heap.size,0,none⟩),.pointer (some ⟨n.heap.size,0,none⟩)] ⟨λ_ _=>by kernel_rfl⟩
  (λv b j9 i8 p=>wl R w B f.heap.size N0 mb Y f8 w.heap.size k.heap.size m.heap.size d.heap.size n.heap.size a.heap.size O Q P N j8 g h s x Z c7 G.o g5.o g7.o g4.o a5 a6 a7 a8 a9 b0 zO j6 v i8 b j9 p)
  x.x Z ([],u) f ⟨d7.o,d9.o,d8.o,d2.o,d4.o,i7▸d5.o,d0.o,⟨_,g1.o,OwnT.none_⟩,ac _,by show(0:Int)<=u.count;have:=(eT a3.o).1;omega,g0.o⟩ h3.o h2 zO h0.o)
 clear a5 a6 a7 a8 a9 b0;go_wp2_with fail
 go_at_call 112;refine h5.o.mono ?_;rintro e c8 (⟨z,j7,i,rfl,rfl,p⟩|⟨i1,i,rfl,D⟩);rotate_left
 ·exact⟨rfl,.no (by rw[a2.o,a3.o];simp only[bind,Except.bind] at i⊢;rw[i]) D⟩
 obtain⟨q4,i0,c6⟩:=p.row;have f0:=c6.slY;obtain⟨L,M,f4⟩:=c6.form;obtain⟨y,f3⟩:∃y,y=z.1.length:=⟨_,rfl⟩;rw[<-f3] at f4;subst f4;have h9:=p.br;have h8:=Hd p.fr;have d6:=Hd p.cn;have h6:=Hd p.mk_;have e8:SlE9 (λc=>f.heap.size<=c) c8 [] (.slice none 0 0):=SlY.nil;have g9:=Hd (show aK g x s h=.ok (.mk 5 0 0 0 [] z.1,z.2) by rw[a2.o,a3.o];simp only[bind,Except.bind] at i⊢;rw[i];rfl);clear p c6 i f3;have e1:=i0;have H:=h9;obtain⟨p1,p2,p3,p4,p5,p6⟩:=e1.get6;obtain⟨l8,l9,m0,m1,m2,m3⟩:=H.free6;obtain⟨m4,m5,m6,m7,m8,m9⟩:=H.get6;obtain⟨q,T⟩:∃q,q=(((((c8.setCell ⟨a.heap.size,0,none⟩ (.int .i64 5)).setCell ⟨a.heap.size,1,none⟩ (.int .i64 0)).setCell ⟨a.heap.size,2,none⟩ (.int .i64 0)).setCell ⟨a.heap.size,3,none⟩ (.int .i64 0)).setCell ⟨a.heap.size,4,none⟩ (.slice none 0 0)).setCell ⟨a.heap.size,5,none⟩ (.slice L y M):=⟨_,rfl⟩;have n1:=T.symm;have e0:Blk q a.heap.size 73 [.int .i64 5,.int .i64 0,.int .i64 0,.int .i64 0,(.slice none 0 0),(.slice L y M)]:=by rw[T];exact H.store6 _ _ _ _ _ _
 have J:Chg (λc=>c=a.heap.size) c8 q:=by rw[T];exact gE _ _ _ _ _ _ _ _
 have b9:FrS mb w q:=h8.o.trans_new J (λc C=>by have:c=a.heap.size:=C;omega);have g8:=Hd (G.o.mk_.back b9 h6.o J (λC=>by have:mb=a.heap.size:=C;omega) d6.o);have g2:=Hd (show SlE9 (λc=>w.heap.size<=c) q [] (.slice none 0 0) from SlE9.turn e8 J (λc C i9=>⟨λe=>absurd (C.one (show Tag _ c _ from(show c=a.heap.size from e)▸H.tag)) zD,zO⟩));have g6:=Hd (show SlT9 (λc=>w.heap.size<=c) q z.1 (.slice L y M) from SlT9.turn f0 J (λc C i9=>⟨λe=>by have:c=a.heap.size:=e;omega,zO⟩));have g3:=Hd b9;obtain⟨j0,j1,j2,j3,j4,j5⟩:=e0.get6;clear f0 e8 e1 H T e0 J b9;go_wp2_with fail
 refine bodyPost_ret (v:=.agg #[.int .i64 5,.int .i64 0,.int .i64 0,.int .i64 0,(.slice none 0 0),(.slice L y M)]) ?_ rfl (.ok g9.o ⟨[.int .i64 5,.int .i64 0,.int .i64 0,.int .i64 0,(.slice none 0 0),(.slice L y M)],rfl,RT9_iff.2 ⟨_,_,rfl,g2.o,g6.o⟩,g8.o,g3.o,d6.o⟩);simp[results,results149,go_sem,j0,j1,j2,j3,j4,j5]
theorem uN(b c:Nat)(w:World):
 CallsD Tryz.prog 34 #[.pointer (some ⟨b,0,none⟩),.pointer (some ⟨c,0,none⟩)] .returning w λe f g=>e=.returned (.tuple #[])/\f=.returning/\g=w:=by
 refine callsD_of_wpS func34 rfl λa h d=>?_
 apply wpS_seq;apply wpS_region;simp[wpOpsS,go_sem,recoverD,d,ntmps34,Exit.thenS];refine wpS_of_wp ?_;go_wp2_with fail
 cases a
 simp_all [bodyPostS,results,results34]
theorem wV(a b:Nat)(u0 u1 u2:Value)(O c:Int)(w:World)(g:Blk w a 50 [u0,u1,u2])(z:Blk w b 51 [.int .i64 O]):
 CallsD Tryz.prog 34 #[.pointer (some ⟨a,0,none⟩),.pointer (some ⟨b,0,none⟩)] (.panicking (aN c)) w λe a3 d=>
  e=.returned (.tuple #[])/\a3=.panicking [{v:=.iface 92 (.agg #[.int .i64 c]),recovered:=true}]/\Blk d a 50 [.slice none 0 0,.slice none 0 0,.slice none 0 0]/\Blk d b 51 [.int .i64 c]/\Chg (λk=>k=a\/k=b) w d:=by
 obtain⟨i,E,u,F⟩:=aJ w (.int .i64 c) 92;have a8:=E.symm;have M:=Hd u;have L:=Hd F;have A:=Hd (g.ext u);have B:=Hd (z.ext u);have a9:=g.lt;have b0:=z.lt;clear E u F g z;have b1:∀w:World,(Instr.typeAssert (.iface 92 (.agg #[.int .i64 c])) 20 92 true).run Tryz.prog w=.ok (.tuple #[.agg #[.int .i64 c],.bool true]) w:=λ_=>by kernel_rfl
 unfold aN;refine callsD_of_wpS func34 rfl λN a7 V=>?_
 apply wpS_seq;apply wpS_region;simp[wpOpsS,go_sem,recoverD,V,ntmps34,Exit.thenS];refine wpS_of_wp ?_;go_wp2_with fail
 have G:a≠b:=λe=>absurd (A.o.tag.one (e▸B.o.tag)) zD
 have W:w.heap.size≠a:=by omega
 have b2:w.heap.size≠b:=by omega
 change Code.wp _ _ _ {tmps:=#[.pointer (some ⟨a,0,none⟩),.pointer (some ⟨b,0,none⟩),undef,.pointer (some ⟨w.heap.size,0,none⟩),undef,.iface 92 (.agg #[.int .i64 c]),undef,.bool false,.tuple #[.agg #[.int .i64 c],.bool true],.bool true,.agg #[.int .i64 c],undef,undef,undef],defers:=[]} i
 refine eD 4 (eqS [3] [.agg #[.slice none 0 0,.slice none 0 0,.slice none 0 0],.pointer (some ⟨w.heap.size,0,none⟩),.int .i64 c,undef]) (chJ [(3,λs d=>Blk d a 50 [u0,u1,u2]/\Chg (λk=>k=a) i d)] (λs d=>Blk d a 50 [.slice none 0 0,.slice none 0 0,.slice none 0 0]/\Chg (λk=>k=a) i d)) (λ_ _=>False) zK (λ_ _ _ _ h=>h) zK zK ?_ (gy _ ⟨A.o,(aV _ i).drew⟩) ?_ (λy a6 w g R=>R.elim) ?_
 ·simp[GuardsMet]
 ·refine⟨?_,?_,?_,?_,trivial⟩;rotate_left 3
  ·refine StepI.chain 0 rfl zK zK ?_;intro y j U f g r;have Z:=aa g 0 11 zK rfl;simp[eqS] at Z;have a1:=ag r 0 zK;simp at a1;replace f:Blk j a 50 [u0,u1,u2]/\Chg (λk=>k=a) i j:=f;obtain⟨m,q⟩:=f;obtain⟨b4,x,b5⟩:=m.get3;obtain⟨b6,b7,b8⟩:=m.free3;have l:=Hd (an (m.store3 (.slice none 0 0) (.slice none 0 0) (.slice none 0 0)) (((q.setCell (p:=⟨a,0,none⟩) rfl (.slice none 0 0)).setCell (p:=⟨a,1,none⟩) rfl (.slice none 0 0)).setCell (p:=⟨a,2,none⟩) rfl (.slice none 0 0)));clear g r m q U;go_simp;first|exact⟨undef,rfl,trivial,l.o⟩|exact⟨trivial,l.o⟩|exact l.o|exact⟨undef,trivial,l.o⟩|exact⟨⟨undef,trivial⟩,l.o⟩
  all_goals
   refine StepI.plain (S:=[3]) (T:=[]) (I:=Chg (λk=>k=a) i) (fU (T:=[]) (λs a4 w P f=>f) _ ⟨λs a4 w P f=>f,trivial⟩) (λa5 s w h=>gS (I:=Chg (λk=>k=a) i) h (λ_ _ h=>h.2) ⟨λ_ _ h=>h.2,trivial⟩) zD zD ?_;intro y j D g r;try (have a0:=aa g 1 12 zD rfl;simp[eqS] at a0)
   have a2:=ag r 3 zK;simp at a2;have X:=(D.blk L.o W).cell 0;try simp only[List.getElem?_cons_succ,List.getElem?_cons_zero] at X
   clear g r D;exact zB
 ·intro y j Q;obtain⟨C,rfl,H,J,f⟩:=Q.fin (n:=14) rfl;replace f:(λs d=>Blk d a 50 [.slice none 0 0,.slice none 0 0,.slice none 0 0]/\Chg (λk=>k=a) i d) C j:=gb _ rfl f;have K:C 13=.int .i64 c:=H 2 13 rfl rfl;have x:=J 1 zK;simp at x;clear H J;simp only[List.drop_succ_cons,List.drop_zero];simp[List.range,List.range.loop,K,x];clear K x;obtain⟨m,q⟩:=f;have t:=q.blk B.o (show¬b=a from λe=>G e.symm);have Y:=t.cell 0;simp only[List.getElem?_cons_zero] at Y;have b3:=t.frozen 0
  have l:=Hd (show Blk (j.setCell ⟨b,0,none⟩ (.int .i64 c)) a 50 [.slice none 0 0,.slice none 0 0,.slice none 0 0]/\Blk (j.setCell ⟨b,0,none⟩ (.int .i64 c)) b 51 [.int .i64 c]/\Chg (λk=>k=a\/k=b) w (j.setCell ⟨b,0,none⟩ (.int .i64 c)) from
   ⟨m.far G _,t.store1 (.int .i64 c),(M.o.chg.trans (q.mono (λ_ _ h=>.inl h))).setCell (p:=⟨b,0,none⟩) (.inr rfl) _⟩)
  clear m q t;go_wp2_with fail
  cases N
  simp_all [bodyPostS,results,results34]
  exact l.o
end Go.Proofs.YtlfmlodanoolhaaGreatDoor
