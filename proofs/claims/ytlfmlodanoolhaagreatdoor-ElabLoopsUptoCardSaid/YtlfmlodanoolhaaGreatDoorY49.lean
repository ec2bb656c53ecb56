import Derived.Lib.ItoaLen
import Derived.Test.YtlfmlodanoolhaaGreatDoorY48
import Derived.Test.YtlfmlodanoolhaaGreatDoorY47
set_option linter.all false
set_option maxRecDepth 200000
set_option maxHeartbeats 32000000
namespace Go.Proofs.YtlfmlodanoolhaaGreatDoor
open Go Go.RowKit Go.Proofs.Tryz
attribute [local go_sem] bc
theorem TabP.ext{w b:World}(h:TabP w)(d:Ext w b):TabP b:=by
 unfold TabP Lib.TabIs World.var? at h⊢
 cases hg : Tryz.prog.globalNamed "internal/strconv.uint64pow10" with
 |none=>rw[hg] at h;cases h
 |some g=>
  rw[hg] at h;simp only[Option.bind_some] at h⊢;have c:g<w.heap.size:=by
   rcases Nat.lt_or_ge g w.heap.size with a|a
   ·exact a
   ·rw[Array.getElem?_eq_none a] at h;cases h
  rw[d.heap c];exact h
theorem pN(v:Int)(h0:0<=v)(a:v<=2147483647):(bn v).size<=21:=by
 have:=Lib.itoa_length_le v zO zO;show(Lib.itoa v).toArray.size<=21;simpa using this
structure LmI(W0 w0:World)(B N0 mb sb mp gm gs gx:Nat)(vf:Value)(t:Itm)(v3 v4 v5 v6 v7 v8:Value)(s:Sc)(a:Mk)(w:World):Prop where
 ec:EC W0 B N0 mb sb mp vf a s w
 fr:FrI N0 mb sb mp w0 w
 bm:Blk w gm 97 [.pointer (some ⟨mb,0,none⟩)]
 bs:Blk w gs 100 [.pointer (some ⟨sb,0,none⟩)]
 bx:Blk w gx 37 [.int .i64 t.op,.string t.name,.string t.of,v3,v4,v5,v6,v7,v8]
theorem ScI.frN{N0 mb sb mp g a:Nat}{f:Value}{s:Sc}{w b:World}(h:ScI w sb mp f s)(c:FrI N0 mb g a w b)(k:Kp w b)(d:Tag w mb 99)(i:sb≠g)(h2:sb≠a)(h3:mp≠g)(j:mp≠a):ScI b sb mp f s:=
 ⟨c.blk h.blk ⟨zD,zD,zD⟩ (λe=>absurd (h.blk.tag.one (e▸d)) zD) i h2,h.env.keep (.inr (.inr rfl)) k (λ_ _ _ h=>h),c.map h.map (λe=>h.map.noTag (e▸d)) h3 j⟩
theorem Good.more{l b:List Sg}{s:Sc}(h:Good l s)(e:l.length<=b.length)(d:∀a,a∈b->1<=a.w/\a.w<=64):Good b s:=
 ⟨λn c ha=>by have:=h.at_ n c ha;omega,d,h.env,h.const⟩
def paF(W:World)(s:Sc)(c:ByteArray)(vals:List Value)(i:Nat)(v:Value)(w:World):Prop:=
 if i=10 then∃a b d,v=.pointer (some ⟨a,0,none⟩)/\W.heap.size<=a/\W.heap.size<=b/\ScI w a b d ⟨s.env,s.sigs,s.path++c⟩ else v=vals.getD i undef
theorem sJ{W:World}{s:Sc}{a:ByteArray}{vals:List Value}{i:Nat}{v:Value}{w b:World}(h:paF W s a vals i v w)(k:Ext w b):paF W s a vals i v b:=by
 unfold paF at h⊢;split
 ·rename_i hi;rw[if_pos hi] at h;obtain⟨c,d,l,e,f,g,j⟩:=h;exact⟨c,d,l,e,f,g,j.ext k⟩
 ·rename_i hi;rw[if_neg hi] at h;exact h
def paC(env:List (ByteArray×Int))(b:Nat)(p:ByteArray)(vals:List Value)(i:Nat)(v:Value)(w:World):Prop:=
 if i=7 then∃a,v=.agg #[a,.map (some b),.string p]/\SlT 85 RNm w 2 env a else v=vals.getD i undef
theorem lu{env:List (ByteArray×Int)}{a:Nat}{p:ByteArray}{vals:List Value}{i:Nat}{v:Value}{w b:World}(h:paC env a p vals i v w)(e:Ext w b):paC env a p vals i v b:=by
 unfold paC at h⊢;split
 ·rename_i hi;rw[if_pos hi] at h;obtain⟨f,c,d⟩:=h;exact⟨f,c,d.keep (.inr (.inr rfl)) e.kp (λ_ _ _ h=>h)⟩
 ·rename_i hi;rw[if_neg hi] at h;exact h
theorem vv(C w0:World)(B N0 mb sb mp J gs y:Nat)(V:Value)(inst:Itm->Sc->Mk->Rs Mk)(hi:hV inst)(k:Nat)(t:Itm)(a4 a5 U a6 a7 a8:Value)(s:Sc)(l3:w0.heap.size<=J)(l4:w0.heap.size<=gs)(l5:w0.heap.size<=y)
 (m8:mb<w0.heap.size/\sb<w0.heap.size/\mp<w0.heap.size)
 (g0:fh C B N0 mb V inst k t.l) (c1:Sl (RI C B) C B 9 t.l U) (n8:a4.oneCell'=true) (n9:a5.oneCell'=true) (o1:a6.oneCell'=true) (o2:a7.oneCell'=true) (o3:a8.oneCell'=true)
 (l8:t.name.size<=64) (l9:t.of.size<=64) (l6:s.env.length+ai t<=1000000) (m1:s.path.size+100*(k*70000+ai t)<=1000000000)
 (v:Int) (g4:bF v) (a:Mk) (w:World) (r:LmI C w0 B N0 mb sb mp J gs y V t a4 a5 U a6 a7 a8 s a w):
 Calls Tryz.prog 113 (#[.int .i64 v]++#[.pointer (some ⟨gs,0,none⟩),.pointer (some ⟨y,0,none⟩),.pointer (some ⟨J,0,none⟩)]) w
  (RunsP (do let z<-aY inst t.l (s.pass t.name t.of v) a;return z.2) (λi4 A q=>A=aM/\LmI C w0 B N0 mb sb mp J gs y V t a4 a5 U a6 a7 a8 s i4 q) (FrI N0 mb sb mp w0)):=by
 have h:=Hd r;have h3:=Hd g0;have h8:=Hd c1;have i0:=Hd g4;have o0:=c1.oneCell;obtain⟨g5,j0⟩:=g4;have l1:=pN v g5 j0;have m7:=bB t;obtain⟨l7,i8,m4,m6,m2,m3,k9⟩:=r.ec.mlt;obtain⟨k1,k0,j9,h0,g1,M⟩:=r.ec.ex;have b2:=Hd g1;have h9:=Hd M;have e7:=Hd r.ec.gd.env;have o4:=M.env.oneCell;obtain⟨j,c4⟩:∃j,j=t.name++tOpen++bn v++tShut:=⟨_,rfl⟩;have g3:j.size=t.name.size+1+(bn v).size+2:=by rw[c4,ByteArray.size_append,ByteArray.size_append,ByteArray.size_append];rfl
 have b3:=Hd c4;have n5:¬(9223372036854775807<t.name.size+1):=by omega
 have n6:¬(9223372036854775807<t.name.size+1+(bn v).size):=by omega
 have n7:¬(9223372036854775807<t.name.size+1+(bn v).size+2):=by omega
 have i6:s.path.size<=1000000000:=by omega
 have i7:j.size<=1000000000:=by omega
 have e9:=Hd (λ(q:World) (f:Ext w q)=>tJ v g5 zO q (r.ec.tab.ext (r.ec.cx.ext.trans f)));have f0:=Hd (λ(q:World) (f:Ext w q)=>yy s h0 mp j q ((M.ext f).env) (M.ext f).map e7.o i6 i7);obtain⟨b6,b7,b8⟩:=M.blk.later3;obtain⟨d6,d7,d8,d9,e0,e1,e2,e3,e4⟩:=r.bx.later9;have k2:=cellAt (r.bs.cell 0);have e5:=cellAt (r.bm.cell 0);have k5:∀A:ByteArray,A++(⟨#[91]⟩:ByteArray)=A++tOpen:=λ_=>rfl
 have k6:∀A:ByteArray,A++(⟨#[93,46]⟩:ByteArray)=A++tShut:=λ_=>rfl
 have k7:tOpen.size=1:=rfl;have k8:tShut.size=2:=rfl;have h5:=Hd g3;clear g1 M r g0 c1 g3 c4
 go_in
 go_wp2_with fail
 refine bT 11 (W:=w) (Ext) (paF w s j [.pointer (some ⟨sb,0,none⟩),.pointer (some ⟨sb,0,none⟩),.agg #[h0,.map (some mp),.string s.path],.pointer (some ⟨y,1,none⟩),.string t.name,.string (t.name++tOpen),.int .i64 v,.string (bn v),.string (t.name++tOpen++bn v),.string (t.name++tOpen++bn v++tShut),undef]) (λ_ _=>False) (λ_=>true) zK (bG) zK zK ?_ (ah _) (λj1 v w q c0 f=>sJ c0 f) ?_ (λx i5 w b c3=>c3.elim) ?_
 ·exact⟨rfl,rfl,rfl,rfl,rfl,rfl,rfl,rfl,rfl,rfl,rfl,trivial⟩
 ·refine⟨?_,?_,?_,?_,?_,?_,?_,?_,?_,?_,?_,trivial⟩;rotate_left 7
  ·intro x O i b g;obtain⟨c,rfl⟩:=ae i;have d2:=aa b 6 12 zK rfl;simp[paF] at d2;clear b g;go_simp;refine(e9.o c.w c.ext).mono ?_;rintro _ h1 ⟨rfl,f⟩;go_simp;first|exact⟨_,rfl,f,rfl⟩|exact⟨f,rfl⟩|exact⟨_,rfl,rfl⟩|exact f|exact rfl
  rotate_left 2
  ·intro x O i b g;obtain⟨c,rfl⟩:=ae i;have c8:=aa b 2 8 zK rfl;simp[paF] at c8;have j6:=aa b 9 15 zK rfl;simp[paF] at j6;clear b g;go_simp;rw[<-b3.o];refine(f0.o c.w c.ext).mono ?_;rintro _ h1 ⟨d,m,H,rfl,f3,f4,f5,f⟩;have c5:=c.ext.size;have b0:=Hd (an (ad c5 f3) (an (ad c5 f4) f5));clear f3 f4 f5;go_simp;first|exact⟨_,rfl,f,d,m,H,rfl,b0.o⟩|exact⟨f,d,m,H,rfl,b0.o⟩|exact⟨_,rfl,d,m,H,rfl,b0.o⟩
  all_goals
   intro x O i b g;obtain⟨c,rfl⟩:=ae i;try (have j3:=aa b 0 6 zD rfl;simp[paF] at j3)
   try (have c7:=aa b 1 7 zD rfl;simp[paF] at c7)
   try (have c9:=aa b 3 9 zD rfl;simp[paF] at c9)
   try (have d0:=aa b 4 10 zD rfl;simp[paF] at d0)
   try (have d1:=aa b 5 11 zD rfl;simp[paF] at d1)
   try (have j4:=aa b 7 13 zD rfl;simp[paF] at j4)
   try (have j5:=aa b 8 14 zD rfl;simp[paF] at j5)
   have j7:=ag g 1 zK;simp at j7;have d4:=ag g 2 zK;simp at d4;have d3:=ag g 0 zK;simp at d3;clear b g;exact zA
 ·intro x O R;obtain⟨f2,rfl,i,L,p⟩:=R.fin (n:=31) rfl;obtain⟨c,rfl⟩:=ae i;have D:=p 0 zK;have E:=p 1 zK;have F:=p 2 zK;have G:=p 3 zK;obtain⟨d,m,H,g7,f7,f8,T⟩:=L 10 16 rfl rfl;clear L p;simp at D E F G;simp only[List.drop_succ_cons,List.drop_zero];simp[List.range,List.range.loop,D,E,F,G,g7];clear D E F G g7;have f1:=Hd c.ext;clear b6 b7 b8 d6 d7 d8 d9 e0 e1 e2 e3 e4 k2 e5 e9 f0;obtain⟨P,Y⟩:∃P,P=c.w:=⟨_,rfl⟩;rw[<-Y] at T;rw[<-Y];have b5:=Hd (show Ext w P from Y▸f1.o);clear Y f1;obtain⟨b6,b7,b8⟩:=T.blk.later3;have o5:=T.env.oneCell;obtain⟨d6,d7,d8,d9,e0,e1,e2,e3,e4⟩:=(h.o.bx.ext b5.o).later9;have e5:=cellAt ((h.o.bm.ext b5.o).cell 0);have b4:=Hd T;have e8:=Hd (λ(q:World) (f:Ext P q)=>hU ⟨s.env,s.sigs,s.path++j⟩ H (.map (some m)) t.of v q ((b4.o.ext f).env) rfl e7.o);clear T;go_wp2_with fail
  refine bT 8 (W:=P) (Ext) (paC (s.env++[(t.of,v)]) m (s.path++j) [.pointer (some ⟨d,0,none⟩),.pointer (some ⟨d,0,none⟩),.pointer (some ⟨d,0,none⟩),.agg #[H,.map (some m),.string (s.path++j)],.pointer (some ⟨y,2,none⟩),.string t.of,.int .i64 v,undef]) (λ_ _=>False) (λ_=>true) zK (bG) zK zK ?_ (ah _) (λj1 v w q c0 f=>lu c0 f) ?_ (λx i5 w b c3=>c3.elim) ?_
  ·exact⟨rfl,rfl,rfl,rfl,rfl,rfl,rfl,rfl,trivial⟩
  ·refine⟨?_,?_,?_,?_,?_,?_,?_,?_,trivial⟩;rotate_left 7
   ·intro x O i b g;obtain⟨c,rfl⟩:=ae i;have c9:=aa b 3 20 zK rfl;simp[paC] at c9;have d1:=aa b 5 22 zK rfl;simp[paC] at d1;have d2:=aa b 6 23 zK rfl;simp[paC] at d2;clear b g;go_simp;refine(e8.o c.w c.ext).mono ?_;rintro e h1 ⟨N,rfl,a3,g6⟩;have j2:=a3.oneCell;go_simp;first|exact⟨_,rfl,g6,N,rfl,a3⟩|exact⟨g6,N,rfl,a3⟩|exact⟨_,rfl,N,rfl,a3⟩
   all_goals
    intro x O i b g;obtain⟨c,rfl⟩:=ae i;try (have c7:=aa b 1 18 zD rfl;simp[paC] at c7)
    try (have c8:=aa b 2 19 zD rfl;simp[paC] at c8)
    try (have d0:=aa b 4 21 zD rfl;simp[paC] at d0)
    have j8:=ag g 5 zK;simp at j8;have d4:=ag g 2 zK;simp at d4;have d3:=ag g 0 zK;simp at d3;clear b g;exact zA
  ·intro x O R;obtain⟨f2,rfl,i,L,p⟩:=R.fin (n:=31) rfl;obtain⟨c,rfl⟩:=ae i;have D:=p 0 zK;have E:=p 1 zK;have F:=p 2 zK;have G:=p 3 zK;have c6:=p 5 zK;have g8:f2 17=.pointer (some ⟨d,0,none⟩):=L 0 17 rfl rfl;obtain⟨N,g9,c2⟩:=L 7 24 rfl rfl;clear L p;simp at D E F G c6;simp only[List.drop_succ_cons,List.drop_zero];simp[List.range,List.range.loop,D,E,F,G,c6,g8,g9];clear D E F G c6 g8 g9;have h2:=Hd c2;have X:=b4.o.blk.ext c.ext;have j2:=c2.oneCell;obtain⟨n2,n3,n4⟩:=X.free3;obtain⟨m9,n0,n1⟩:=X.get3;obtain⟨Q,Z⟩:∃Q,Q=(((c.w.setCell ⟨d,0,none⟩ N).setCell ⟨d,1,none⟩ (.map (some m))).setCell ⟨d,2,none⟩ (.string (s.path++j))):=⟨_,rfl⟩;have l0:=Z.symm;have b9:Blk Q d 126 [N,.map (some m),.string (s.path++j)]:=by rw[Z];exact X.store3 _ _ _
   have a0:Chg (λk=>k=d) c.w Q:=by rw[Z];exact iI _ _ _ _ _
   have I:=Hd (b5.o.trans c.ext);have i8:=I.o.size;have f6:EC C B N0 mb d m V a ⟨s.env,s.sigs,s.path++j⟩ c.w:=by
    have u:=h.o.ec;have c5:=u.cx.ext.size;exact⟨⟨k1,k0,j9,H,b2.o.ext I.o,b4.o.ext c.ext⟩,u.cx.later I.o,⟨u.gd.at_,u.gd.w,u.gd.env,u.gd.const⟩,u.inv,u.lo,zO,zO,u.tab⟩
   have b1:=Hd (f6.con (ah _) a0 b9 h2.o i0.o (by show s.env.length+1<=1000000;omega));have h6:=Hd (show(Sc.con ⟨s.env,s.sigs,s.path++j⟩ t.of v)=s.pass t.name t.of v by rw[b3.o];rfl);rw[h6.o] at b1;have i1:=Hd ((a0.blk ((h.o.bx).ext I.o) (show¬y=d by have:=h.o.bx.lt;omega)));have h4:=Hd ((a0.blk ((h.o.bm).ext I.o) (show¬J=d by have:=h.o.bm.lt;omega)));obtain⟨u0,u1,u2,u3,u4,u5,u6,u7,u8⟩:=i1.o.get9;have u9:=h4.o.cell 0;simp only[List.getElem?_cons_zero] at u9;have k3:=Hd b9.tag;have i3:=Hd (h3.o d m a (s.pass t.name t.of v) Q U b1.o.1 (by show(s.env++[(t.of,v)]).length+_<=_;rw[List.length_append];simp only[List.length_cons,List.length_nil];omega) (by show(s.path++(t.name++tOpen++bn v++tShut)).size+_<=_;rw[<-b3.o,ByteArray.size_append];have:=h5.o;omega) h8.o);have e6:=Hd ((bR (N0:=N0) (mb:=mb) (sb:=d) (mp:=m) I.o).trans b1.o.2);clear a0 Z b9 X f6 c2 d6 d7 d8 d9 e0 e1 e2 e3 e4 e5 b6 b7 b8 e8;go_wp2_with fail
   go_at_call 39;refine i3.o.mono ?_;rintro e d5 (⟨a9,A,S,rfl,i9,a1,a2,l2,m0⟩|⟨k4,S,rfl,a2⟩);rotate_left
   ·exact⟨rfl,.no (by rw[S];rfl) (h.o.fr.trans ((e6.o.trans a2).fresh w (FrI.refl _ _ _ _ _) (.inl f7) (.inl f8)))⟩
   subst i9;have hF:=(e6.o.trans a2);have K:FrI N0 mb sb mp w d5:=hF.fresh w (FrI.refl _ _ _ _ _) (.inl f7) (.inl f8);have f9:Kp w d5:=hF.kp b2.o.blk.tag (λe=>absurd e zO) (λe=>absurd e zO);have g2:=fX (inst:=inst) t.l (λa9 _=>kD hi a9) _ _ _ S;have i2:=Hd (show LmI C w0 B N0 mb sb mp J gs y V t a4 a5 U a6 a7 a8 s a9.2 d5 from by
    obtain⟨o9,o8,o6,o7,R,m5⟩:=a1.ex
    exact⟨h.o.ec.frI K R (h9.o.frN hF f9 b2.o.blk.tag zO zO zO zO) (h.o.ec.gd.more g2 a1.gd.w) a1.inv,h.o.fr.trans K,
     K.blk h.o.bm ⟨zD,zD,zD⟩ zO zO zO,K.blk h.o.bs ⟨zD,zD,zD⟩ zO zO zO,K.blk h.o.bx ⟨zD,zD,zD⟩ zO zO zO⟩)
   have h7:=Hd (show(do let z<-aY inst t.l (s.pass t.name t.of v) a;return z.2:Rs Mk)=.ok a9.2 by rw[S];rfl);clear S a1 a2 hF K f9 g2;go_wp2_with fail
   refine bodyPost_ret (v:=aM) ?_ rfl (.ok h7.o ⟨rfl,i2.o⟩);simp[results,results113,go_sem,aM]
theorem xA{e w0:World}{B N0 mb sb mp c gs d:Nat}{i:Value}{t:Itm}{l m n o p q:Value}{s:Sc}(r:w0.heap.size<=c)(u:w0.heap.size<=gs)(v:w0.heap.size<=d)(x:mb<w0.heap.size):PassI e B N0 mb sb mp s (LmI e w0 B N0 mb sb mp c gs d i t l m n o p q s) id (λ_ f=>f) (FrI N0 mb sb mp w0) where
 ctx a w hj:=by
  obtain⟨k,j,g,h,b⟩:=hj.ec.stc;exact⟨i,k,j,g,h,b⟩
 ext a w w' hj hx:=⟨hj.ec.ext hx,hj.fr.trans (.of_ext hx),hj.bm.ext hx,hj.bs.ext hx,hj.bx.ext hx⟩
 cnt a w w' vf' vs' vp' vc' f hj hk hk' hf hc:=by
  obtain⟨k,j,g,h,b⟩:=hj.ec.stc;obtain⟨rfl,rfl,rfl,rfl⟩:=b.mk_.one hk;exact⟨.of_stc hj.ec (.of_chg hf) (b.frS hf hk' hc) hc,hj.fr.trans (.of_chg hf),hf.blk hj.bm (show¬c=mb by omega),hf.blk hj.bs (show¬gs=mb by omega),hf.blk hj.bx (show¬d=mb by omega)⟩
 bad a w w' hj hf:=hj.fr.trans (.of_chg hf)
theorem pl{body:Int->Mk->Rs Mk}:∀(n:Nat) (v:Int) (m:Mk),dm (σ:=Mk) id (λ_ a=>a) body n v m=fI body n v m
 |0,v,m=>rfl
 |n+1,v,m=>by
  simp only[dm,fI,bind,Except.bind,id];cases aZ 1 m with
  |error e=>rfl
  |ok m1=>
   simp only[];cases body v m1 with
   |error e=>rfl
   |ok y=>exact pl n (v+1) y
theorem qH(j:World)(B N0 mb:Nat)(y:Value)(inst:Itm->Sc->Mk->Rs Mk)(k:Nat)(t:Itm)(K:t.op=9)(b3:∀b5,b5∈t.x->VX b5)(h2:t.x.length=2)(a9:t.name.size<=64)(b2:t.of.size<=64)(hi:hV inst)(a7:fh j B N0 mb y inst k t.l):ev j B N0 mb y inst k t:=by
 intro n r m s w f2 a g0 c7 c8 F;have d8:=Hd a;have f6:=a.inv.b0;have f7:=a.inv.b1;have g5:=a.inv.sg;have g3:=a.inv.pr;have f8:=a.inv.c0;have f9:=a.inv.c1;obtain⟨a8,d0,c9,g6,g2,g4,f3⟩:=a.mlt;obtain⟨u,O,P,Q,R,S,rfl,A,C,D,E,a1,a2⟩:=RI_iff.1 F;have d3:=A.oneCell;have d4:=C.oneCell;have g9:=D.oneCell;have d5:=E.oneCell;have d6:=a1.oneCell;have d7:=a2.oneCell;have b9:=Hd A;have e1:=Hd C;have c2:=Hd D;have e2:=Hd E;have d9:=Hd F;obtain⟨d,a3,b4,G⟩:=aJ w (.pointer (some ⟨mb,0,none⟩)) 97;obtain⟨f,a4,M,H⟩:=aJ d (.pointer (some ⟨n,0,none⟩)) 100;obtain⟨z,a5,q,I⟩:=bI f (.int .i64 t.op) (.string t.name) (.string t.of) u O P Q R S 37;have f4:=a3.symm;have f5:=a4.symm;have h0:w.heap.size<d.heap.size:=G.lt;have h1:d.heap.size<f.heap.size:=H.lt;have h3:f.heap.size<z.heap.size:=I.lt;have U:=Hd (G.ext (M.trans q));have V:=Hd (H.ext q);have X:=Hd I;have a0:=Hd (b4.trans (M.trans q));have b6:=Hd (a.ext a0.o);obtain⟨g,J⟩:=ae (W:=z) (w:=z) (ah _);have c5:=a5.symm.trans J;obtain⟨c4,e4,e5,e6,e7,e8,e9,f0,f1⟩:=X.o.later9;have g7:=cellAt (U.o.cell 0);have g8:=cellAt (V.o.cell 0);have e0:=Hd J;clear J a3 a4 a5 b4 M q G H I a A C D E a1 a2 F;have Y:=Hd (show aC inst t s m=(do let m2<-(do let c<-aG s (xAt t.x 0);let b<-aG s (xAt t.x 1);dm (σ:=Mk) id (λ_ N=>N) (λv d2=>do let p<-aY inst t.l (s.pass t.name t.of v) d2;return p.2) (b - c).toNat c m);return(s,m2)) by
  rw[mz inst t s m K];simp only[pl,bind,Except.bind];cases aG s (xAt t.x 0) with
  |error e=>rfl
  |ok c=>
   simp only[];cases aG s (xAt t.x 1)<;>rfl)
 have d1:ab am t.x<=1000000000:=by have:=bB t;omega
 have a6:=X.o;have b8:=Hd (an a8 (an d0 c9));have K1:=Hd (λ(v:Int) (c:Mk) (T:World) L h=>vv j w B N0 mb n r w.heap.size d.heap.size f.heap.size y inst hi k t u O P Q R S s (ac _) zO zO b8.o a7 c2.o d3 d4 d5 d6 d7 a9 b2 c7 c8 v L c T h);have g1:=@hmf_ Tryz.prog
 have c3:=Hd (mM j B N0 mb n r s (LmI j w B N0 mb n r w.heap.size d.heap.size f.heap.size y t u O P Q R S s) id (λ_ N=>N) (FrI N0 mb n r w) (xA (ac _) zO zO a8)
  (λv c=>do let p<-aY inst t.l (s.pass t.name t.of v) c;return p.2) 113 #[.pointer (some ⟨d.heap.size,0,none⟩),.pointer (some ⟨f.heap.size,0,none⟩),.pointer (some ⟨w.heap.size,0,none⟩)] ⟨λ_ _=>by kernel_rfl⟩
  (λv c T L h=>K1.o v c T L h)
  t.x u m g.w ⟨b6.o.ext g.ext,.of_ext (a0.o.trans g.ext),U.o.ext g.ext,V.o.ext g.ext,a6.ext g.ext⟩ b9.o h2 d1 b3)
 clear a6 a9 b2 hi a7 b3;rw[K] at c5 c4;rw[K];go_enter func76,ntmps76;go_wp2_with fail
 go_at_call 112;refine c3.o.mono ?_;rintro e h5 (⟨p,h4,i,rfl,rfl,h⟩|⟨e3,i,rfl,c6⟩);rotate_left
 ·exact⟨rfl,.no (by rw[Y.o];simp only[bind,Except.bind] at i⊢;rw[i]) c6⟩
 have b7:=Hd (show aC inst t s m=.ok (s,p) by rw[Y.o];simp only[bind,Except.bind] at i⊢;rw[i];rfl);have Z:=Hd h;clear i h;go_wp2_with fail
 refine bodyPost_ret (v:=aM) ?_ rfl (.ok b7.o ⟨rfl,Z.o.ec,Z.o.fr,Nat.le_add_right _ _,rfl⟩);simp[results,results76,go_sem,aM]
def kZ(c:World)(B N0 mb:Nat)(f:Value)(inst:Itm->Sc->Mk->Rs Mk)(k:Nat)(t:Itm):Prop:=
 ∀(a b:Nat) (e:Mk) (s:Sc) (w:World) (d:List Value),EC c B N0 mb a b f e s w->s.path.size+100*(k*70000+ai t)<=1000000000->RI c B t d->
  bj Tryz.prog 111 #[.pointer (some ⟨mb,0,none⟩),.pointer (some ⟨a,0,none⟩),.agg d.toArray] w (inst t s e) (λh v g=>v=aM/\EC c B N0 mb a b f h s g/\FrI N0 mb a b w g) (FrI N0 mb a b w)
theorem qG(H:World)(B N0 mb:Nat)(R:Value)(inst:Itm->Sc->Mk->Rs Mk)(k:Nat)(t:Itm)(f:t.op=7)(O:kZ H B N0 mb R inst k t):ev H B N0 mb R inst k t:=by
 intro D Q b s w c9 a d7 d8 a1 u;have b2:=Hd a;have d3:=a.inv.b0;have d4:=a.inv.b1;have e4:=a.inv.sg;have e1:=a.inv.pr;have d5:=a.inv.c0;have d6:=a.inv.c1;obtain⟨d9,e6,e3,e5,e0,e2,d0⟩:=a.mlt;obtain⟨a4,a5,a6,a7,a8,a9,rfl,n,p,q,r,I,J⟩:=RI_iff.1 u;have e9:=n.oneCell;have f0:=p.oneCell;have f1:=q.oneCell;have f2:=r.oneCell;have f3:=I.oneCell;have f4:=J.oneCell;have b4:=Hd n;have b5:=Hd p;have b6:=Hd q;have b7:=Hd r;have Y:=Hd u;obtain⟨i,K,P,x⟩:=aJ w (.pointer (some ⟨mb,0,none⟩)) 97;obtain⟨j,L,C,y⟩:=aJ i (.pointer (some ⟨D,0,none⟩)) 100;obtain⟨l,M,h,z⟩:=bI j (.int .i64 t.op) (.string t.name) (.string t.of) a4 a5 a6 a7 a8 a9 37;have d1:=K.symm;have d2:=L.symm;have f5:w.heap.size<i.heap.size:=x.lt;have f6:i.heap.size<j.heap.size:=y.lt;have f7:j.heap.size<l.heap.size:=z.lt;have S:=Hd (x.ext (C.trans h));have T:=Hd (y.ext h);have U:=Hd z;have m:=Hd (P.trans (C.trans h));have V:=Hd (a.ext m.o);obtain⟨c,A⟩:=ae (W:=l) (w:=l) (ah _);have a0:=M.symm.trans A;obtain⟨Z,b9,c2,c3,c4,c5,c6,c7,c8⟩:=U.o.later9;have e7:=cellAt (S.o.cell 0);have e8:=cellAt (T.o.cell 0);have b3:=Hd A;clear A K L M P C h x y z a n p q r I J u;have E:=Hd (show aC inst t s b=(do let m2<-inst t s b;return(s,m2)) from my inst t s b f);have G:=Hd (O D Q b s c.w _ (V.o.ext c.ext) a1 Y.o);rw[f] at G;clear O;rw[f] at a0 Z;rw[f];go_enter func76,ntmps76;go_wp2_with fail
 go_at_call 111;refine G.o.mono ?_;rintro e f9 (⟨a3,f8,g,rfl,a2,N,d⟩|⟨b8,g,rfl,d⟩);rotate_left
 ·exact⟨rfl,.no (by rw[E.o,g];rfl) ((bR (m.o.trans c.ext)).trans d)⟩
 subst a2;have X:=Hd (show aC inst t s b=.ok (s,a3) by rw[E.o,g];rfl);have F:=Hd (an N ((bR (N0:=N0) (mb:=mb) (sb:=D) (mp:=Q) (m.o.trans c.ext)).trans d));clear g N d;go_wp2_with fail
 refine bodyPost_ret (v:=aM) ?_ rfl (.ok X.o ⟨rfl,F.o.1,F.o.2,Nat.le_add_right _ _,rfl⟩);simp[results,results76,go_sem,aM]
theorem pc(d:World)(B N0 mb:Nat)(e:Value)(inst:Itm->Sc->Mk->Rs Mk)(hi:hV inst)(k:Nat)(Q:Itm->Prop)(w:∀a c,Q a->c∈a.l->Q c)(v:∀a c,Q a->c∈a.els->Q c)
 (y:∀a,Q a->VI a->MayI a->a.op=7->kZ d B N0 mb e inst k a):∀a:Itm,Q a->VI a->MayI a->ev d B N0 mb e inst k a:=by
 intro a;induction a using Itm.ind with
 |h a ih1 ih2=>
  intro o s q;obtain⟨-,-,i,t,F,E,-,-⟩:=VI_iff.1 s;obtain⟨n,m,r,A,z,-,-⟩:=MayI_iff.1 q;obtain⟨H,I,C,D,g,J,-,-,-,-⟩:=n;have j:a.name.size<=64:=by
   rcases C with⟨-,b⟩|⟨-,b⟩
   ·exact b.2.1
   ·omega
  have n:a.of.size<=64:=by
   rcases D with⟨-,b⟩|⟨-,b⟩
   ·exact b.2.1
   ·omega
  have p:fh d B N0 mb e inst k a.l:=jj d B N0 mb e inst k a.l (λc f=>ih1 c f (w a c o f) (F c f) (A c f));have u:fh d B N0 mb e inst k a.els:=jj d B N0 mb e inst k a.els (λc f=>ih2 c f (v a c o f) (E c f) (z c f));unfold la at g;rcases(by omega:a.op=1\/a.op=2\/a.op=3\/a.op=4\/a.op=5\/a.op=6\/a.op=7\/a.op=8\/a.op=9\/a.op=10) with b|b|b|b|b|b|b|b|b|b
  ·exact rb d B N0 mb e inst k a b i (by rw[g,b];decide) j
  ·exact qI d B N0 mb e inst k a b i (by rw[g,b];decide) j
  ·exact xY d B N0 mb e inst k a b i (by rw[g,b];decide) j
  ·exact re d B N0 mb e inst k a b i (by rw[g,b];decide) m (λc f=>by
    intro K;have G:c∈a.x:=List.mem_of_mem_head? f;have:=(MayX_iff.1 (m c G)).1.1;unfold en at this;omega)
  ·exact qF d B N0 mb e inst k a b t r
  ·exact xX d B N0 mb e inst k a b t r
  ·exact qG d B N0 mb e inst k a b (y a o s q b)
  ·exact xp d B N0 mb e inst k a b i (by rw[g,b];decide) p u
  ·exact qH d B N0 mb e inst k a b i (by rw[g,b];decide) j n hi p
  ·exact ra d B N0 mb e inst k a b i (by rw[g,b];decide) m j
theorem qA:Enters Tryz.prog 152:=⟨λ_ _=>by kernel_rfl⟩
theorem nu(a b c d:Value)(n:a.oneCell'=true)(p:b.oneCell'=true)(q:c.oneCell'=true)(r:d.oneCell'=true)(w:World):
 Calls Tryz.prog 36 #[.agg #[a,b,c,d]] w λe i=>e=.returned (.func (.func 68) #[] #[.pointer (some ⟨w.heap.size,0,none⟩)])/\Blk i w.heap.size 30 [a,b,c,d]/\Ext w i:=by
 obtain⟨k,f,h,g⟩:=bH w a b c d 30;have l:=f.symm;have m:=@hmf_ Tryz.prog;have j:=Hd (an g h);clear f h g
 go_in
 go_wp2_with fail
 go_ret;exact⟨rfl,j.o⟩
def kS(a:Nat)(o:ByteArray->Option Int)(w:World)(b:World):Prop:=EnvM b a o/\Chg (λc=>c=a) w b
theorem pq(w:World)(m:Nat)(o:Obj):Chg (λk=>k=m) w (aE w m o):=(aV _ w).grown (fV w m o) (λk e _=>by injection e with e;exact e.symm)
theorem wu(k:World)(B sb mp c gs L:Nat)(a2:Value)(s:Sc)(b:Bnd)(J:List Value)(o:ByteArray->Option Int)(w:World)(S:Cx k B w)(X:ScI w sb mp a2 s)(T:s.env.length<=1000000)
 (Q:Blk w gs 100 [.pointer (some ⟨sb,0,none⟩)]) (R:Blk w L 93 [.map (some c)]) (U:EnvM w c o) (b4:RB k B b J) (O:∀h,RX k B b.x h->XOk k B b.x h):
 Calls Tryz.prog 152 (#[.agg J.toArray]++#[.pointer (some ⟨gs,0,none⟩),.pointer (some ⟨L,0,none⟩)]) w (RunsP (aG s b.x) (λv y g=>y=aM/\kS c (av o b.name v) w g) (Chg (λI=>I=c) w)):=by
 have a6:=Hd U;have a5:=Hd S;have a9:=Hd X;obtain⟨h,rfl,D⟩:=b4;have b1:=Hd (O _ D);obtain⟨a4,rfl,M⟩:=RX_iff.1 D;have d5:=M.oneCell;obtain⟨l,N,t,P⟩:=fm w (.string b.name) (.int .i64 b.x.op) (.string b.x.name) (.int .i64 b.x.n) (.int .i64 b.x.w) (.int .u64 b.x.v) a4 45;obtain⟨b3,F⟩:=ae (W:=l) (w:=l) (ah _);have d1:=N.symm.trans F;obtain⟨d6,d7,d8,d9,e0,e1,e2⟩:=P.later7;have d3:=cellAt ((Q.ext t).cell 0);have d4:=cellAt ((R.ext t).cell 0);have m:=Hd t;have b2:=Hd (λ(g:World) (Y:Ext l g)=>fz k B b.x _ sb mp a2 s g (a5.o.later (m.o.trans Y)) b1.o (a9.o.ext (m.o.trans Y)) T);have c8:=Hd F;clear S X Q R U O D M N t P F T
 go_in
 go_wp2_with fail
 refine bT 7 (W:=l) (Ext) (evF 6 99 (aG s b.x) (λd=>.int .i64 d) (λd v g=>True) [.map (some c),.pointer (some ⟨w.heap.size,0,none⟩),.string b.name,.pointer (some ⟨sb,0,none⟩),.pointer (some ⟨w.heap.size,1,none⟩),.agg #[.int .i64 b.x.op,.string b.x.name,.int .i64 b.x.n,.int .i64 b.x.w,.int .u64 b.x.v,a4],undef]) (evP (aG s b.x) l) (λ_=>true) zK (bG) zK zK ?_ (af b3) (λd2 v w g C H=>fM (λ_ _ _ _ C _=>C) C H) ?_ (λq c9 c7 a b6=>by
  obtain⟨h,j,rfl,H⟩:=b6;obtain⟨e3,d0⟩:=q;simp only at a;subst a;have a7:=Hd (show RunsP (aG s b.x) (λv y g=>y=aM/\kS c (av o b.name v) w g) (Chg (λI=>I=c) w) (.panicked (aN h)) c7 from .no j ((m.o.trans H).chg));exact⟨rfl,a7.o⟩) ?_
 ·exact⟨rfl,rfl,rfl,rfl,rfl,rfl,rfl,trivial⟩
 ·refine⟨?_,?_,?_,?_,?_,?_,?_,trivial⟩;rotate_left 6
  ·intro q a3 p a i;obtain⟨f,rfl⟩:=ae p;have c1:=aa a 3 7 zK rfl;simp[evF] at c1;have c3:=aa a 5 9 zK rfl;simp[evF] at c3;clear a i;go_simp;refine(b2.o f.w f.ext).mono ?_;rintro e e4 (⟨d,y,j,rfl,rfl,u⟩|⟨h,j,rfl,u⟩);rotate_left
   ·exact⟨rfl,h,j,rfl,f.ext.trans u⟩
   have z:=Hd j;clear j;go_simp;first|exact⟨_,rfl,u,d,z.o,rfl⟩|exact⟨u,d,z.o,rfl⟩|exact⟨_,rfl,d,z.o,rfl⟩
  all_goals
   intro q a3 p a i;obtain⟨f,rfl⟩:=ae p;try (have c0:=aa a 1 5 zD rfl;simp[evF] at c0)
   try (have c2:=aa a 4 8 zD rfl;simp[evF] at c2)
   have c5:=ag i 2 zK;simp at c5;have c6:=ag i 3 zK;simp at c6;have c4:=ag i 1 zK;simp at c4;clear a i;exact zA
 ·intro q a3 b5;obtain⟨K,rfl,p,r,b7⟩:=b5.fin (n:=11) rfl;obtain⟨f,rfl⟩:=ae p;have a0:K 4=.map (some c):=r 0 4 rfl rfl;have a1:K 6=.string b.name:=r 2 6 rfl rfl;obtain⟨d,V,Z⟩:=r 6 10 rfl rfl;clear r b7;simp only[List.drop_succ_cons,List.drop_zero];simp[List.range,List.range.loop,a0,a1,Z];clear a0 a1 Z;have a8:=Hd V;obtain⟨b9,b8,G⟩:=(a6.o.ext (m.o.trans f.ext)).put b.name d;obtain⟨A,E⟩:∃A,A=aE f.w c b9:=⟨_,rfl⟩;rw[<-E] at b8 G;have b0:=Hd (show kS c (av o b.name d) w A from⟨G,(m.o.trans f.ext).chg.trans (by rw[E];exact pq _ _ _)⟩);clear E G V;go_wp2_with fail
  refine bodyPost_ret (v:=aM) ?_ rfl (.ok a8.o ⟨rfl,b0.o⟩);simp[results,results152,go_sem,aM]
def qi(a:World)(B:Nat)(d:FuncId)(f:Prt->Int):Prop:=∀(c:Prt) (w:World) (b:List Value),Ext a w->RP a B c b->Calls Tryz.prog d #[.agg b.toArray] w λe g=>e=.returned (.int .i64 (f c))/\Ext w g
def HdR(e:World)(B N0 mb:Nat)(i:Value)(n:Nat)(h:ByteArray)(w:World)(a:Sc×Mk)(v:Value)(d:World):Prop:=
 ∃b c,v=.pointer (some ⟨b,0,none⟩)/\w.heap.size<=b/\w.heap.size<=c/\EC e B N0 mb b c i a.2 a.1 d/\(∀f g,FrI N0 mb f g w d)/\a.1.path=h/\a.1.env.length<=n
theorem ym{a:Prt->Int}(p:Prt)(l:List Prt)(s:Sc)(m:Mk):cI a (p::l) s m=(do let w<-bV s p.w;let z<-cQ p.name w (a p) 0 s m;cI a l z.1 z.2):=by rw[cI]
theorem qM{aB:ByteArray->Option Int}(p:Bnd)(l:List Bnd)(s:Sc){v:Int}(h:aB p.name=some v):de aB (p::l) s=de aB l (s.con p.name v):=by rw[de,h];rfl
theorem qL{aB:ByteArray->Option Int}(p:Bnd)(l:List Bnd)(s:Sc)(h:aB p.name=none):de aB (p::l) s=(do let v<-aG s p.x;de aB l (s.con p.name v)):=by rw[de,h]
theorem oW(u:World)(B N0 mb sb mp j0:Nat)(g5 y3 y2 y1:Value)(of:Mdl)(j5:List Value)(aB:ByteArray->Option Int)(p:ByteArray)(j6:FuncId)(v8:Enters Tryz.prog j6)(E:Prt->Int)(m:Mk)(w:World)
 (m8:Cx u B w) (w6:TabP u) (e6:MkI w N0 mb g5 y3 y2 y1 m) (hi:MInv m) (f3:∀m5,m5∈m.d.sigs->1<=m5.w/\m5.w<=64) (C1:u.heap.size<=N0)
 (k0:EnvM w j0 aB) (v9:∀D7 v,aB D7=some v->bF v) (C:RM u B of j5) (t7:qi u B j6 E)
 (v5:∀d5,d5∈of.params->∀K,RX u B d5.x K->XOk u B d5.x K) (v6:∀h,h∈of.ports->∀K,RX u B h.w K->XOk u B h.w K)
 (G1:of.params.length<=1000000) (G2:of.ports.length<=1000000) (w2:∀h,h∈of.ports->h.name.size<=1000000000) (C4:p.size<=1000000000):
 bj Tryz.prog 37 #[.pointer (some ⟨mb,0,none⟩),.agg j5.toArray,.map (some j0),.string p,.func (.func j6) #[] #[]] w (eF of aB p E m) (HdR u B N0 mb g5 of.params.length p w) (FrI N0 mb sb mp w):=by
 have F8:=v8.o;have y9:=Hd t7;have z9:=Hd v5;have A0:=Hd v6;have z4:=Hd w2;have y8:=Hd v9;have z1:=Hd k0;have H2:=k0.lt;have D1:j0≠mb:=λe=>k0.noTag (e▸e6.blk.tag)
 have G7:=e6.blk.lt;have F6:=e6.base;have F7:=m8.ext.size;obtain⟨H9,I0,y0,rfl,t3,t4,t5⟩:=C;have H4:=t3.oneCell;have H5:=t4.oneCell;have H6:=t5.oneCell;obtain⟨w8,w9,rfl,C0,w0⟩:=t3;obtain⟨x7,x8,rfl,C6,w3⟩:=t4;have z0:=Hd w0;have z5:=Hd w3;obtain⟨R,v2,w7,g8⟩:=bH w (.string of.name) (.slice w8 of.params.length w9) (.slice x7 of.ports.length x8) y0 30;have B0:=v2.symm;obtain⟨P,j7⟩:∃P,P=R.alloc (.map #[] 0):=⟨_,rfl⟩;have B1:=j7.symm;have k2:Ext R P:=by rw[j7];exact ax _ _
 have n0:EnvM P R.heap.size (λ_=>none):=by rw[j7];exact EnvM.new _
 obtain⟨s3,v3,i3,m7⟩:=fk P (.slice none 0 0) (.map (some R.heap.size)) (.string p) 126;have v0:=v3.symm;obtain⟨A4,A5,A6,A7⟩:=(g8.ext (k2.trans i3)).get4;have E5:w.heap.size<R.heap.size:=g8.lt;have M:R.heap.size<P.heap.size:=n0.lt;have E6:P.heap.size<s3.heap.size:=m7.lt;have j4:=Hd (w7.trans (k2.trans i3));have r4:=Hd (g8.ext (k2.trans i3));obtain⟨c,n5⟩:∃d5,d5=P.heap.size:=⟨_,rfl⟩;obtain⟨k,n1⟩:∃d5,d5=R.heap.size:=⟨_,rfl⟩
 have t6:EC u B N0 mb P.heap.size R.heap.size g5 m ⟨[],λ_=>none,p⟩ s3:=
  ⟨⟨y3,y2,y1,.slice none 0 0,e6.ext j4.o,m7,SlT.nil,n0.ext i3⟩,m8.later j4.o,⟨λ_ _ L=>(by cases L),f3,by show(0:Nat)<=1000000;decide,λ_ L=>(by cases L)⟩,hi,C1,zO,zO,w6⟩
 have j3:=Hd t6;have z:=Hd (bR (N0:=N0) (mb:=mb) (sb:=P.heap.size) (mp:=R.heap.size) j4.o);obtain⟨J,m6⟩:∃J,J=eF of aB p E m:=⟨_,rfl⟩;rw[<-m6];have s0:=Hd (show J=(do let s<-de aB (of.params.drop 0) ⟨[],λ_=>none,p⟩;cI E of.ports s m) from m6);have s4:∀(q:World),FrI N0 mb P.heap.size R.heap.size w q->∀sb mp,FrI N0 mb sb mp w q:=λq L sb mp=>L.fresh w (FrI.refl _ _ _ _ _) (.inl zO) (.inl zO)
 have g6:=Hd s4;rw[<-n5] at j3 z g6;rw[<-n1] at j3 z g6 v0;have H0:w.heap.size<c:=by omega
 have G5:w.heap.size<k:=by omega
 have C8:¬j0=c:=by omega
 have C2:¬j0=k:=by omega
 have G8:¬w.heap.size=mb:=by omega
 have w1:¬w.heap.size=c:=by omega
 have G9:¬w.heap.size=k:=by omega
 have G6:R.heap.size=k:=n1.symm;have H1:P.heap.size=c:=n5.symm;clear m8 w6 e6 hi f3 k0 v9 t7 v5 v6 w2 t5 w0 w3 v2 w7 g8 j7 k2 n0 v3 i3 m7 t6 m6 s4 v8 n5 n1 E5 M E6 C0 C6;have G4:=@run_makeMap Tryz.prog;go_enter func37,ntmps37;go_wp2_with fail
 go_loopw [25] (λc4 wr=>∃(g:Nat) (i:Sc),g<=of.params.length/\c4=.int .i64 g/\EC u B N0 mb c k g5 m i wr/\FrI N0 mb c k w wr/\Blk wr w.heap.size 30 [.string of.name,.slice w8 of.params.length w9,.slice x7 of.ports.length x8,y0]/\i.env.length<=g/\i.path=p/\J=(do let s<-de aB (of.params.drop g) i;cI E of.ports s m)) (λc4 _=>of.params.length - (intOf c4).toNat)
 case atStart=>exact⟨0,⟨[],λ_=>none,p⟩,aO _,rfl,j3.o,z.o,r4.o,ac _,rfl,s0.o⟩
 case round=>
  obtain⟨g,i,g9,rfl,G,H,j8,e5,e7,C⟩:=hrel;clear s0 j3 z r4 B0 B1 v0 A4 A5 A6 A7 j4;have d2:=Hd G;have z:=Hd H;have A:=Hd e7;have k6:=Hd j8;by_cases m9:g<of.params.length
  ·rw[List.drop_eq_getElem_cons m9] at C;have l4:=Hd (z9.o of.params[g] (ao m9));obtain⟨d5,o,j5,n4,B4,B5,h8,n2,A9⟩:=z0.o _ m9;subst n4;obtain⟨K,rfl,e9⟩:=A9;have l5:=Hd (l4.o _ e9);obtain⟨j2,rfl,h7⟩:=RX_iff.1 e9;have D8:=h7.oneCell;obtain⟨s6,s7,s8,s9,t0,t1,t2⟩:=(h8.ext G.cx.ext).get7;obtain⟨Q,h9,e8,f0⟩:=fm wr (.string of.params[g].name) (.int .i64 of.params[g].x.op) (.string of.params[g].x.name) (.int .i64 of.params[g].x.n) (.int .i64 of.params[g].x.w) (.int .u64 of.params[g].x.v) j2 45;have v1:=h9.symm;obtain⟨x0,x1,x2,x3,x4,x5,x6⟩:=f0.get7;have c2:=Hd (d2.o.ext e8);have r5:=Hd f0;have e3:=Hd e8;have i0:=((H.map z1.o D1 C8 C2).ext e8).look of.params[g].name;obtain⟨r2,r1,r0,d1,k1,i2⟩:=c2.o.ex;have l1:=Hd i2;have k8:=Hd c2.o.gd.env;have w4:wr.heap.size<Q.heap.size:=f0.lt;have G3:=G.mlt;have G0:i.env.length<=g:=e5;generalize of.params[g]=y at*;clear h9 e8 f0 h8 e9 h7 n2 H e5 e7 k1 i2 G j8;cases htd:aB y.name with
   |some v=>
    rw[htd] at i0;have O:=Hd (show J=(do let s<-de aB (of.params.drop (g+1)) (i.con y.name v);cI E of.ports s m) by rw[C,qM _ _ _ htd]);have l2:=Hd (y8.o _ _ htd);simp only[Option.getD_some,Option.isSome_some] at i0;clear C htd;have C7:wr.heap.size<Q.heap.size:=w4;have k4:=Hd r5.o;have k3:=Hd c2.o;have d3:=Hd l1.o;have h4:=Hd e3.o;obtain⟨l6,l7,h5⟩:=d3.o.blk.later3;rw[A.o] at h5;obtain⟨l8,l9,m0,m1,m2,m3,m4⟩:=k4.o.later7;have D9:=d3.o.env.oneCell;have h2:=Hd (λ(q:World) (D:Ext Q q)=>show Calls Tryz.prog 72 #[.agg #[d1,.map (some k),.string p],.string y.name,.int .i64 v] q λd0 j1=>∃h0,d0=.returned (.agg #[h0,.map (some k),.string p])/\SlT 85 RNm j1 2 (i.env++[(y.name,v)]) h0/\Ext q j1 by rw[<-A.o];exact hU i d1 (.map (some k)) y.name v q ((d3.o.ext D).env) rfl k8.o);go_wp2_with fail
    refine bT 9 (W:=Q) (Ext) (paC (i.env++[(y.name,v)]) k p [.pointer (some ⟨c,0,none⟩),.pointer (some ⟨c,0,none⟩),.pointer (some ⟨c,0,none⟩),.agg #[d1,.map (some k),.string p],.pointer (some ⟨wr.heap.size,0,none⟩),.string y.name,.int .i64 v,undef,.pointer (some ⟨c,0,none⟩)]) (λ_ _=>False) (λ_=>true) zK (bG) zK zK ?_ (ah _) (λc4 v w q L D=>lu L D) ?_ (λI s5 w b i1=>i1.elim) ?_
    ·exact⟨rfl,rfl,rfl,rfl,rfl,rfl,rfl,rfl,rfl,trivial⟩
    ·refine⟨?_,?_,?_,?_,?_,?_,?_,?_,?_,trivial⟩;rotate_left 7
     ·intro I e2 t b l;obtain⟨f,rfl⟩:=ae t;have q7:=aa b 3 45 zK rfl;simp[paC] at q7;have i7:=aa b 5 47 zK rfl;simp[paC] at i7;have i8:=aa b 6 48 zK rfl;simp[paC] at i8;clear b l;go_simp;refine(h2.o f.w f.ext).mono ?_;rintro e r3 ⟨N,rfl,d8,c3⟩;have q4:=d8.oneCell;go_simp;first|exact⟨_,rfl,c3,N,rfl,d8⟩|exact⟨c3,N,rfl,d8⟩|exact⟨_,rfl,N,rfl,d8⟩
     all_goals
      intro I e2 t b l;obtain⟨f,rfl⟩:=ae t;try (have q5:=aa b 0 42 zD rfl;simp[paC] at q5)
      try (have q6:=aa b 1 43 zD rfl;simp[paC] at q6)
      try (have i5:=aa b 2 44 zD rfl;simp[paC] at i5)
      try (have i6:=aa b 4 46 zD rfl;simp[paC] at i6)
      have i9:=ag l 11 zK;simp at i9;have q8:=ag l 13 zK;simp at q8;have q9:=ag l 14 zK;simp at q9;clear b l;exact zA
    ·intro I e2 g9;obtain⟨e4,rfl,t,F,a⟩:=g9.fin (n:=73) rfl;obtain⟨f,rfl⟩:=ae t;have S:=a 0 zK;have T:=a 1 zK;have j:=a 2 zK;have a7:=a 3 zK;have a8:=a 4 zK;have a9:=a 5 zK;have b6:=a 6 zK;have b7:=a 7 zK;have c0:=a 8 zK;have c1:=a 9 zK;have U:=a 10 zK;have V:=a 11 zK;have X:=a 12 zK;have Y:=a 16 zK;have f4:=a 17 zK;have Z:=a 18 zK;have a0:=a 19 zK;have a1:=a 20 zK;have a2:=a 21 zK;have a3:=a 22 zK;have a4:=a 23 zK;have a5:=a 24 zK;have a6:=a 25 zK;have b2:=a 52 zK;have b3:=a 53 zK;have b4:=a 54 zK;have b5:=a 55 zK;have f5:=a 56 zK;have f6:=a 57 zK;have f7:=a 58 zK;have c5:=a 59 zK;have c6:=a 60 zK;have f8:=a 61 zK;have c7:=a 62 zK;have f9:=a 63 zK;have g0:=a 64 zK;have g1:=a 65 zK;have c8:=a 66 zK;have g2:=a 67 zK;have g3:=a 68 zK;have c9:=a 69 zK;have g4:=a 70 zK;have b8:=a 71 zK;have b9:=a 72 zK;have e1:e4 50=.pointer (some ⟨c,0,none⟩):=F 8 50 rfl rfl;obtain⟨N,e0,f2⟩:=F 7 49 rfl rfl;clear F a;simp at S T j a7 a8 a9 b6 b7 c0 c1 U V X Y f4 Z a0 a1 a2 a3 a4 a5 a6 b2 b3 b4 b5 f5 f6 f7 c5 c6 f8 c7 f9 g0 g1 c8 g2 g3 c9 g4 b8 b9;simp only[List.drop_succ_cons,List.drop_zero];simp[List.range,List.range.loop,S,T,j,a7,a8,a9,b6,b7,c0,c1,U,V,X,Y,f4,Z,a0,a1,a2,a3,a4,a5,a6,b2,b3,b4,b5,f5,f6,f7,c5,c6,f8,c7,f9,g0,g1,c8,g2,g3,c9,g4,b8,b9,e1,e0];clear S T j a7 a8 a9 b6 b7 c0 c1 U V X Y f4 Z a0 a1 a2 a3 a4 a5 a6 b2 b3 b4 b5 f5 f6 f7 c5 c6 f8 c7 f9 g0 g1 c8 g2 g3 c9 g4 b8 b9 e1 e0;have k9:=Hd f2;have d6:=d3.o.blk.ext f.ext;have q4:=f2.oneCell;obtain⟨D4,D5,D6⟩:=d6.free3;obtain⟨D2,D3,n6⟩:=d6.get3;rw[A.o] at n6;obtain⟨d4,d7⟩:∃d4,d4=(((f.w.setCell ⟨c,0,none⟩ N).setCell ⟨c,1,none⟩ (.map (some k))).setCell ⟨c,2,none⟩ (.string p)):=⟨_,rfl⟩;have B2:=d7.symm;have h6:Blk d4 c 126 [N,.map (some k),.string i.path]:=by rw[d7,A.o];exact d6.store3 _ _ _
     have f1:Chg (λg=>g=c) f.w d4:=by rw[d7];exact iI _ _ _ _ _
     have h1:=Hd (k3.o.con f.ext f1 h6 k9.o l2.o zO);have k7:=Hd ((z.o.trans (.of_ext h4.o)).trans h1.o.2);have k5:=Hd (f1.blk (k6.o.ext (h4.o.trans f.ext)) w1);clear f1 d7 h6 d6 f2 l6 l7 h5 l8 l9 m0 m1 m2 m3 m4 h2;go_wp2_with fail
     go_roundw;case rel=>exact⟨g+1,i.con y.name v,zO,zN,h1.o.1,k7.o,k5.o,by show(i.env++[(y.name,v)]).length<=g+1;rw[List.length_append];simp only[List.length_cons,List.length_nil];omega,A.o,O.o⟩
     case measure=>simp[intOf];omega
   |none=>
    rw[htd] at i0;have O:=Hd (show J=(do let s<-(do let v<-aG i y.x;de aB (of.params.drop (g+1)) (i.con y.name v));cI E of.ports s m) by rw[C,qL _ _ _ htd]);simp only[Option.getD_none,Option.isSome_none] at i0;clear C htd;have s2:=Hd (fz u B y.x _ c k d1 i Q c2.o.cx l5.o l1.o k8.o);go_wp2_with fail
    go_at_call 71;refine s2.o.mono ?_;rintro e E7 (⟨v,x9,r,rfl,rfl,d9⟩|⟨K,r,rfl,d9⟩);rotate_left
    ·exact⟨rfl,.no (by rw[O.o,r];rfl) (g6.o _ ((z.o.trans (.of_ext e3.o)).trans (.of_ext d9)) _ _)⟩
    obtain⟨h3,v4⟩:∃h3,h3=E7:=⟨_,rfl⟩;rw[<-v4] at d9⊢;have l2:=Hd (iq r);have k4:=Hd (r5.o.ext d9);have k3:=Hd (c2.o.ext d9);have d3:=Hd (l1.o.ext d9);have h4:=Hd (e3.o.trans d9);have C7:wr.heap.size<h3.heap.size:=aI w4 d9.size;have r8:=Hd (show J=(do let s<-de aB (of.params.drop (g+1)) (i.con y.name v);cI E of.ports s m) by rw[O.o,r];rfl);replace O:=r8;clear r d9 v4 i0 s6 s7 s8 s9 t0 t1 t2 x0 x1 x2 x3 x4 x5 x6 v1 r8 s2;obtain⟨l6,l7,h5⟩:=d3.o.blk.later3;rw[A.o] at h5;obtain⟨l8,l9,m0,m1,m2,m3,m4⟩:=k4.o.later7;have D9:=d3.o.env.oneCell;have h2:=Hd (λ(q:World) (D:Ext h3 q)=>show Calls Tryz.prog 72 #[.agg #[d1,.map (some k),.string p],.string y.name,.int .i64 v] q λd0 j1=>∃h0,d0=.returned (.agg #[h0,.map (some k),.string p])/\SlT 85 RNm j1 2 (i.env++[(y.name,v)]) h0/\Ext q j1 by rw[<-A.o];exact hU i d1 (.map (some k)) y.name v q ((d3.o.ext D).env) rfl k8.o);go_wp2_with fail
    refine bT 9 (W:=h3) (Ext) (paC (i.env++[(y.name,v)]) k p [.pointer (some ⟨c,0,none⟩),.pointer (some ⟨c,0,none⟩),.pointer (some ⟨c,0,none⟩),.agg #[d1,.map (some k),.string p],.pointer (some ⟨wr.heap.size,0,none⟩),.string y.name,.int .i64 v,undef,.pointer (some ⟨c,0,none⟩)]) (λ_ _=>False) (λ_=>true) zK (bG) zK zK ?_ (ah _) (λc4 v w q L D=>lu L D) ?_ (λI s5 w b i1=>i1.elim) ?_
    ·exact⟨rfl,rfl,rfl,rfl,rfl,rfl,rfl,rfl,rfl,trivial⟩
    ·refine⟨?_,?_,?_,?_,?_,?_,?_,?_,?_,trivial⟩;rotate_left 7
     ·intro I e2 t b l;obtain⟨f,rfl⟩:=ae t;have q7:=aa b 3 45 zK rfl;simp[paC] at q7;have i7:=aa b 5 47 zK rfl;simp[paC] at i7;have i8:=aa b 6 48 zK rfl;simp[paC] at i8;clear b l;go_simp;refine(h2.o f.w f.ext).mono ?_;rintro e r3 ⟨N,rfl,d8,c3⟩;have q4:=d8.oneCell;go_simp;first|exact⟨_,rfl,c3,N,rfl,d8⟩|exact⟨c3,N,rfl,d8⟩|exact⟨_,rfl,N,rfl,d8⟩
     all_goals
      intro I e2 t b l;obtain⟨f,rfl⟩:=ae t;try (have q5:=aa b 0 42 zD rfl;simp[paC] at q5)
      try (have q6:=aa b 1 43 zD rfl;simp[paC] at q6)
      try (have i5:=aa b 2 44 zD rfl;simp[paC] at i5)
      try (have i6:=aa b 4 46 zD rfl;simp[paC] at i6)
      have i9:=ag l 11 zK;simp at i9;have q8:=ag l 13 zK;simp at q8;have q9:=ag l 14 zK;simp at q9;clear b l;exact zA
    ·intro I e2 g9;obtain⟨e4,rfl,t,F,a⟩:=g9.fin (n:=73) rfl;obtain⟨f,rfl⟩:=ae t;have S:=a 0 zK;have T:=a 1 zK;have j:=a 2 zK;have a7:=a 3 zK;have a8:=a 4 zK;have a9:=a 5 zK;have b6:=a 6 zK;have b7:=a 7 zK;have c0:=a 8 zK;have c1:=a 9 zK;have U:=a 10 zK;have V:=a 11 zK;have X:=a 12 zK;have Y:=a 16 zK;have f4:=a 17 zK;have Z:=a 18 zK;have a0:=a 19 zK;have a1:=a 20 zK;have a2:=a 21 zK;have a3:=a 22 zK;have a4:=a 23 zK;have a5:=a 24 zK;have a6:=a 25 zK;have b2:=a 52 zK;have b3:=a 53 zK;have b4:=a 54 zK;have b5:=a 55 zK;have f5:=a 56 zK;have f6:=a 57 zK;have f7:=a 58 zK;have c5:=a 59 zK;have c6:=a 60 zK;have f8:=a 61 zK;have c7:=a 62 zK;have f9:=a 63 zK;have g0:=a 64 zK;have g1:=a 65 zK;have c8:=a 66 zK;have g2:=a 67 zK;have g3:=a 68 zK;have c9:=a 69 zK;have g4:=a 70 zK;have b8:=a 71 zK;have b9:=a 72 zK;have e1:e4 50=.pointer (some ⟨c,0,none⟩):=F 8 50 rfl rfl;obtain⟨N,e0,f2⟩:=F 7 49 rfl rfl;clear F a;simp at S T j a7 a8 a9 b6 b7 c0 c1 U V X Y f4 Z a0 a1 a2 a3 a4 a5 a6 b2 b3 b4 b5 f5 f6 f7 c5 c6 f8 c7 f9 g0 g1 c8 g2 g3 c9 g4 b8 b9;simp only[List.drop_succ_cons,List.drop_zero];simp[List.range,List.range.loop,S,T,j,a7,a8,a9,b6,b7,c0,c1,U,V,X,Y,f4,Z,a0,a1,a2,a3,a4,a5,a6,b2,b3,b4,b5,f5,f6,f7,c5,c6,f8,c7,f9,g0,g1,c8,g2,g3,c9,g4,b8,b9,e1,e0];clear S T j a7 a8 a9 b6 b7 c0 c1 U V X Y f4 Z a0 a1 a2 a3 a4 a5 a6 b2 b3 b4 b5 f5 f6 f7 c5 c6 f8 c7 f9 g0 g1 c8 g2 g3 c9 g4 b8 b9 e1 e0;have k9:=Hd f2;have d6:=d3.o.blk.ext f.ext;have q4:=f2.oneCell;obtain⟨D4,D5,D6⟩:=d6.free3;obtain⟨D2,D3,n6⟩:=d6.get3;rw[A.o] at n6;obtain⟨d4,d7⟩:∃d4,d4=(((f.w.setCell ⟨c,0,none⟩ N).setCell ⟨c,1,none⟩ (.map (some k))).setCell ⟨c,2,none⟩ (.string p)):=⟨_,rfl⟩;have B2:=d7.symm;have h6:Blk d4 c 126 [N,.map (some k),.string i.path]:=by rw[d7,A.o];exact d6.store3 _ _ _
     have f1:Chg (λg=>g=c) f.w d4:=by rw[d7];exact iI _ _ _ _ _
     have h1:=Hd (k3.o.con f.ext f1 h6 k9.o l2.o zO);have k7:=Hd ((z.o.trans (.of_ext h4.o)).trans h1.o.2);have k5:=Hd (f1.blk (k6.o.ext (h4.o.trans f.ext)) w1);clear f1 d7 h6 d6 f2 l6 l7 h5 l8 l9 m0 m1 m2 m3 m4 h2;go_wp2_with fail
     go_roundw;case rel=>exact⟨g+1,i.con y.name v,zO,zN,h1.o.1,k7.o,k5.o,by show(i.env++[(y.name,v)]).length<=g+1;rw[List.length_append];simp only[List.length_cons,List.length_nil];omega,A.o,O.o⟩
     case measure=>simp[intOf];omega
  ·have B8:g=of.params.length:=by omega
   subst B8;have t9:J=cI E of.ports i m:=by rw[C,List.drop_length];rfl
   have s1:=Hd (show J=cI E (of.ports.drop 0) i m from t9);have B6:i.env.length<=of.params.length:=by omega
   obtain⟨F0,F1,F2,F3⟩:=j8.get4;clear C t9 G H j8 e5 e7;go_wp2_with fail
   go_loopw [55] (λc4 wr=>∃(g:Nat) (M:Sc) (i4:Mk),g<=of.ports.length/\c4=.int .i64 g/\EC u B N0 mb c k g5 i4 M wr/\FrI N0 mb c k w wr/\M.env.length<=of.params.length/\M.path=p/\J=cI E (of.ports.drop g) M i4) (λc4 _=>of.ports.length - (intOf c4).toNat)
   case atStart=>exact⟨0,i,m,aO _,rfl,d2.o,z.o,B6,A.o,s1.o⟩
   case round=>
    obtain⟨j,M,i4,F9,rfl,G,H,e5,e7,C⟩:=hrel;clear s1 d2 z A F0 F1 F2 F3 k6;have d2:=Hd G;have z:=Hd H;have A:=Hd e7;by_cases j9:j<of.ports.length
    ·rw[List.drop_eq_getElem_cons j9,ym] at C;have O:=Hd C;have l4:=Hd (A0.o of.ports[j] (ao j9));have B7:=Hd e5;have C3:=z4.o of.ports[j] (ao j9);obtain⟨d5,o,j5,n4,B4,B5,h8,n2,t8⟩:=z5.o _ j9;subst n4;have z7:=Hd t8;obtain⟨K,rfl,e9⟩:=t8;have l5:=Hd (l4.o _ e9);obtain⟨j2,rfl,h7⟩:=RX_iff.1 e9;have D8:=h7.oneCell;obtain⟨s6,s7,s8,s9,t0,t1,t2,F4⟩:=(h8.ext G.cx.ext).get8;obtain⟨Q,h9,e8,f0⟩:=cX wr (.string of.ports[j].name) (.bool of.ports[j].o) (.int .i64 of.ports[j].w.op) (.string of.ports[j].w.name) (.int .i64 of.ports[j].w.n) (.int .i64 of.ports[j].w.w) (.int .u64 of.ports[j].w.v) j2 42;obtain⟨A8,v7⟩:=ae (W:=Q) (w:=Q) (ah _);have v1:=h9.symm.trans v7;obtain⟨x0,x1,x2,x3,x4,x5,x6,H7⟩:=f0.later8;have c2:=Hd (d2.o.ext e8);have e3:=Hd e8;obtain⟨r2,r1,r0,d1,k1,i2⟩:=c2.o.ex;have r9:=Hd i2;have z2:=Hd k1;have y6:=Hd c2.o.gd.env;have D0:=G.mlt.2.2.2.1;have C9:=G.inv.sg;have B3:=G.inv.b0;have g8:=G.inv.b1;have C5:M.path.size<=1000000000:=by rw[e7];exact C4
     generalize of.ports[j]=h at*;have A3:=Hd (λ(q:World) (f3:Ext Q q)=>iM u B h.w _ c k d1 M q (c2.o.cx.later f3) l5.o (r9.o.ext f3) y6.o);have A1:=Hd (λ(q:World) (f3:Ext Q q)=>y9.o h q _ (c2.o.cx.ext.trans f3) z7.o);clear h9 e8 f0 h8 e9 h7 n2 H e5 k1 i2 G C v7 e7;go_wp2_with fail
     refine bT 11 (W:=Q) (Ext) (evF 7 99 (bV M h.w) (λg7=>.int .i64 g7) (λg7 v q=>True) [.pointer (some ⟨mb,0,none⟩),.pointer (some ⟨c,0,none⟩),.pointer (some ⟨wr.heap.size,0,none⟩),.string h.name,.pointer (some ⟨c,0,none⟩),.pointer (some ⟨wr.heap.size,2,none⟩),.agg #[.int .i64 h.w.op,.string h.w.name,.int .i64 h.w.n,.int .i64 h.w.w,.int .u64 h.w.v,j2],undef,.func (.func j6) #[] #[],.agg #[.string h.name,.bool h.o,.int .i64 h.w.op,.string h.w.name,.int .i64 h.w.n,.int .i64 h.w.w,.int .u64 h.w.v,j2],.int .i64 (E h)]) (evP (bV M h.w) Q) (λ_=>true) zK (bG) zK zK ?_ (af A8) (λc4 v w q L D=>fM (λ_ _ _ _ L _=>L) L D) ?_ (λI s5 E9 b i1=>by
      obtain⟨K,r,rfl,D⟩:=i1;obtain⟨H8,F5⟩:=I;simp only at b;subst b;have z3:=Hd (show RunsP J (HdR u B N0 mb g5 of.params.length p w) (FrI N0 mb sb mp w) (.panicked (aN K)) E9 from .no (by rw[O.o,r];rfl) (g6.o _ (z.o.trans (.of_ext (e3.o.trans D))) _ _));exact⟨rfl,z3.o⟩) ?_
     ·exact⟨rfl,rfl,rfl,rfl,rfl,rfl,rfl,rfl,rfl,rfl,rfl,trivial⟩
     ·refine⟨?_,?_,?_,?_,?_,?_,?_,?_,?_,?_,?_,trivial⟩;rotate_left 7
      ·intro I e2 t b l;obtain⟨f,rfl⟩:=ae t;have i6:=aa b 4 63 zK rfl;simp[evF] at i6;have i8:=aa b 6 65 zK rfl;simp[evF] at i8;clear b l;go_simp;refine(A3.o f.w f.ext).mono ?_;rintro e r3 (⟨g7,x9,r,rfl,rfl,c3⟩|⟨K,r,rfl,c3⟩);rotate_left
       ·exact⟨rfl,K,r,rfl,f.ext.trans c3⟩
       have l0:=Hd r;clear r;go_simp;first|exact⟨_,rfl,c3,g7,l0.o,rfl⟩|exact⟨c3,g7,l0.o,rfl⟩|exact⟨_,rfl,g7,l0.o,rfl⟩
      rotate_left 2
      ·intro I e2 t b l;obtain⟨f,rfl⟩:=ae t;have E0:=aa b 8 67 zK rfl;simp[evF] at E0;have E1:=aa b 9 68 zK rfl;simp[evF] at E1;clear b l;go_simp;refine(A1.o f.w f.ext).mono ?_;rintro _ r3 ⟨rfl,D⟩;go_simp;first|exact⟨_,rfl,D,rfl⟩|exact⟨D,rfl⟩|exact⟨_,rfl,rfl⟩|exact D
      all_goals
       intro I e2 t b l;obtain⟨f,rfl⟩:=ae t;try (have i5:=aa b 2 61 zD rfl;simp[evF] at i5)
       try (have i7:=aa b 5 64 zD rfl;simp[evF] at i7)
       have E2:=ag l 0 zK;simp at E2;have i9:=ag l 11 zK;simp at i9;have E3:=ag l 17 zK;simp at E3;have E4:=ag l 4 zK;simp at E4;clear b l;exact zA
     ·intro I e2 g9;obtain⟨e4,rfl,t,F,a⟩:=g9.fin (n:=73) rfl;obtain⟨f,rfl⟩:=ae t;have S:=a 0 zK;have T:=a 1 zK;have j:=a 2 zK;have a7:=a 3 zK;have a8:=a 4 zK;have a9:=a 5 zK;have b6:=a 6 zK;have b7:=a 7 zK;have c0:=a 8 zK;have c1:=a 9 zK;have U:=a 10 zK;have V:=a 11 zK;have X:=a 12 zK;have n7:=a 13 zK;have n8:=a 14 zK;have n9:=a 15 zK;have Y:=a 16 zK;have Z:=a 18 zK;have a0:=a 19 zK;have a1:=a 20 zK;have a2:=a 21 zK;have a3:=a 22 zK;have a4:=a 23 zK;have a5:=a 24 zK;have a6:=a 25 zK;have o0:=a 26 zK;have o1:=a 27 zK;have o2:=a 28 zK;have o3:=a 29 zK;have o4:=a 30 zK;have o5:=a 31 zK;have o6:=a 32 zK;have o7:=a 33 zK;have o8:=a 34 zK;have o9:=a 35 zK;have p0:=a 36 zK;have p1:=a 37 zK;have p2:=a 38 zK;have p3:=a 39 zK;have p4:=a 40 zK;have p5:=a 41 zK;have p6:=a 42 zK;have p7:=a 43 zK;have p8:=a 44 zK;have p9:=a 45 zK;have q0:=a 46 zK;have q1:=a 47 zK;have q2:=a 48 zK;have e0:=a 49 zK;have e1:=a 50 zK;have q3:=a 51 zK;have b2:=a 52 zK;have b3:=a 53 zK;have b4:=a 54 zK;have b5:=a 55 zK;have b8:=a 71 zK;have b9:=a 72 zK;have c5:e4 59=.pointer (some ⟨mb,0,none⟩):=F 0 59 rfl rfl;have c6:e4 60=.pointer (some ⟨c,0,none⟩):=F 1 60 rfl rfl;have c7:e4 62=.string h.name:=F 3 62 rfl rfl;have c9:e4 69=.int .i64 (E h):=F 10 69 rfl rfl;obtain⟨E8,n3,c8⟩:=F 7 66 rfl rfl;clear F a;simp at S T j a7 a8 a9 b6 b7 c0 c1 U V X n7 n8 n9 Y Z a0 a1 a2 a3 a4 a5 a6 o0 o1 o2 o3 o4 o5 o6 o7 o8 o9 p0 p1 p2 p3 p4 p5 p6 p7 p8 p9 q0 q1 q2 e0 e1 q3 b2 b3 b4 b5 b8 b9;simp only[List.drop_succ_cons,List.drop_zero];simp[List.range,List.range.loop,S,T,j,a7,a8,a9,b6,b7,c0,c1,U,V,X,n7,n8,n9,Y,Z,a0,a1,a2,a3,a4,a5,a6,o0,o1,o2,o3,o4,o5,o6,o7,o8,o9,p0,p1,p2,p3,p4,p5,p6,p7,p8,p9,q0,q1,q2,e0,e1,q3,b2,b3,b4,b5,b8,b9,c5,c6,c7,c9,c8];clear S T j a7 a8 a9 b6 b7 c0 c1 U V X n7 n8 n9 Y Z a0 a1 a2 a3 a4 a5 a6 o0 o1 o2 o3 o4 o5 o6 o7 o8 o9 p0 p1 p2 p3 p4 p5 p6 p7 p8 p9 q0 q1 q2 e0 e1 q3 b2 b3 b4 b5 b8 b9 c5 c6 c7 c9 c8;have l3:=Hd (kx n3);have H3:=l3.o;have r7:=Hd n3;have A2:=Hd (kK N0 mb c k g5 r2 r1 r0 d1 i4 M h.name E8 (E h) 0 f.w (z2.o.ext f.ext) (r9.o.ext f.ext) D0 C9 B3 g8 zO zO C5 C3);clear n3;go_wp2_with fail
      go_at_call 73;refine A2.o.mono ?_;rintro e I1 (⟨d0,x9,r,rfl,rfl,⟨r2,r1,r0,e6,H⟩,⟨h0,w5⟩⟩|⟨K,r,rfl,H⟩);rotate_left
      ·exact⟨rfl,.no (by rw[O.o,r7.o];simp only[bind,Except.bind];rw[r]) (g6.o _ ((z.o.trans (.of_ext (e3.o.trans f.ext))).trans H) _ _)⟩
      have y5:=Hd (z.o.trans ((bR (e3.o.trans f.ext)).trans H));have y7:=Hd (d2.o.frI ((bR (e3.o.trans f.ext)).trans H) e6 w5 (d2.o.gd.signal r l3.o) (d2.o.inv.signal r l3.o));have z8:=Hd (fF r).1;have z6:=Hd (show J=cI E (of.ports.drop (j+1)) d0.1 d0.2 by rw[O.o,r7.o];simp only[bind,Except.bind];rw[r]);have r6:=Hd (show d0.1.env.length<=of.params.length/\d0.1.path=p by rw[z8.o];exact⟨B7.o,A.o⟩);clear e6 w5 H r;go_wp2_with fail
      go_roundw;case rel=>exact⟨j+1,d0.1,d0.2,zO,zN,y7.o,y5.o,r6.o.1,r6.o.2,z6.o⟩
      case measure=>simp[intOf];omega
    ·have B9:j=of.ports.length:=by omega
     have O:=Hd (show J=.ok (M,i4) by rw[C,B9,List.drop_length];rfl);have y4:=Hd e5;clear C G H e7 e5;go_wp2_with fail
     refine bodyPost_ret (v:=.pointer (some ⟨c,0,none⟩)) ?_ rfl (.ok O.o ⟨c,k,rfl,zO,zO,d2.o,g6.o _ z.o,A.o,y4.o⟩);simp[results,results37,go_sem]
end Go.Proofs.YtlfmlodanoolhaaGreatDoor
