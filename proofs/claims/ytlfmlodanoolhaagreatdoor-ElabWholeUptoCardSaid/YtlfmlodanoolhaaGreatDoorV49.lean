import Derived.Lib.ItoaLen
import Derived.Test.YtlfmlodanoolhaaGreatDoorV48
import Derived.Test.YtlfmlodanoolhaaGreatDoorV47
set_option linter.all false
set_option maxRecDepth 200000
set_option maxHeartbeats 0
namespace Go.Proofs.YtlfmlodanoolhaaGreatDoor
open Go Go.RowKit Go.Proofs.Tryz
attribute [local go_sem] bc
theorem TabP.ext{w b:World}(h:TabP w)(d:Ext w b):TabP b:=by
 unfold TabP Lib.TabIs World.var? at h⊢
 cases hg : Tryz.prog.globalNamed "internal/strconv.uint64pow10" with
 |none=>rw[hg] at h;cases h
 |some g=>
  rw[hg] at h;simp only[Option.bind_some] at h⊢;have c:g<w.heap.size:=by
   rcases Nat.lt_or_ge g w.heap.size with a|a
   ·exact a
   ·rw[Array.getElem?_eq_none a] at h;cases h
  rw[d.heap c];exact h
theorem xj(v:Int)(h0:0<=v)(a:v<=2147483647):(cT v).size<=21:=by
 have:=Lib.itoa_length_le v zO zO;show(Lib.itoa v).toArray.size<=21;simpa using this
structure LmI(W0 w0:World)(B N0 mb sb mp gm gs gx:Nat)(vf:Value)(t:Itm)(v3 v4 v5 v6 v7 v8:Value)(s:Sc)(a:Mk)(w:World):Prop where
 ec:EC W0 B N0 mb sb mp vf a s w
 fr:FrI N0 mb sb mp w0 w
 bm:Blk w gm 97 [.pointer (some ⟨mb,0,none⟩)]
 bs:Blk w gs 100 [.pointer (some ⟨sb,0,none⟩)]
 bx:Blk w gx 37 [.int .i64 t.op,.string t.name,.string t.of,v3,v4,v5,v6,v7,v8]
theorem ScI.frN{N0 mb sb mp g a:Nat}{f:Value}{s:Sc}{w b:World}(h:ScI w sb mp f s)(c:FrI N0 mb g a w b)(k:Kp w b)(d:Tag w mb 99)(i:sb≠g)(h2:sb≠a)(h3:mp≠g)(j:mp≠a):ScI b sb mp f s:=
 ⟨c.blk h.blk ⟨zD,zD,zD⟩ (λe=>absurd (h.blk.tag.one (e▸d)) zD) i h2,h.env.keep (.inr (.inr rfl)) k (λ_ _ _ h=>h),c.map h.map (λe=>h.map.noTag (e▸d)) h3 j⟩
theorem Good.more{l b:List Sg}{s:Sc}(h:Good l s)(e:l.length<=b.length)(d:∀a,a∈b->1<=a.w/\a.w<=64):Good b s:=
 ⟨λn c ha=>by have:=h.at_ n c ha;omega,d,h.env,h.const⟩
def paF(W:World)(s:Sc)(c:ByteArray)(vals:List Value)(i:Nat)(v:Value)(w:World):Prop:=
 if i=10 then∃a b d,v=.pointer (some ⟨a,0,none⟩)/\W.heap.size<=a/\W.heap.size<=b/\ScI w a b d ⟨s.env,s.sigs,s.path++c⟩ else v=vals.getD i undef
theorem um{W:World}{s:Sc}{a:ByteArray}{vals:List Value}{i:Nat}{v:Value}{w b:World}(h:paF W s a vals i v w)(k:Ext w b):paF W s a vals i v b:=by
 unfold paF at h⊢;split
 ·rename_i hi;rw[if_pos hi] at h;obtain⟨c,d,l,e,f,g,j⟩:=h;exact⟨c,d,l,e,f,g,j.ext k⟩
 ·rename_i hi;rw[if_neg hi] at h;exact h
def paC(env:List (ByteArray×Int))(b:Nat)(p:ByteArray)(vals:List Value)(i:Nat)(v:Value)(w:World):Prop:=
 if i=7 then∃a,v=.agg #[a,.map (some b),.string p]/\SlT 85 RNm w 2 env a else v=vals.getD i undef
theorem nd{env:List (ByteArray×Int)}{a:Nat}{p:ByteArray}{vals:List Value}{i:Nat}{v:Value}{w b:World}(h:paC env a p vals i v w)(e:Ext w b):paC env a p vals i v b:=by
 unfold paC at h⊢;split
 ·rename_i hi;rw[if_pos hi] at h;obtain⟨f,c,d⟩:=h;exact⟨f,c,d.keep (.inr (.inr rfl)) e.kp (λ_ _ _ h=>h)⟩
 ·rename_i hi;rw[if_neg hi] at h;exact h
theorem xQ(C w0:World)(B N0 mb sb mp J gs y:Nat)(V:Value)(inst:Itm->Sc->Mk->Rs Mk)(hi:iB inst)(k:Nat)(t:Itm)(a4 a5 U a6 a7 a8:Value)(s:Sc)(l3:w0.heap.size<=J)(l4:w0.heap.size<=gs)(l5:w0.heap.size<=y)
 (m8:mb<w0.heap.size/\sb<w0.heap.size/\mp<w0.heap.size)
 (g0:fE C B N0 mb V inst k t.l) (c1:Sl (RI C B) C B 9 t.l U) (n8:a4.oneCell'=true) (n9:a5.oneCell'=true) (o1:a6.oneCell'=true) (o2:a7.oneCell'=true) (o3:a8.oneCell'=true)
 (l8:t.name.size<=64) (l9:t.of.size<=64) (l6:s.env.length+aj t<=1000000) (m1:s.path.size+100*(k*70000+aj t)<=1000000000)
 (v:Int) (g4:bU v) (a:Mk) (w:World) (r:LmI C w0 B N0 mb sb mp J gs y V t a4 a5 U a6 a7 a8 s a w):
 Calls Tryz.prog 113 (#[.int .i64 v]++#[.pointer (some ⟨gs,0,none⟩),.pointer (some ⟨y,0,none⟩),.pointer (some ⟨J,0,none⟩)]) w
  (RunsP (do let z<-aZ inst t.l (s.pass t.name t.of v) a;return z.2) (λi4 A q=>A=aO/\LmI C w0 B N0 mb sb mp J gs y V t a4 a5 U a6 a7 a8 s i4 q) (FrI N0 mb sb mp w0)):=by
 have h:=Hd r;have h3:=Hd g0;have h8:=Hd c1;have i0:=Hd g4;have o0:=c1.oneCell;obtain⟨g5,j0⟩:=g4;have l1:=xj v g5 j0;have m7:=bq t;obtain⟨l7,i8,m4,m6,m2,m3,k9⟩:=r.ec.mlt;obtain⟨k1,k0,j9,h0,g1,M⟩:=r.ec.ex;have b2:=Hd g1;have h9:=Hd M;have e7:=Hd r.ec.gd.env;have o4:=M.env.oneCell;obtain⟨j,c4⟩:∃j,j=t.name++tOpen++cT v++tShut:=⟨_,rfl⟩;have g3:j.size=t.name.size+1+(cT v).size+2:=by rw[c4,ByteArray.size_append,ByteArray.size_append,ByteArray.size_append];rfl
 have b3:=Hd c4;have n5:¬(9223372036854775807<t.name.size+1):=by omega
 have n6:¬(9223372036854775807<t.name.size+1+(cT v).size):=by omega
 have n7:¬(9223372036854775807<t.name.size+1+(cT v).size+2):=by omega
 have i6:s.path.size<=1000000000:=by omega
 have i7:j.size<=1000000000:=by omega
 have e9:=Hd (λ(q:World) (f:Ext w q)=>vS v g5 zO q (r.ec.tab.ext (r.ec.cx.ext.trans f)));have f0:=Hd (λ(q:World) (f:Ext w q)=>Bo s h0 mp j q ((M.ext f).env) (M.ext f).map e7.o i6 i7);obtain⟨b6,b7,b8⟩:=M.blk.later3;obtain⟨d6,d7,d8,d9,e0,e1,e2,e3,e4⟩:=r.bx.later9;have k2:=cellAt (r.bs.cell 0);have e5:=cellAt (r.bm.cell 0);have k5:∀A:ByteArray,A++(⟨#[91]⟩:ByteArray)=A++tOpen:=λ_=>rfl
 have k6:∀A:ByteArray,A++(⟨#[93,46]⟩:ByteArray)=A++tShut:=λ_=>rfl
 have k7:tOpen.size=1:=rfl;have k8:tShut.size=2:=rfl;have h5:=Hd g3;clear g1 M r g0 c1 g3 c4
 go_in
 go_wp2_with fail
 refine bD 11 (W:=w) (Ext) (paF w s j [.pointer (some ⟨sb,0,none⟩),.pointer (some ⟨sb,0,none⟩),.agg #[h0,.map (some mp),.string s.path],.pointer (some ⟨y,1,none⟩),.string t.name,.string (t.name++tOpen),.int .i64 v,.string (cT v),.string (t.name++tOpen++cT v),.string (t.name++tOpen++cT v++tShut),undef]) (λ_ _=>False) (λ_=>true) zK (bo) zK zK ?_ (af _) (λj1 v w q c0 f=>um c0 f) ?_ (λx i5 w b c3=>c3.elim) ?_
 ·exact⟨rfl,rfl,rfl,rfl,rfl,rfl,rfl,rfl,rfl,rfl,rfl,trivial⟩
 ·refine⟨?_,?_,?_,?_,?_,?_,?_,?_,?_,?_,?_,trivial⟩;rotate_left 7
  ·intro x O i b g;obtain⟨c,rfl⟩:=ae i;have d2:=ab b 6 12 zK rfl;simp[paF] at d2;clear b g;go_simp;refine(e9.o c.w c.ext).mono ?_;rintro _ h1 ⟨rfl,f⟩;go_simp;first|exact⟨_,rfl,f,rfl⟩|exact⟨f,rfl⟩|exact⟨_,rfl,rfl⟩|exact f|exact rfl
  rotate_left 2
  ·intro x O i b g;obtain⟨c,rfl⟩:=ae i;have c8:=ab b 2 8 zK rfl;simp[paF] at c8;have j6:=ab b 9 15 zK rfl;simp[paF] at j6;clear b g;go_simp;rw[<-b3.o];refine(f0.o c.w c.ext).mono ?_;rintro _ h1 ⟨d,m,H,rfl,f3,f4,f5,f⟩;have c5:=c.ext.size;have b0:=Hd (aq (ad c5 f3) (aq (ad c5 f4) f5));clear f3 f4 f5;go_simp;first|exact⟨_,rfl,f,d,m,H,rfl,b0.o⟩|exact⟨f,d,m,H,rfl,b0.o⟩|exact⟨_,rfl,d,m,H,rfl,b0.o⟩
  all_goals
   intro x O i b g;obtain⟨c,rfl⟩:=ae i;try (have j3:=ab b 0 6 zD rfl;simp[paF] at j3)
   try (have c7:=ab b 1 7 zD rfl;simp[paF] at c7)
   try (have c9:=ab b 3 9 zD rfl;simp[paF] at c9)
   try (have d0:=ab b 4 10 zD rfl;simp[paF] at d0)
   try (have d1:=ab b 5 11 zD rfl;simp[paF] at d1)
   try (have j4:=ab b 7 13 zD rfl;simp[paF] at j4)
   try (have j5:=ab b 8 14 zD rfl;simp[paF] at j5)
   have j7:=ah g 1 zK;simp at j7;have d4:=ah g 2 zK;simp at d4;have d3:=ah g 0 zK;simp at d3;clear b g;exact zA
 ·intro x O R;obtain⟨f2,rfl,i,L,p⟩:=R.fin (n:=31) rfl;obtain⟨c,rfl⟩:=ae i;have D:=p 0 zK;have E:=p 1 zK;have F:=p 2 zK;have G:=p 3 zK;obtain⟨d,m,H,g7,f7,f8,T⟩:=L 10 16 rfl rfl;clear L p;simp at D E F G;simp only[List.drop_succ_cons,List.drop_zero];simp[List.range,List.range.loop,D,E,F,G,g7];clear D E F G g7;have f1:=Hd c.ext;clear b6 b7 b8 d6 d7 d8 d9 e0 e1 e2 e3 e4 k2 e5 e9 f0;obtain⟨P,Y⟩:∃P,P=c.w:=⟨_,rfl⟩;rw[<-Y] at T;rw[<-Y];have b5:=Hd (show Ext w P from Y▸f1.o);clear Y f1;obtain⟨b6,b7,b8⟩:=T.blk.later3;have o5:=T.env.oneCell;obtain⟨d6,d7,d8,d9,e0,e1,e2,e3,e4⟩:=(h.o.bx.ext b5.o).later9;have e5:=cellAt ((h.o.bm.ext b5.o).cell 0);have b4:=Hd T;have e8:=Hd (λ(q:World) (f:Ext P q)=>iz ⟨s.env,s.sigs,s.path++j⟩ H (.map (some m)) t.of v q ((b4.o.ext f).env) rfl e7.o);clear T;go_wp2_with fail
  refine bD 8 (W:=P) (Ext) (paC (s.env++[(t.of,v)]) m (s.path++j) [.pointer (some ⟨d,0,none⟩),.pointer (some ⟨d,0,none⟩),.pointer (some ⟨d,0,none⟩),.agg #[H,.map (some m),.string (s.path++j)],.pointer (some ⟨y,2,none⟩),.string t.of,.int .i64 v,undef]) (λ_ _=>False) (λ_=>true) zK (bo) zK zK ?_ (af _) (λj1 v w q c0 f=>nd c0 f) ?_ (λx i5 w b c3=>c3.elim) ?_
  ·exact⟨rfl,rfl,rfl,rfl,rfl,rfl,rfl,rfl,trivial⟩
  ·refine⟨?_,?_,?_,?_,?_,?_,?_,?_,trivial⟩;rotate_left 7
   ·intro x O i b g;obtain⟨c,rfl⟩:=ae i;have c9:=ab b 3 20 zK rfl;simp[paC] at c9;have d1:=ab b 5 22 zK rfl;simp[paC] at d1;have d2:=ab b 6 23 zK rfl;simp[paC] at d2;clear b g;go_simp;refine(e8.o c.w c.ext).mono ?_;rintro e h1 ⟨N,rfl,a3,g6⟩;have j2:=a3.oneCell;go_simp;first|exact⟨_,rfl,g6,N,rfl,a3⟩|exact⟨g6,N,rfl,a3⟩|exact⟨_,rfl,N,rfl,a3⟩
   all_goals
    intro x O i b g;obtain⟨c,rfl⟩:=ae i;try (have c7:=ab b 1 18 zD rfl;simp[paC] at c7)
    try (have c8:=ab b 2 19 zD rfl;simp[paC] at c8)
    try (have d0:=ab b 4 21 zD rfl;simp[paC] at d0)
    have j8:=ah g 5 zK;simp at j8;have d4:=ah g 2 zK;simp at d4;have d3:=ah g 0 zK;simp at d3;clear b g;exact zA
  ·intro x O R;obtain⟨f2,rfl,i,L,p⟩:=R.fin (n:=31) rfl;obtain⟨c,rfl⟩:=ae i;have D:=p 0 zK;have E:=p 1 zK;have F:=p 2 zK;have G:=p 3 zK;have c6:=p 5 zK;have g8:f2 17=.pointer (some ⟨d,0,none⟩):=L 0 17 rfl rfl;obtain⟨N,g9,c2⟩:=L 7 24 rfl rfl;clear L p;simp at D E F G c6;simp only[List.drop_succ_cons,List.drop_zero];simp[List.range,List.range.loop,D,E,F,G,c6,g8,g9];clear D E F G c6 g8 g9;have h2:=Hd c2;have X:=b4.o.blk.ext c.ext;have j2:=c2.oneCell;obtain⟨n2,n3,n4⟩:=X.free3;obtain⟨m9,n0,n1⟩:=X.get3;obtain⟨Q,Z⟩:∃Q,Q=(((c.w.setCell ⟨d,0,none⟩ N).setCell ⟨d,1,none⟩ (.map (some m))).setCell ⟨d,2,none⟩ (.string (s.path++j))):=⟨_,rfl⟩;have l0:=Z.symm;have b9:Blk Q d 126 [N,.map (some m),.string (s.path++j)]:=by rw[Z];exact X.store3 _ _ _
   have a0:Chg (λk=>k=d) c.w Q:=by rw[Z];exact kg _ _ _ _ _
   have I:=Hd (b5.o.trans c.ext);have i8:=I.o.size;have f6:EC C B N0 mb d m V a ⟨s.env,s.sigs,s.path++j⟩ c.w:=by
    have u:=h.o.ec;have c5:=u.cx.ext.size;exact⟨⟨k1,k0,j9,H,b2.o.ext I.o,b4.o.ext c.ext⟩,u.cx.later I.o,⟨u.gd.at_,u.gd.w,u.gd.env,u.gd.const⟩,u.inv,u.lo,zO,zO,u.tab⟩
   have b1:=Hd (f6.con (af _) a0 b9 h2.o i0.o (by show s.env.length+1<=1000000;omega));have h6:=Hd (show(Sc.con ⟨s.env,s.sigs,s.path++j⟩ t.of v)=s.pass t.name t.of v by rw[b3.o];rfl);rw[h6.o] at b1;have i1:=Hd ((a0.blk ((h.o.bx).ext I.o) (show¬y=d by have:=h.o.bx.lt;omega)));have h4:=Hd ((a0.blk ((h.o.bm).ext I.o) (show¬J=d by have:=h.o.bm.lt;omega)));obtain⟨u0,u1,u2,u3,u4,u5,u6,u7,u8⟩:=i1.o.get9;have u9:=h4.o.cell 0;simp only[List.getElem?_cons_zero] at u9;have k3:=Hd b9.tag;have i3:=Hd (h3.o d m a (s.pass t.name t.of v) Q U b1.o.1 (by show(s.env++[(t.of,v)]).length+_<=_;rw[List.length_append];simp only[List.length_cons,List.length_nil];omega) (by show(s.path++(t.name++tOpen++cT v++tShut)).size+_<=_;rw[<-b3.o,ByteArray.size_append];have:=h5.o;omega) h8.o);have e6:=Hd ((cb (N0:=N0) (mb:=mb) (sb:=d) (mp:=m) I.o).trans b1.o.2);clear a0 Z b9 X f6 c2 d6 d7 d8 d9 e0 e1 e2 e3 e4 e5 b6 b7 b8 e8;go_wp2_with fail
   go_at_call 39;refine i3.o.mono ?_;rintro e d5 (⟨a9,A,S,rfl,i9,a1,a2,l2,m0⟩|⟨k4,S,rfl,a2⟩);rotate_left
   ·exact⟨rfl,.no (by rw[S];rfl) (h.o.fr.trans ((e6.o.trans a2).fresh w (FrI.refl _ _ _ _ _) (.inl f7) (.inl f8)))⟩
   subst i9;have hF:=(e6.o.trans a2);have K:FrI N0 mb sb mp w d5:=hF.fresh w (FrI.refl _ _ _ _ _) (.inl f7) (.inl f8);have f9:Kp w d5:=hF.kp b2.o.blk.tag (λe=>absurd e zO) (λe=>absurd e zO);have g2:=gp (inst:=inst) t.l (λa9 _=>mg hi a9) _ _ _ S;have i2:=Hd (show LmI C w0 B N0 mb sb mp J gs y V t a4 a5 U a6 a7 a8 s a9.2 d5 from by
    obtain⟨o9,o8,o6,o7,R,m5⟩:=a1.ex
    exact⟨h.o.ec.frI K R (h9.o.frN hF f9 b2.o.blk.tag zO zO zO zO) (h.o.ec.gd.more g2 a1.gd.w) a1.inv,h.o.fr.trans K,
     K.blk h.o.bm ⟨zD,zD,zD⟩ zO zO zO,K.blk h.o.bs ⟨zD,zD,zD⟩ zO zO zO,K.blk h.o.bx ⟨zD,zD,zD⟩ zO zO zO⟩)
   have h7:=Hd (show(do let z<-aZ inst t.l (s.pass t.name t.of v) a;return z.2:Rs Mk)=.ok a9.2 by rw[S];rfl);clear S a1 a2 hF K f9 g2;go_wp2_with fail
   refine bodyPost_ret (v:=aO) ?_ rfl (.ok h7.o ⟨rfl,i2.o⟩);simp[results,results113,go_sem,aO]
theorem Ao{e w0:World}{B N0 mb sb mp c gs d:Nat}{i:Value}{t:Itm}{l m n o p q:Value}{s:Sc}(r:w0.heap.size<=c)(u:w0.heap.size<=gs)(v:w0.heap.size<=d)(x:mb<w0.heap.size):PassI e B N0 mb sb mp s (LmI e w0 B N0 mb sb mp c gs d i t l m n o p q s) id (λ_ f=>f) (FrI N0 mb sb mp w0) where
 ctx a w hj:=by
  obtain⟨k,j,g,h,b⟩:=hj.ec.stc;exact⟨i,k,j,g,h,b⟩
 ext a w w' hj hx:=⟨hj.ec.ext hx,hj.fr.trans (.of_ext hx),hj.bm.ext hx,hj.bs.ext hx,hj.bx.ext hx⟩
 cnt a w w' vf' vs' vp' vc' f hj hk hk' hf hc:=by
  obtain⟨k,j,g,h,b⟩:=hj.ec.stc;obtain⟨rfl,rfl,rfl,rfl⟩:=b.mk_.one hk;exact⟨.of_stc hj.ec (.of_chg hf) (b.frS hf hk' hc) hc,hj.fr.trans (.of_chg hf),hf.blk hj.bm (show¬c=mb by omega),hf.blk hj.bs (show¬gs=mb by omega),hf.blk hj.bx (show¬d=mb by omega)⟩
 bad a w w' hj hf:=hj.fr.trans (.of_chg hf)
theorem qQ{body:Int->Mk->Rs Mk}:∀(n:Nat) (v:Int) (m:Mk),dF (σ:=Mk) id (λ_ a=>a) body n v m=ff body n v m
 |0,v,m=>rfl
 |n+1,v,m=>by
  simp only[dF,ff,bind,Except.bind,id];cases aW 1 m with
  |error e=>rfl
  |ok m1=>
   simp only[];cases body v m1 with
   |error e=>rfl
   |ok y=>exact qQ n (v+1) y
theorem BL(j:World)(B N0 mb:Nat)(y:Value)(inst:Itm->Sc->Mk->Rs Mk)(k:Nat)(t:Itm)(K:t.op=9)(b3:∀b5,b5∈t.x->VX b5)(h2:t.x.length=2)(a9:t.name.size<=64)(b2:t.of.size<=64)(hi:iB inst)(a7:fE j B N0 mb y inst k t.l):eF j B N0 mb y inst k t:=by
 intro n r m s w f2 a g0 c7 c8 F;have d8:=Hd a;have f6:=a.inv.b0;have f7:=a.inv.b1;have g5:=a.inv.sg;have g3:=a.inv.pr;have f8:=a.inv.c0;have f9:=a.inv.c1;obtain⟨a8,d0,c9,g6,g2,g4,f3⟩:=a.mlt;obtain⟨u,O,P,Q,R,S,rfl,A,C,D,E,a1,a2⟩:=RI_iff.1 F;have d3:=A.oneCell;have d4:=C.oneCell;have g9:=D.oneCell;have d5:=E.oneCell;have d6:=a1.oneCell;have d7:=a2.oneCell;have b9:=Hd A;have e1:=Hd C;have c2:=Hd D;have e2:=Hd E;have d9:=Hd F;obtain⟨d,a3,b4,G⟩:=aL w (.pointer (some ⟨mb,0,none⟩)) 97;obtain⟨f,a4,M,H⟩:=aL d (.pointer (some ⟨n,0,none⟩)) 100;obtain⟨z,a5,q,I⟩:=bM f (.int .i64 t.op) (.string t.name) (.string t.of) u O P Q R S 37;have f4:=a3.symm;have f5:=a4.symm;have h0:w.heap.size<d.heap.size:=G.lt;have h1:d.heap.size<f.heap.size:=H.lt;have h3:f.heap.size<z.heap.size:=I.lt;have U:=Hd (G.ext (M.trans q));have V:=Hd (H.ext q);have X:=Hd I;have a0:=Hd (b4.trans (M.trans q));have b6:=Hd (a.ext a0.o);obtain⟨g,J⟩:=ae (W:=z) (w:=z) (af _);have c5:=a5.symm.trans J;obtain⟨c4,e4,e5,e6,e7,e8,e9,f0,f1⟩:=X.o.later9;have g7:=cellAt (U.o.cell 0);have g8:=cellAt (V.o.cell 0);have e0:=Hd J;clear J a3 a4 a5 b4 M q G H I a A C D E a1 a2 F;have Y:=Hd (show aF inst t s m=(do let m2<-(do let c<-aI s (xAt t.x 0);let b<-aI s (xAt t.x 1);dF (σ:=Mk) id (λ_ N=>N) (λv d2=>do let p<-aZ inst t.l (s.pass t.name t.of v) d2;return p.2) (b - c).toNat c m);return(s,m2)) by
  rw[mf inst t s m K];simp only[qQ,bind,Except.bind];cases aI s (xAt t.x 0) with
  |error e=>rfl
  |ok c=>
   simp only[];cases aI s (xAt t.x 1)<;>rfl)
 have d1:aa al t.x<=1000000000:=by have:=bq t;omega
 have a6:=X.o;have b8:=Hd (aq a8 (aq d0 c9));have K1:=Hd (λ(v:Int) (c:Mk) (T:World) L h=>xQ j w B N0 mb n r w.heap.size d.heap.size f.heap.size y inst hi k t u O P Q R S s (ac _) zO zO b8.o a7 c2.o d3 d4 d5 d6 d7 a9 b2 c7 c8 v L c T h);have g1:=@hmf_ Tryz.prog
 have c3:=Hd (oC j B N0 mb n r s (LmI j w B N0 mb n r w.heap.size d.heap.size f.heap.size y t u O P Q R S s) id (λ_ N=>N) (FrI N0 mb n r w) (Ao (ac _) zO zO a8)
  (λv c=>do let p<-aZ inst t.l (s.pass t.name t.of v) c;return p.2) 113 #[.pointer (some ⟨d.heap.size,0,none⟩),.pointer (some ⟨f.heap.size,0,none⟩),.pointer (some ⟨w.heap.size,0,none⟩)] ⟨λ_ _=>by kernel_rfl⟩
  (λv c T L h=>K1.o v c T L h)
  t.x u m g.w ⟨b6.o.ext g.ext,.of_ext (a0.o.trans g.ext),U.o.ext g.ext,V.o.ext g.ext,a6.ext g.ext⟩ b9.o h2 d1 b3)
 clear a6 a9 b2 hi a7 b3;rw[K] at c5 c4;rw[K];go_enter func76,ntmps76;go_wp2_with fail
 go_at_call 112;refine c3.o.mono ?_;rintro e h5 (⟨p,h4,i,rfl,rfl,h⟩|⟨e3,i,rfl,c6⟩);rotate_left
 ·exact⟨rfl,.no (by rw[Y.o];simp only[bind,Except.bind] at i⊢;rw[i]) c6⟩
 have b7:=Hd (show aF inst t s m=.ok (s,p) by rw[Y.o];simp only[bind,Except.bind] at i⊢;rw[i];rfl);have Z:=Hd h;clear i h;go_wp2_with fail
 refine bodyPost_ret (v:=aO) ?_ rfl (.ok b7.o ⟨rfl,Z.o.ec,Z.o.fr,Nat.le_add_right _ _,rfl⟩);simp[results,results76,go_sem,aO]
def mJ(c:World)(B N0 mb:Nat)(f:Value)(inst:Itm->Sc->Mk->Rs Mk)(k:Nat)(t:Itm):Prop:=
 ∀(a b:Nat) (e:Mk) (s:Sc) (w:World) (d:List Value),EC c B N0 mb a b f e s w->s.path.size+100*(k*70000+aj t)<=1000000000->RI c B t d->
  bv Tryz.prog 111 #[.pointer (some ⟨mb,0,none⟩),.pointer (some ⟨a,0,none⟩),.agg d.toArray] w (inst t s e) (λh v g=>v=aO/\EC c B N0 mb a b f h s g/\FrI N0 mb a b w g) (FrI N0 mb a b w)
theorem BK(H:World)(B N0 mb:Nat)(R:Value)(inst:Itm->Sc->Mk->Rs Mk)(k:Nat)(t:Itm)(f:t.op=7)(O:mJ H B N0 mb R inst k t):eF H B N0 mb R inst k t:=by
 intro D Q b s w c9 a d7 d8 a1 u;have b2:=Hd a;have d3:=a.inv.b0;have d4:=a.inv.b1;have e4:=a.inv.sg;have e1:=a.inv.pr;have d5:=a.inv.c0;have d6:=a.inv.c1;obtain⟨d9,e6,e3,e5,e0,e2,d0⟩:=a.mlt;obtain⟨a4,a5,a6,a7,a8,a9,rfl,n,p,q,r,I,J⟩:=RI_iff.1 u;have e9:=n.oneCell;have f0:=p.oneCell;have f1:=q.oneCell;have f2:=r.oneCell;have f3:=I.oneCell;have f4:=J.oneCell;have b4:=Hd n;have b5:=Hd p;have b6:=Hd q;have b7:=Hd r;have Y:=Hd u;obtain⟨i,K,P,x⟩:=aL w (.pointer (some ⟨mb,0,none⟩)) 97;obtain⟨j,L,C,y⟩:=aL i (.pointer (some ⟨D,0,none⟩)) 100;obtain⟨l,M,h,z⟩:=bM j (.int .i64 t.op) (.string t.name) (.string t.of) a4 a5 a6 a7 a8 a9 37;have d1:=K.symm;have d2:=L.symm;have f5:w.heap.size<i.heap.size:=x.lt;have f6:i.heap.size<j.heap.size:=y.lt;have f7:j.heap.size<l.heap.size:=z.lt;have S:=Hd (x.ext (C.trans h));have T:=Hd (y.ext h);have U:=Hd z;have m:=Hd (P.trans (C.trans h));have V:=Hd (a.ext m.o);obtain⟨c,A⟩:=ae (W:=l) (w:=l) (af _);have a0:=M.symm.trans A;obtain⟨Z,b9,c2,c3,c4,c5,c6,c7,c8⟩:=U.o.later9;have e7:=cellAt (S.o.cell 0);have e8:=cellAt (T.o.cell 0);have b3:=Hd A;clear A K L M P C h x y z a n p q r I J u;have E:=Hd (show aF inst t s b=(do let m2<-inst t s b;return(s,m2)) from me inst t s b f);have G:=Hd (O D Q b s c.w _ (V.o.ext c.ext) a1 Y.o);rw[f] at G;clear O;rw[f] at a0 Z;rw[f];go_enter func76,ntmps76;go_wp2_with fail
 go_at_call 111;refine G.o.mono ?_;rintro e f9 (⟨a3,f8,g,rfl,a2,N,d⟩|⟨b8,g,rfl,d⟩);rotate_left
 ·exact⟨rfl,.no (by rw[E.o,g];rfl) ((cb (m.o.trans c.ext)).trans d)⟩
 subst a2;have X:=Hd (show aF inst t s b=.ok (s,a3) by rw[E.o,g];rfl);have F:=Hd (aq N ((cb (N0:=N0) (mb:=mb) (sb:=D) (mp:=Q) (m.o.trans c.ext)).trans d));clear g N d;go_wp2_with fail
 refine bodyPost_ret (v:=aO) ?_ rfl (.ok X.o ⟨rfl,F.o.1,F.o.2,Nat.le_add_right _ _,rfl⟩);simp[results,results76,go_sem,aO]
theorem qD(d:World)(B N0 mb:Nat)(e:Value)(inst:Itm->Sc->Mk->Rs Mk)(hi:iB inst)(k:Nat)(Q:Itm->Prop)(w:∀a c,Q a->c∈a.l->Q c)(v:∀a c,Q a->c∈a.els->Q c)
 (y:∀a,Q a->VI a->MayI a->a.op=7->mJ d B N0 mb e inst k a):∀a:Itm,Q a->VI a->MayI a->eF d B N0 mb e inst k a:=by
 intro a;induction a using Itm.ind with
 |h a ih1 ih2=>
  intro o s q;obtain⟨-,-,i,t,F,E,-,-⟩:=VI_iff.1 s;obtain⟨n,m,r,A,z,-,-⟩:=MayI_iff.1 q;obtain⟨H,I,C,D,g,J,-,-,-,-⟩:=n;have j:a.name.size<=64:=by
   rcases C with⟨-,b⟩|⟨-,b⟩
   ·exact b.2.1
   ·omega
  have n:a.of.size<=64:=by
   rcases D with⟨-,b⟩|⟨-,b⟩
   ·exact b.2.1
   ·omega
  have p:fE d B N0 mb e inst k a.l:=jY d B N0 mb e inst k a.l (λc f=>ih1 c f (w a c o f) (F c f) (A c f));have u:fE d B N0 mb e inst k a.els:=jY d B N0 mb e inst k a.els (λc f=>ih2 c f (v a c o f) (E c f) (z c f));unfold mL at g;rcases(by omega:a.op=1\/a.op=2\/a.op=3\/a.op=4\/a.op=5\/a.op=6\/a.op=7\/a.op=8\/a.op=9\/a.op=10) with b|b|b|b|b|b|b|b|b|b
  ·exact uN d B N0 mb e inst k a b i (by rw[g,b];decide) j
  ·exact BM d B N0 mb e inst k a b i (by rw[g,b];decide) j
  ·exact AU d B N0 mb e inst k a b i (by rw[g,b];decide) j
  ·exact uQ d B N0 mb e inst k a b i (by rw[g,b];decide) m (λc f=>by
    intro K;have G:c∈a.x:=List.mem_of_mem_head? f;have:=(MayX_iff.1 (m c G)).1.1;unfold eg at this;omega)
  ·exact BJ d B N0 mb e inst k a b t r
  ·exact AR d B N0 mb e inst k a b t r
  ·exact BK d B N0 mb e inst k a b (y a o s q b)
  ·exact Af d B N0 mb e inst k a b i (by rw[g,b];decide) p u
  ·exact BL d B N0 mb e inst k a b i (by rw[g,b];decide) j n hi p
  ·exact uM d B N0 mb e inst k a b i (by rw[g,b];decide) m j
theorem BE:Enters Tryz.prog 152:=⟨λ_ _=>by kernel_rfl⟩
theorem pl(a b c d:Value)(n:a.oneCell'=true)(p:b.oneCell'=true)(q:c.oneCell'=true)(r:d.oneCell'=true)(w:World):
 Calls Tryz.prog 36 #[.agg #[a,b,c,d]] w λe i=>e=.returned (.func (.func 68) #[] #[.pointer (some ⟨w.heap.size,0,none⟩)])/\Blk i w.heap.size 30 [a,b,c,d]/\Ext w i:=by
 obtain⟨k,f,h,g⟩:=bK w a b c d 30;have l:=f.symm;have m:=@hmf_ Tryz.prog;have j:=Hd (aq g h);clear f h g
 go_in
 go_wp2_with fail
 go_ret;exact⟨rfl,j.o⟩
def lc(a:Nat)(o:ByteArray->Option Int)(w:World)(b:World):Prop:=EnvM b a o/\Chg (λc=>c=a) w b
theorem qW(w:World)(m:Nat)(o:Obj):Chg (λk=>k=m) w (aH w m o):=(bg _ w).grown (gl w m o) (λk e _=>by injection e with e;exact e.symm)
theorem zc(k:World)(B sb mp c gs L:Nat)(a2:Value)(s:Sc)(b:Bnd)(J:List Value)(o:ByteArray->Option Int)(w:World)(S:Cx k B w)(X:ScI w sb mp a2 s)(T:s.env.length<=1000000)
 (Q:Blk w gs 100 [.pointer (some ⟨sb,0,none⟩)]) (R:Blk w L 93 [.map (some c)]) (U:EnvM w c o) (b4:RB k B b J) (O:∀h,RX k B b.x h->XOk k B b.x h):
 Calls Tryz.prog 152 (#[.agg J.toArray]++#[.pointer (some ⟨gs,0,none⟩),.pointer (some ⟨L,0,none⟩)]) w (RunsP (aI s b.x) (λv y g=>y=aO/\lc c (az o b.name v) w g) (Chg (λI=>I=c) w)):=by
 have a6:=Hd U;have a5:=Hd S;have a9:=Hd X;obtain⟨h,rfl,D⟩:=b4;have b1:=Hd (O _ D);obtain⟨a4,rfl,M⟩:=RX_iff.1 D;have d5:=M.oneCell;obtain⟨l,N,t,P⟩:=fF w (.string b.name) (.int .i64 b.x.op) (.string b.x.name) (.int .i64 b.x.n) (.int .i64 b.x.w) (.int .u64 b.x.v) a4 45;obtain⟨b3,F⟩:=ae (W:=l) (w:=l) (af _);have d1:=N.symm.trans F;obtain⟨d6,d7,d8,d9,e0,e1,e2⟩:=P.later7;have d3:=cellAt ((Q.ext t).cell 0);have d4:=cellAt ((R.ext t).cell 0);have m:=Hd t;have b2:=Hd (λ(g:World) (Y:Ext l g)=>fR k B b.x _ sb mp a2 s g (a5.o.later (m.o.trans Y)) b1.o (a9.o.ext (m.o.trans Y)) T);have c8:=Hd F;clear S X Q R U O D M N t P F T
 go_in
 go_wp2_with fail
 refine bD 7 (W:=l) (Ext) (evF 6 99 (aI s b.x) (λd=>.int .i64 d) (λd v g=>True) [.map (some c),.pointer (some ⟨w.heap.size,0,none⟩),.string b.name,.pointer (some ⟨sb,0,none⟩),.pointer (some ⟨w.heap.size,1,none⟩),.agg #[.int .i64 b.x.op,.string b.x.name,.int .i64 b.x.n,.int .i64 b.x.w,.int .u64 b.x.v,a4],undef]) (evP (aI s b.x) l) (λ_=>true) zK (bo) zK zK ?_ (ag b3) (λd2 v w g C H=>gA (λ_ _ _ _ C _=>C) C H) ?_ (λq c9 c7 a b6=>by
  obtain⟨h,j,rfl,H⟩:=b6;obtain⟨e3,d0⟩:=q;simp only at a;subst a;have a7:=Hd (show RunsP (aI s b.x) (λv y g=>y=aO/\lc c (az o b.name v) w g) (Chg (λI=>I=c) w) (.panicked (aR h)) c7 from .no j ((m.o.trans H).chg));exact⟨rfl,a7.o⟩) ?_
 ·exact⟨rfl,rfl,rfl,rfl,rfl,rfl,rfl,trivial⟩
 ·refine⟨?_,?_,?_,?_,?_,?_,?_,trivial⟩;rotate_left 6
  ·intro q a3 p a i;obtain⟨f,rfl⟩:=ae p;have c1:=ab a 3 7 zK rfl;simp[evF] at c1;have c3:=ab a 5 9 zK rfl;simp[evF] at c3;clear a i;go_simp;refine(b2.o f.w f.ext).mono ?_;rintro e e4 (⟨d,y,j,rfl,rfl,u⟩|⟨h,j,rfl,u⟩);rotate_left
   ·exact⟨rfl,h,j,rfl,f.ext.trans u⟩
   have z:=Hd j;clear j;go_simp;first|exact⟨_,rfl,u,d,z.o,rfl⟩|exact⟨u,d,z.o,rfl⟩|exact⟨_,rfl,d,z.o,rfl⟩
  all_goals
   intro q a3 p a i;obtain⟨f,rfl⟩:=ae p;try (have c0:=ab a 1 5 zD rfl;simp[evF] at c0)
   try (have c2:=ab a 4 8 zD rfl;simp[evF] at c2)
   have c5:=ah i 2 zK;simp at c5;have c6:=ah i 3 zK;simp at c6;have c4:=ah i 1 zK;simp at c4;clear a i;exact zA
 ·intro q a3 b5;obtain⟨K,rfl,p,r,b7⟩:=b5.fin (n:=11) rfl;obtain⟨f,rfl⟩:=ae p;have a0:K 4=.map (some c):=r 0 4 rfl rfl;have a1:K 6=.string b.name:=r 2 6 rfl rfl;obtain⟨d,V,Z⟩:=r 6 10 rfl rfl;clear r b7;simp only[List.drop_succ_cons,List.drop_zero];simp[List.range,List.range.loop,a0,a1,Z];clear a0 a1 Z;have a8:=Hd V;obtain⟨b9,b8,G⟩:=(a6.o.ext (m.o.trans f.ext)).put b.name d;obtain⟨A,E⟩:∃A,A=aH f.w c b9:=⟨_,rfl⟩;rw[<-E] at b8 G;have b0:=Hd (show lc c (az o b.name d) w A from⟨G,(m.o.trans f.ext).chg.trans (by rw[E];exact qW _ _ _)⟩);clear E G V;go_wp2_with fail
  refine bodyPost_ret (v:=aO) ?_ rfl (.ok a8.o ⟨rfl,b0.o⟩);simp[results,results152,go_sem,aO]
def sE(a:World)(B:Nat)(d:FuncId)(kind:Prt->Int):Prop:=∀(c:Prt) (w:World) (b:List Value),Ext a w->RP a B c b->Calls Tryz.prog d #[.agg b.toArray] w λe f=>e=.returned (.int .i64 (kind c))/\Ext w f
def HdR(e:World)(B N0 mb:Nat)(i:Value)(n:Nat)(h:ByteArray)(w:World)(a:Sc×Mk)(v:Value)(d:World):Prop:=
 ∃b c,v=.pointer (some ⟨b,0,none⟩)/\w.heap.size<=b/\w.heap.size<=c/\EC e B N0 mb b c i a.2 a.1 d/\(∀f g,FrI N0 mb f g w d)/\a.1.path=h/\a.1.env.length<=n
theorem Bb{kind:Prt->Int}(p:Prt)(l:List Prt)(s:Sc)(m:Mk):ci kind (p::l) s m=(do let w<-cj s p.w;let z<-cI p.name w (kind p) 0 s m;ci kind l z.1 z.2):=by rw[ci]
theorem BR{aB:ByteArray->Option Int}(p:Bnd)(l:List Bnd)(s:Sc){v:Int}(h:aB p.name=some v):cH aB (p::l) s=cH aB l (s.con p.name v):=by rw[cH,h];rfl
theorem BQ{aB:ByteArray->Option Int}(p:Bnd)(l:List Bnd)(s:Sc)(h:aB p.name=none):cH aB (p::l) s=(do let v<-aI s p.x;cH aB l (s.con p.name v)):=by rw[cH,h]
theorem qy(u:World)(B N0 mb sb mp i9:Nat)(g4 y2 y1 y0:Value)(of:Mdl)(j4:List Value)(aB:ByteArray->Option Int)(p:ByteArray)(j5:FuncId)(v7:Enters Tryz.prog j5)(kind:Prt->Int)(m:Mk)(w:World)
 (m7:Cx u B w) (w5:TabP u) (e5:MkI w N0 mb g4 y2 y1 y0 m) (hi:MInv m) (f2:∀m4,m4∈m.d.sigs->1<=m4.w/\m4.w<=64) (C0:u.heap.size<=N0)
 (j9:EnvM w i9 aB) (v8:∀D6 v,aB D6=some v->bU v) (C:RM u B of j4) (t6:sE u B j5 kind)
 (v4:∀d4,d4∈of.params->∀J,RX u B d4.x J->XOk u B d4.x J) (v5:∀h,h∈of.ports->∀J,RX u B h.w J->XOk u B h.w J)
 (G0:of.params.length<=1000000) (G1:of.ports.length<=1000000) (w1:∀h,h∈of.ports->h.name.size<=1000000000) (C3:p.size<=1000000000):
 bv Tryz.prog 37 #[.pointer (some ⟨mb,0,none⟩),.agg j4.toArray,.map (some i9),.string p,.func (.func j5) #[] #[]] w (dN of aB p kind m) (HdR u B N0 mb g4 of.params.length p w) (FrI N0 mb sb mp w):=by
 have F7:=v7.o;have y8:=Hd t6;have z8:=Hd v4;have z9:=Hd v5;have z3:=Hd w1;have y7:=Hd v8;have z0:=Hd j9;have H1:=j9.lt;have D0:i9≠mb:=λe=>j9.noTag (e▸e5.blk.tag)
 have G6:=e5.blk.lt;have F5:=e5.base;have F6:=m7.ext.size;obtain⟨H8,H9,x9,rfl,t2,t3,t4⟩:=C;have H3:=t2.oneCell;have H4:=t3.oneCell;have H5:=t4.oneCell;obtain⟨w7,w8,rfl,B9,v9⟩:=t2;obtain⟨x6,x7,rfl,C5,w2⟩:=t3;have y9:=Hd v9;have z4:=Hd w2;obtain⟨Q,v1,w6,g7⟩:=bK w (.string of.name) (.slice w7 of.params.length w8) (.slice x6 of.ports.length x7) x9 30;have A9:=v1.symm;obtain⟨O,j6⟩:∃O,O=Q.alloc (.map #[] 0):=⟨_,rfl⟩;have B0:=j6.symm;have k1:Ext Q O:=by rw[j6];exact aE _ _
 have m9:EnvM O Q.heap.size (λ_=>none):=by rw[j6];exact EnvM.new _
 obtain⟨s2,v2,i2,m6⟩:=eS O (.slice none 0 0) (.map (some Q.heap.size)) (.string p) 126;have t9:=v2.symm;obtain⟨A3,A4,A5,A6⟩:=(g7.ext (k1.trans i2)).get4;have E4:w.heap.size<Q.heap.size:=g7.lt;have L:Q.heap.size<O.heap.size:=m9.lt;have E5:O.heap.size<s2.heap.size:=m6.lt;have j3:=Hd (w6.trans (k1.trans i2));have r3:=Hd (g7.ext (k1.trans i2));obtain⟨c,n4⟩:∃d4,d4=O.heap.size:=⟨_,rfl⟩;obtain⟨k,n0⟩:∃d4,d4=Q.heap.size:=⟨_,rfl⟩
 have t5:EC u B N0 mb O.heap.size Q.heap.size g4 m ⟨[],λ_=>none,p⟩ s2:=
  ⟨⟨y2,y1,y0,.slice none 0 0,e5.ext j3.o,m6,SlT.nil,m9.ext i2⟩,m7.later j3.o,⟨λ_ _ K=>(by cases K),f2,by show(0:Nat)<=1000000;decide,λ_ K=>(by cases K)⟩,hi,C0,zO,zO,w5⟩
 have j2:=Hd t5;have z:=Hd (cb (N0:=N0) (mb:=mb) (sb:=O.heap.size) (mp:=Q.heap.size) j3.o);obtain⟨I,m5⟩:∃I,I=dN of aB p kind m:=⟨_,rfl⟩;rw[<-m5];have r9:=Hd (show I=(do let s<-cH aB (of.params.drop 0) ⟨[],λ_=>none,p⟩;ci kind of.ports s m) from m5);have s3:∀(q:World),FrI N0 mb O.heap.size Q.heap.size w q->∀sb mp,FrI N0 mb sb mp w q:=λq K sb mp=>K.fresh w (FrI.refl _ _ _ _ _) (.inl zO) (.inl zO)
 have g5:=Hd s3;rw[<-n4] at j2 z g5;rw[<-n0] at j2 z g5 t9;have G9:w.heap.size<c:=by omega
 have G4:w.heap.size<k:=by omega
 have C7:¬i9=c:=by omega
 have C1:¬i9=k:=by omega
 have G7:¬w.heap.size=mb:=by omega
 have w0:¬w.heap.size=c:=by omega
 have G8:¬w.heap.size=k:=by omega
 have G5:Q.heap.size=k:=n0.symm;have H0:O.heap.size=c:=n4.symm;clear m7 w5 e5 hi f2 j9 v8 t6 v4 v5 w1 t4 v9 w2 v1 w6 g7 j6 k1 m9 v2 i2 m6 t5 m5 s3 v7 n4 n0 E4 L E5 B9 C5;have G3:=@run_makeMap Tryz.prog;go_enter func37,ntmps37;go_wp2_with fail
 go_loopw [25] (λc3 wr=>∃(g:Nat) (i:Sc),g<=of.params.length/\c3=.int .i64 g/\EC u B N0 mb c k g4 m i wr/\FrI N0 mb c k w wr/\Blk wr w.heap.size 30 [.string of.name,.slice w7 of.params.length w8,.slice x6 of.ports.length x7,x9]/\i.env.length<=g/\i.path=p/\I=(do let s<-cH aB (of.params.drop g) i;ci kind of.ports s m)) (λc3 _=>of.params.length - (intOf c3).toNat)
 case atStart=>exact⟨0,⟨[],λ_=>none,p⟩,aA _,rfl,j2.o,z.o,r3.o,ac _,rfl,r9.o⟩
 case round=>
  obtain⟨g,i,g8,rfl,F,G,j7,e4,e6,C⟩:=hrel;clear r9 j2 z r3 A9 B0 t9 A3 A4 A5 A6 j3;have d1:=Hd F;have z:=Hd G;have A:=Hd e6;have k5:=Hd j7;by_cases m8:g<of.params.length
  ·rw[List.drop_eq_getElem_cons m8] at C;have l3:=Hd (z8.o of.params[g] (an m8));obtain⟨d4,o,j4,n3,B3,B4,h7,n1,A8⟩:=y9.o _ m8;subst n3;obtain⟨J,rfl,e8⟩:=A8;have l4:=Hd (l3.o _ e8);obtain⟨j1,rfl,h6⟩:=RX_iff.1 e8;have D7:=h6.oneCell;obtain⟨s5,s6,s7,s8,s9,t0,t1⟩:=(h7.ext F.cx.ext).get7;obtain⟨P,h8,e7,e9⟩:=fF wr (.string of.params[g].name) (.int .i64 of.params[g].x.op) (.string of.params[g].x.name) (.int .i64 of.params[g].x.n) (.int .i64 of.params[g].x.w) (.int .u64 of.params[g].x.v) j1 45;have v0:=h8.symm;obtain⟨w9,x0,x1,x2,x3,x4,x5⟩:=e9.get7;have c1:=Hd (d1.o.ext e7);have r4:=Hd e9;have e2:=Hd e7;have h9:=((G.map z0.o D0 C7 C1).ext e7).look of.params[g].name;obtain⟨r1,r0,q9,d0,k0,i1⟩:=c1.o.ex;have l0:=Hd i1;have k7:=Hd c1.o.gd.env;have w3:wr.heap.size<P.heap.size:=e9.lt;have G2:=F.mlt;have F9:i.env.length<=g:=e4;generalize of.params[g]=y at*;clear h8 e7 e9 h7 e8 h6 n1 G e4 e6 k0 i1 F j7;cases htd:aB y.name with
   |some v=>
    rw[htd] at h9;have N:=Hd (show I=(do let s<-cH aB (of.params.drop (g+1)) (i.con y.name v);ci kind of.ports s m) by rw[C,BR _ _ _ htd]);have l1:=Hd (y7.o _ _ htd);simp only[Option.getD_some,Option.isSome_some] at h9;clear C htd;have C6:wr.heap.size<P.heap.size:=w3;have k3:=Hd r4.o;have k2:=Hd c1.o;have d2:=Hd l0.o;have h3:=Hd e2.o;obtain⟨l5,l6,h4⟩:=d2.o.blk.later3;rw[A.o] at h4;obtain⟨l7,l8,l9,m0,m1,m2,m3⟩:=k3.o.later7;have D8:=d2.o.env.oneCell;have h1:=Hd (λ(q:World) (D:Ext P q)=>show Calls Tryz.prog 72 #[.agg #[d0,.map (some k),.string p],.string y.name,.int .i64 v] q λc9 j0=>∃g9,c9=.returned (.agg #[g9,.map (some k),.string p])/\SlT 85 RNm j0 2 (i.env++[(y.name,v)]) g9/\Ext q j0 by rw[<-A.o];exact iz i d0 (.map (some k)) y.name v q ((d2.o.ext D).env) rfl k7.o);go_wp2_with fail
    refine bD 9 (W:=P) (Ext) (paC (i.env++[(y.name,v)]) k p [.pointer (some ⟨c,0,none⟩),.pointer (some ⟨c,0,none⟩),.pointer (some ⟨c,0,none⟩),.agg #[d0,.map (some k),.string p],.pointer (some ⟨wr.heap.size,0,none⟩),.string y.name,.int .i64 v,undef,.pointer (some ⟨c,0,none⟩)]) (λ_ _=>False) (λ_=>true) zK (bo) zK zK ?_ (af _) (λc3 v w q K D=>nd K D) ?_ (λH s4 w b i0=>i0.elim) ?_
    ·exact⟨rfl,rfl,rfl,rfl,rfl,rfl,rfl,rfl,rfl,trivial⟩
    ·refine⟨?_,?_,?_,?_,?_,?_,?_,?_,?_,trivial⟩;rotate_left 7
     ·intro H e1 t b l;obtain⟨f,rfl⟩:=ae t;have q6:=ab b 3 45 zK rfl;simp[paC] at q6;have i6:=ab b 5 47 zK rfl;simp[paC] at i6;have i7:=ab b 6 48 zK rfl;simp[paC] at i7;clear b l;go_simp;refine(h1.o f.w f.ext).mono ?_;rintro e r2 ⟨M,rfl,d7,c2⟩;have q3:=d7.oneCell;go_simp;first|exact⟨_,rfl,c2,M,rfl,d7⟩|exact⟨c2,M,rfl,d7⟩|exact⟨_,rfl,M,rfl,d7⟩
     all_goals
      intro H e1 t b l;obtain⟨f,rfl⟩:=ae t;try (have q4:=ab b 0 42 zD rfl;simp[paC] at q4)
      try (have q5:=ab b 1 43 zD rfl;simp[paC] at q5)
      try (have i4:=ab b 2 44 zD rfl;simp[paC] at i4)
      try (have i5:=ab b 4 46 zD rfl;simp[paC] at i5)
      have i8:=ah l 11 zK;simp at i8;have q7:=ah l 13 zK;simp at q7;have q8:=ah l 14 zK;simp at q8;clear b l;exact zA
    ·intro H e1 g8;obtain⟨e3,rfl,t,E,a⟩:=g8.fin (n:=73) rfl;obtain⟨f,rfl⟩:=ae t;have R:=a 0 zK;have S:=a 1 zK;have j:=a 2 zK;have a6:=a 3 zK;have a7:=a 4 zK;have a8:=a 5 zK;have b5:=a 6 zK;have b6:=a 7 zK;have b9:=a 8 zK;have c0:=a 9 zK;have T:=a 10 zK;have U:=a 11 zK;have V:=a 12 zK;have X:=a 16 zK;have f3:=a 17 zK;have Y:=a 18 zK;have Z:=a 19 zK;have a0:=a 20 zK;have a1:=a 21 zK;have a2:=a 22 zK;have a3:=a 23 zK;have a4:=a 24 zK;have a5:=a 25 zK;have a9:=a 52 zK;have b2:=a 53 zK;have b3:=a 54 zK;have b4:=a 55 zK;have f4:=a 56 zK;have f5:=a 57 zK;have f6:=a 58 zK;have c4:=a 59 zK;have c5:=a 60 zK;have f7:=a 61 zK;have c6:=a 62 zK;have f8:=a 63 zK;have f9:=a 64 zK;have g0:=a 65 zK;have c7:=a 66 zK;have g1:=a 67 zK;have g2:=a 68 zK;have c8:=a 69 zK;have g3:=a 70 zK;have b7:=a 71 zK;have b8:=a 72 zK;have e0:e3 50=.pointer (some ⟨c,0,none⟩):=E 8 50 rfl rfl;obtain⟨M,d9,f1⟩:=E 7 49 rfl rfl;clear E a;simp at R S j a6 a7 a8 b5 b6 b9 c0 T U V X f3 Y Z a0 a1 a2 a3 a4 a5 a9 b2 b3 b4 f4 f5 f6 c4 c5 f7 c6 f8 f9 g0 c7 g1 g2 c8 g3 b7 b8;simp only[List.drop_succ_cons,List.drop_zero];simp[List.range,List.range.loop,R,S,j,a6,a7,a8,b5,b6,b9,c0,T,U,V,X,f3,Y,Z,a0,a1,a2,a3,a4,a5,a9,b2,b3,b4,f4,f5,f6,c4,c5,f7,c6,f8,f9,g0,c7,g1,g2,c8,g3,b7,b8,e0,d9];clear R S j a6 a7 a8 b5 b6 b9 c0 T U V X f3 Y Z a0 a1 a2 a3 a4 a5 a9 b2 b3 b4 f4 f5 f6 c4 c5 f7 c6 f8 f9 g0 c7 g1 g2 c8 g3 b7 b8 e0 d9;have k8:=Hd f1;have d5:=d2.o.blk.ext f.ext;have q3:=f1.oneCell;obtain⟨D3,D4,D5⟩:=d5.free3;obtain⟨D1,D2,n5⟩:=d5.get3;rw[A.o] at n5;obtain⟨d3,d6⟩:∃d3,d3=(((f.w.setCell ⟨c,0,none⟩ M).setCell ⟨c,1,none⟩ (.map (some k))).setCell ⟨c,2,none⟩ (.string p)):=⟨_,rfl⟩;have B1:=d6.symm;have h5:Blk d3 c 126 [M,.map (some k),.string i.path]:=by rw[d6,A.o];exact d5.store3 _ _ _
     have f0:Chg (λg=>g=c) f.w d3:=by rw[d6];exact kg _ _ _ _ _
     have h0:=Hd (k2.o.con f.ext f0 h5 k8.o l1.o zO);have k6:=Hd ((z.o.trans (.of_ext h3.o)).trans h0.o.2);have k4:=Hd (f0.blk (k5.o.ext (h3.o.trans f.ext)) w0);clear f0 d6 h5 d5 f1 l5 l6 h4 l7 l8 l9 m0 m1 m2 m3 h1;go_wp2_with fail
     go_roundw;case rel=>exact⟨g+1,i.con y.name v,zO,zN,h0.o.1,k6.o,k4.o,by show(i.env++[(y.name,v)]).length<=g+1;rw[List.length_append];simp only[List.length_cons,List.length_nil];omega,A.o,N.o⟩
     case measure=>simp[intOf];omega
   |none=>
    rw[htd] at h9;have N:=Hd (show I=(do let s<-(do let v<-aI i y.x;cH aB (of.params.drop (g+1)) (i.con y.name v));ci kind of.ports s m) by rw[C,BQ _ _ _ htd]);simp only[Option.getD_none,Option.isSome_none] at h9;clear C htd;have s1:=Hd (fR u B y.x _ c k d0 i P c1.o.cx l4.o l0.o k7.o);go_wp2_with fail
    go_at_call 71;refine s1.o.mono ?_;rintro e E6 (⟨v,x8,r,rfl,rfl,d8⟩|⟨J,r,rfl,d8⟩);rotate_left
    ·exact⟨rfl,.no (by rw[N.o,r];rfl) (g5.o _ ((z.o.trans (.of_ext e2.o)).trans (.of_ext d8)) _ _)⟩
    obtain⟨h2,v3⟩:∃h2,h2=E6:=⟨_,rfl⟩;rw[<-v3] at d8⊢;have l1:=Hd (hV r);have k3:=Hd (r4.o.ext d8);have k2:=Hd (c1.o.ext d8);have d2:=Hd (l0.o.ext d8);have h3:=Hd (e2.o.trans d8);have C6:wr.heap.size<h2.heap.size:=aQ w3 d8.size;have r7:=Hd (show I=(do let s<-cH aB (of.params.drop (g+1)) (i.con y.name v);ci kind of.ports s m) by rw[N.o,r];rfl);replace N:=r7;clear r d8 v3 h9 s5 s6 s7 s8 s9 t0 t1 w9 x0 x1 x2 x3 x4 x5 v0 r7 s1;obtain⟨l5,l6,h4⟩:=d2.o.blk.later3;rw[A.o] at h4;obtain⟨l7,l8,l9,m0,m1,m2,m3⟩:=k3.o.later7;have D8:=d2.o.env.oneCell;have h1:=Hd (λ(q:World) (D:Ext h2 q)=>show Calls Tryz.prog 72 #[.agg #[d0,.map (some k),.string p],.string y.name,.int .i64 v] q λc9 j0=>∃g9,c9=.returned (.agg #[g9,.map (some k),.string p])/\SlT 85 RNm j0 2 (i.env++[(y.name,v)]) g9/\Ext q j0 by rw[<-A.o];exact iz i d0 (.map (some k)) y.name v q ((d2.o.ext D).env) rfl k7.o);go_wp2_with fail
    refine bD 9 (W:=h2) (Ext) (paC (i.env++[(y.name,v)]) k p [.pointer (some ⟨c,0,none⟩),.pointer (some ⟨c,0,none⟩),.pointer (some ⟨c,0,none⟩),.agg #[d0,.map (some k),.string p],.pointer (some ⟨wr.heap.size,0,none⟩),.string y.name,.int .i64 v,undef,.pointer (some ⟨c,0,none⟩)]) (λ_ _=>False) (λ_=>true) zK (bo) zK zK ?_ (af _) (λc3 v w q K D=>nd K D) ?_ (λH s4 w b i0=>i0.elim) ?_
    ·exact⟨rfl,rfl,rfl,rfl,rfl,rfl,rfl,rfl,rfl,trivial⟩
    ·refine⟨?_,?_,?_,?_,?_,?_,?_,?_,?_,trivial⟩;rotate_left 7
     ·intro H e1 t b l;obtain⟨f,rfl⟩:=ae t;have q6:=ab b 3 45 zK rfl;simp[paC] at q6;have i6:=ab b 5 47 zK rfl;simp[paC] at i6;have i7:=ab b 6 48 zK rfl;simp[paC] at i7;clear b l;go_simp;refine(h1.o f.w f.ext).mono ?_;rintro e r2 ⟨M,rfl,d7,c2⟩;have q3:=d7.oneCell;go_simp;first|exact⟨_,rfl,c2,M,rfl,d7⟩|exact⟨c2,M,rfl,d7⟩|exact⟨_,rfl,M,rfl,d7⟩
     all_goals
      intro H e1 t b l;obtain⟨f,rfl⟩:=ae t;try (have q4:=ab b 0 42 zD rfl;simp[paC] at q4)
      try (have q5:=ab b 1 43 zD rfl;simp[paC] at q5)
      try (have i4:=ab b 2 44 zD rfl;simp[paC] at i4)
      try (have i5:=ab b 4 46 zD rfl;simp[paC] at i5)
      have i8:=ah l 11 zK;simp at i8;have q7:=ah l 13 zK;simp at q7;have q8:=ah l 14 zK;simp at q8;clear b l;exact zA
    ·intro H e1 g8;obtain⟨e3,rfl,t,E,a⟩:=g8.fin (n:=73) rfl;obtain⟨f,rfl⟩:=ae t;have R:=a 0 zK;have S:=a 1 zK;have j:=a 2 zK;have a6:=a 3 zK;have a7:=a 4 zK;have a8:=a 5 zK;have b5:=a 6 zK;have b6:=a 7 zK;have b9:=a 8 zK;have c0:=a 9 zK;have T:=a 10 zK;have U:=a 11 zK;have V:=a 12 zK;have X:=a 16 zK;have f3:=a 17 zK;have Y:=a 18 zK;have Z:=a 19 zK;have a0:=a 20 zK;have a1:=a 21 zK;have a2:=a 22 zK;have a3:=a 23 zK;have a4:=a 24 zK;have a5:=a 25 zK;have a9:=a 52 zK;have b2:=a 53 zK;have b3:=a 54 zK;have b4:=a 55 zK;have f4:=a 56 zK;have f5:=a 57 zK;have f6:=a 58 zK;have c4:=a 59 zK;have c5:=a 60 zK;have f7:=a 61 zK;have c6:=a 62 zK;have f8:=a 63 zK;have f9:=a 64 zK;have g0:=a 65 zK;have c7:=a 66 zK;have g1:=a 67 zK;have g2:=a 68 zK;have c8:=a 69 zK;have g3:=a 70 zK;have b7:=a 71 zK;have b8:=a 72 zK;have e0:e3 50=.pointer (some ⟨c,0,none⟩):=E 8 50 rfl rfl;obtain⟨M,d9,f1⟩:=E 7 49 rfl rfl;clear E a;simp at R S j a6 a7 a8 b5 b6 b9 c0 T U V X f3 Y Z a0 a1 a2 a3 a4 a5 a9 b2 b3 b4 f4 f5 f6 c4 c5 f7 c6 f8 f9 g0 c7 g1 g2 c8 g3 b7 b8;simp only[List.drop_succ_cons,List.drop_zero];simp[List.range,List.range.loop,R,S,j,a6,a7,a8,b5,b6,b9,c0,T,U,V,X,f3,Y,Z,a0,a1,a2,a3,a4,a5,a9,b2,b3,b4,f4,f5,f6,c4,c5,f7,c6,f8,f9,g0,c7,g1,g2,c8,g3,b7,b8,e0,d9];clear R S j a6 a7 a8 b5 b6 b9 c0 T U V X f3 Y Z a0 a1 a2 a3 a4 a5 a9 b2 b3 b4 f4 f5 f6 c4 c5 f7 c6 f8 f9 g0 c7 g1 g2 c8 g3 b7 b8 e0 d9;have k8:=Hd f1;have d5:=d2.o.blk.ext f.ext;have q3:=f1.oneCell;obtain⟨D3,D4,D5⟩:=d5.free3;obtain⟨D1,D2,n5⟩:=d5.get3;rw[A.o] at n5;obtain⟨d3,d6⟩:∃d3,d3=(((f.w.setCell ⟨c,0,none⟩ M).setCell ⟨c,1,none⟩ (.map (some k))).setCell ⟨c,2,none⟩ (.string p)):=⟨_,rfl⟩;have B1:=d6.symm;have h5:Blk d3 c 126 [M,.map (some k),.string i.path]:=by rw[d6,A.o];exact d5.store3 _ _ _
     have f0:Chg (λg=>g=c) f.w d3:=by rw[d6];exact kg _ _ _ _ _
     have h0:=Hd (k2.o.con f.ext f0 h5 k8.o l1.o zO);have k6:=Hd ((z.o.trans (.of_ext h3.o)).trans h0.o.2);have k4:=Hd (f0.blk (k5.o.ext (h3.o.trans f.ext)) w0);clear f0 d6 h5 d5 f1 l5 l6 h4 l7 l8 l9 m0 m1 m2 m3 h1;go_wp2_with fail
     go_roundw;case rel=>exact⟨g+1,i.con y.name v,zO,zN,h0.o.1,k6.o,k4.o,by show(i.env++[(y.name,v)]).length<=g+1;rw[List.length_append];simp only[List.length_cons,List.length_nil];omega,A.o,N.o⟩
     case measure=>simp[intOf];omega
  ·have B7:g=of.params.length:=by omega
   subst B7;have t8:I=ci kind of.ports i m:=by rw[C,List.drop_length];rfl
   have s0:=Hd (show I=ci kind (of.ports.drop 0) i m from t8);have B5:i.env.length<=of.params.length:=by omega
   obtain⟨E9,F0,F1,F2⟩:=j7.get4;clear C t8 F G j7 e4 e6;go_wp2_with fail
   go_loopw [55] (λc3 wr=>∃(g:Nat) (L:Sc) (i3:Mk),g<=of.ports.length/\c3=.int .i64 g/\EC u B N0 mb c k g4 i3 L wr/\FrI N0 mb c k w wr/\L.env.length<=of.params.length/\L.path=p/\I=ci kind (of.ports.drop g) L i3) (λc3 _=>of.ports.length - (intOf c3).toNat)
   case atStart=>exact⟨0,i,m,aA _,rfl,d1.o,z.o,B5,A.o,s0.o⟩
   case round=>
    obtain⟨j,L,i3,F8,rfl,F,G,e4,e6,C⟩:=hrel;clear s0 d1 z A E9 F0 F1 F2 k5;have d1:=Hd F;have z:=Hd G;have A:=Hd e6;by_cases j8:j<of.ports.length
    ·rw[List.drop_eq_getElem_cons j8,Bb] at C;have N:=Hd C;have l3:=Hd (z9.o of.ports[j] (an j8));have B6:=Hd e4;have C2:=z3.o of.ports[j] (an j8);obtain⟨d4,o,j4,n3,B3,B4,h7,n1,t7⟩:=z4.o _ j8;subst n3;have z6:=Hd t7;obtain⟨J,rfl,e8⟩:=t7;have l4:=Hd (l3.o _ e8);obtain⟨j1,rfl,h6⟩:=RX_iff.1 e8;have D7:=h6.oneCell;obtain⟨s5,s6,s7,s8,s9,t0,t1,F3⟩:=(h7.ext F.cx.ext).get8;obtain⟨P,h8,e7,e9⟩:=de wr (.string of.ports[j].name) (.bool of.ports[j].o) (.int .i64 of.ports[j].w.op) (.string of.ports[j].w.name) (.int .i64 of.ports[j].w.n) (.int .i64 of.ports[j].w.w) (.int .u64 of.ports[j].w.v) j1 42;obtain⟨A7,v6⟩:=ae (W:=P) (w:=P) (af _);have v0:=h8.symm.trans v6;obtain⟨w9,x0,x1,x2,x3,x4,x5,H6⟩:=e9.later8;have c1:=Hd (d1.o.ext e7);have e2:=Hd e7;obtain⟨r1,r0,q9,d0,k0,i1⟩:=c1.o.ex;have r8:=Hd i1;have z1:=Hd k0;have y5:=Hd c1.o.gd.env;have C9:=F.mlt.2.2.2.1;have C8:=F.inv.sg;have B2:=F.inv.b0;have g7:=F.inv.b1;have C4:L.path.size<=1000000000:=by rw[e6];exact C3
     generalize of.ports[j]=h at*;have A2:=Hd (λ(q:World) (f2:Ext P q)=>jq u B h.w _ c k d0 L q (c1.o.cx.later f2) l4.o (r8.o.ext f2) y5.o);have A0:=Hd (λ(q:World) (f2:Ext P q)=>y8.o h q _ (c1.o.cx.ext.trans f2) z6.o);clear h8 e7 e9 h7 e8 h6 n1 G e4 k0 i1 F C v6 e6;go_wp2_with fail
     refine bD 11 (W:=P) (Ext) (evF 7 99 (cj L h.w) (λg6=>.int .i64 g6) (λg6 v q=>True) [.pointer (some ⟨mb,0,none⟩),.pointer (some ⟨c,0,none⟩),.pointer (some ⟨wr.heap.size,0,none⟩),.string h.name,.pointer (some ⟨c,0,none⟩),.pointer (some ⟨wr.heap.size,2,none⟩),.agg #[.int .i64 h.w.op,.string h.w.name,.int .i64 h.w.n,.int .i64 h.w.w,.int .u64 h.w.v,j1],undef,.func (.func j5) #[] #[],.agg #[.string h.name,.bool h.o,.int .i64 h.w.op,.string h.w.name,.int .i64 h.w.n,.int .i64 h.w.w,.int .u64 h.w.v,j1],.int .i64 (kind h)]) (evP (cj L h.w) P) (λ_=>true) zK (bo) zK zK ?_ (ag A7) (λc3 v w q K D=>gA (λ_ _ _ _ K _=>K) K D) ?_ (λH s4 E8 b i0=>by
      obtain⟨J,r,rfl,D⟩:=i0;obtain⟨H7,F4⟩:=H;simp only at b;subst b;have z2:=Hd (show RunsP I (HdR u B N0 mb g4 of.params.length p w) (FrI N0 mb sb mp w) (.panicked (aR J)) E8 from .no (by rw[N.o,r];rfl) (g5.o _ (z.o.trans (.of_ext (e2.o.trans D))) _ _));exact⟨rfl,z2.o⟩) ?_
     ·exact⟨rfl,rfl,rfl,rfl,rfl,rfl,rfl,rfl,rfl,rfl,rfl,trivial⟩
     ·refine⟨?_,?_,?_,?_,?_,?_,?_,?_,?_,?_,?_,trivial⟩;rotate_left 7
      ·intro H e1 t b l;obtain⟨f,rfl⟩:=ae t;have i5:=ab b 4 63 zK rfl;simp[evF] at i5;have i7:=ab b 6 65 zK rfl;simp[evF] at i7;clear b l;go_simp;refine(A2.o f.w f.ext).mono ?_;rintro e r2 (⟨g6,x8,r,rfl,rfl,c2⟩|⟨J,r,rfl,c2⟩);rotate_left
       ·exact⟨rfl,J,r,rfl,f.ext.trans c2⟩
       have k9:=Hd r;clear r;go_simp;first|exact⟨_,rfl,c2,g6,k9.o,rfl⟩|exact⟨c2,g6,k9.o,rfl⟩|exact⟨_,rfl,g6,k9.o,rfl⟩
      rotate_left 2
      ·intro H e1 t b l;obtain⟨f,rfl⟩:=ae t;have D9:=ab b 8 67 zK rfl;simp[evF] at D9;have E0:=ab b 9 68 zK rfl;simp[evF] at E0;clear b l;go_simp;refine(A0.o f.w f.ext).mono ?_;rintro _ r2 ⟨rfl,D⟩;go_simp;first|exact⟨_,rfl,D,rfl⟩|exact⟨D,rfl⟩|exact⟨_,rfl,rfl⟩|exact D
      all_goals
       intro H e1 t b l;obtain⟨f,rfl⟩:=ae t;try (have i4:=ab b 2 61 zD rfl;simp[evF] at i4)
       try (have i6:=ab b 5 64 zD rfl;simp[evF] at i6)
       have E1:=ah l 0 zK;simp at E1;have i8:=ah l 11 zK;simp at i8;have E2:=ah l 17 zK;simp at E2;have E3:=ah l 4 zK;simp at E3;clear b l;exact zA
     ·intro H e1 g8;obtain⟨e3,rfl,t,E,a⟩:=g8.fin (n:=73) rfl;obtain⟨f,rfl⟩:=ae t;have R:=a 0 zK;have S:=a 1 zK;have j:=a 2 zK;have a6:=a 3 zK;have a7:=a 4 zK;have a8:=a 5 zK;have b5:=a 6 zK;have b6:=a 7 zK;have b9:=a 8 zK;have c0:=a 9 zK;have T:=a 10 zK;have U:=a 11 zK;have V:=a 12 zK;have n6:=a 13 zK;have n7:=a 14 zK;have n8:=a 15 zK;have X:=a 16 zK;have Y:=a 18 zK;have Z:=a 19 zK;have a0:=a 20 zK;have a1:=a 21 zK;have a2:=a 22 zK;have a3:=a 23 zK;have a4:=a 24 zK;have a5:=a 25 zK;have n9:=a 26 zK;have o0:=a 27 zK;have o1:=a 28 zK;have o2:=a 29 zK;have o3:=a 30 zK;have o4:=a 31 zK;have o5:=a 32 zK;have o6:=a 33 zK;have o7:=a 34 zK;have o8:=a 35 zK;have o9:=a 36 zK;have p0:=a 37 zK;have p1:=a 38 zK;have p2:=a 39 zK;have p3:=a 40 zK;have p4:=a 41 zK;have p5:=a 42 zK;have p6:=a 43 zK;have p7:=a 44 zK;have p8:=a 45 zK;have p9:=a 46 zK;have q0:=a 47 zK;have q1:=a 48 zK;have d9:=a 49 zK;have e0:=a 50 zK;have q2:=a 51 zK;have a9:=a 52 zK;have b2:=a 53 zK;have b3:=a 54 zK;have b4:=a 55 zK;have b7:=a 71 zK;have b8:=a 72 zK;have c4:e3 59=.pointer (some ⟨mb,0,none⟩):=E 0 59 rfl rfl;have c5:e3 60=.pointer (some ⟨c,0,none⟩):=E 1 60 rfl rfl;have c6:e3 62=.string h.name:=E 3 62 rfl rfl;have c8:e3 69=.int .i64 (kind h):=E 10 69 rfl rfl;obtain⟨E7,n2,c7⟩:=E 7 66 rfl rfl;clear E a;simp at R S j a6 a7 a8 b5 b6 b9 c0 T U V n6 n7 n8 X Y Z a0 a1 a2 a3 a4 a5 n9 o0 o1 o2 o3 o4 o5 o6 o7 o8 o9 p0 p1 p2 p3 p4 p5 p6 p7 p8 p9 q0 q1 d9 e0 q2 a9 b2 b3 b4 b7 b8;simp only[List.drop_succ_cons,List.drop_zero];simp[List.range,List.range.loop,R,S,j,a6,a7,a8,b5,b6,b9,c0,T,U,V,n6,n7,n8,X,Y,Z,a0,a1,a2,a3,a4,a5,n9,o0,o1,o2,o3,o4,o5,o6,o7,o8,o9,p0,p1,p2,p3,p4,p5,p6,p7,p8,p9,q0,q1,d9,e0,q2,a9,b2,b3,b4,b7,b8,c4,c5,c6,c8,c7];clear R S j a6 a7 a8 b5 b6 b9 c0 T U V n6 n7 n8 X Y Z a0 a1 a2 a3 a4 a5 n9 o0 o1 o2 o3 o4 o5 o6 o7 o8 o9 p0 p1 p2 p3 p4 p5 p6 p7 p8 p9 q0 q1 d9 e0 q2 a9 b2 b3 b4 b7 b8 c4 c5 c6 c8 c7;have l2:=Hd (gS n2);have H2:=l2.o;have r6:=Hd n2;have A1:=Hd (mt N0 mb c k g4 r1 r0 q9 d0 i3 L h.name E7 (kind h) 0 f.w (z1.o.ext f.ext) (r8.o.ext f.ext) C9 C8 B2 g7 zO zO C4 C2);clear n2;go_wp2_with fail
      go_at_call 73;refine A1.o.mono ?_;rintro e I0 (⟨c9,x8,r,rfl,rfl,⟨r1,r0,q9,e5,G⟩,⟨g9,w4⟩⟩|⟨J,r,rfl,G⟩);rotate_left
      ·exact⟨rfl,.no (by rw[N.o,r6.o];simp only[bind,Except.bind];rw[r]) (g5.o _ ((z.o.trans (.of_ext (e2.o.trans f.ext))).trans G) _ _)⟩
      have y4:=Hd (z.o.trans ((cb (e2.o.trans f.ext)).trans G));have y6:=Hd (d1.o.frI ((cb (e2.o.trans f.ext)).trans G) e5 w4 (d1.o.gd.signal r l2.o) (d1.o.inv.signal r l2.o));have z7:=Hd (eY r).1;have z5:=Hd (show I=ci kind (of.ports.drop (j+1)) c9.1 c9.2 by rw[N.o,r6.o];simp only[bind,Except.bind];rw[r]);have r5:=Hd (show c9.1.env.length<=of.params.length/\c9.1.path=p by rw[z7.o];exact⟨B6.o,A.o⟩);clear e5 w4 G r;go_wp2_with fail
      go_roundw;case rel=>exact⟨j+1,c9.1,c9.2,zO,zN,y6.o,y4.o,r5.o.1,r5.o.2,z5.o⟩
      case measure=>simp[intOf];omega
    ·have B8:j=of.ports.length:=by omega
     have N:=Hd (show I=.ok (L,i3) by rw[C,B8,List.drop_length];rfl);have y3:=Hd e4;clear C F G e6 e4;go_wp2_with fail
     refine bodyPost_ret (v:=.pointer (some ⟨c,0,none⟩)) ?_ rfl (.ok N.o ⟨c,k,rfl,zO,zO,d1.o,g5.o _ z.o,A.o,y3.o⟩);simp[results,results37,go_sem]
