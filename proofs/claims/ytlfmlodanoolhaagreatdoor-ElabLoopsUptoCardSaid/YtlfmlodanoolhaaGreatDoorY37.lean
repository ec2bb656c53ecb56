import Derived.Test.YtlfmlodanoolhaaGreatDoorY36
set_option linter.all false
set_option maxRecDepth 200000
set_option maxHeartbeats 32000000
namespace Go.Proofs.YtlfmlodanoolhaaGreatDoor
open Go Go.RowKit Go.Proofs.Tryz
attribute [local go_sem] bc
def aN(e:Int):List PanicEntry:=[{v:=.iface 92 (.agg #[.int .i64 e]),recovered:=false}]
def aM:Value:=.tuple #[]
def eqG(vals:List Value)(i:Nat)(v:Value)(_:World):Prop:=v=vals.getD i undef
theorem eU{vals:List Value}{i:Nat}{v:Value}{w w':World}(h:eqG vals i v w)(_:Ext w w'):eqG vals i v w':=h
def RunsP{α:Type}(c:Rs α)(d:α->Value->World->Prop)(B:World->Prop)(e:Ending)(w':World):Prop:=(∃a v,c=.ok a/\e=.returned v/\d a v w')\/(∃b,c=.error b/\e=.panicked (aN b)/\B w')
theorem RunsP.ok{α:Type}{c:Rs α}{b:α->Value->World->Prop}{B:World->Prop}{a:α}{v:Value}{w':World}(h:c=.ok a)(d:b a v w'):RunsP c b B (.returned v) w':=.inl ⟨a,v,h,rfl,d⟩
theorem RunsP.no{α:Type}{a:Rs α}{b:α->Value->World->Prop}{B:World->Prop}{c:Int}{w':World}(h:a=.error c)(d:B w'):RunsP a b B (.panicked (aN c)) w':=.inr ⟨c,h,rfl,d⟩
def bj{α:Type}(P:Program)(f:FuncId)(args:Array Value)(w:World)(b:Rs α)(a:α->Value->World->Prop)(B:World->Prop):Prop:=
 Calls P f args w (RunsP b a B)
theorem lj(w:World):Calls Tryz.prog 67 #[.int .i64 0] w λa w'=>a=.returned aM/\w'=w:=by
 go_in
 go_wp2_with fail
 go_end0
 exact⟨rfl,rfl⟩
theorem ir(e:Int)(a:e≠0)(w:World):Calls Tryz.prog 67 #[.int .i64 e] w λb w'=>b=.panicked (aN e)/\w'=w:=by
 have c:(e !=0)=true:=bne_iff_ne.2 a
 go_in
 go_wp2_with fail
 exact⟨rfl,rfl,rfl⟩
theorem dS(e:Int)(w:World):Calls Tryz.prog 35 #[.bool true,.int .i64 e] w λa w'=>a=.returned aM/\w'=w:=by
 go_in
 go_wp2_with fail
 go_end0
 exact⟨rfl,rfl⟩
theorem ed(e:Int)(b:e≠0)(w:World):Calls Tryz.prog 35 #[.bool false,.int .i64 e] w λc w'=>c=.panicked (aN e)/\w'=w:=by
 have a:=Hd (ir e b w)
 go_in
 go_wp2_with fail
 go_at_call 67;refine a.o.mono ?_;rintro _ _ ⟨rfl,rfl⟩;exact⟨rfl,rfl,rfl⟩
theorem OwnL.chg{α:Type}{R d:α->List Value->Prop}{b:Nat}{e:TypeId}{j:Nat}{l:List α}{v:Value}{X Y:World}(h:OwnL R b e j l v X)(t:∀a,b<=a->Tag X a e->Y.heap[a]? =X.heap[a]?)(s:∀x i,R x i->d x i):OwnL d b e j l v Y:=by
 obtain⟨u,⟨q,c⟩,r⟩:=h.ex;refine⟨u,⟨q,?_⟩,r.imp s⟩;rcases c with c|⟨a,o,p,k,f,g,n⟩
 ·exact .inl c
 ·exact .inr ⟨a,o,p,k,f,(t a f ⟨_,_,g⟩).trans g,n⟩
theorem FrS.keep{mb:Nat}{w w':World}(h:FrS mb w w'){g:Nat}{T:TypeId}(ht:Tag w g T)(b:Tag w mb 99)(a:T≠99):w'.heap[g]? =w.heap[g]? :=
 h.block g ht.lt (λe=>a (ht.one (e▸b)))
theorem MkI.count{w w':World}{N0 mb:Nat}{f i g e:Value}{m:Mk}(h:MkI w N0 mb f i g e m)(b:FrS mb w w')(c:Int)(l:Blk w' mb 99 [f,i,g,e,.int .i64 c,.int .i64 m.bits]):MkI w' N0 mb f i g e {m with count:=c}:=by
 have d:=h.blk.tag;have k:=FrS.kp b d;exact⟨l,h.sig.chg (λj _ a=>b.keep a d zD) (λ_ _ h=>h),h.prc.chg (λj _ a=>b.keep a d zD) (RPc.keep k),h.chk.chg (λj _ a=>b.keep a d zD) (RCk.keep k),h.base⟩
theorem MkI.turn{w w':World}{N0 mb:Nat}{g j i f:Value}{m:Mk}(h:MkI w N0 mb g j i f m)(d:FrS mb w w')(c b:Int)(n:Blk w' mb 99 [g,j,i,f,.int .i64 c,.int .i64 b]):MkI w' N0 mb g j i f {m with count:=c,bits:=b}:=by
 have e:=h.blk.tag;have l:=FrS.kp d e;exact⟨n,h.sig.chg (λk _ a=>d.keep a e zD) (λ_ _ h=>h),h.prc.chg (λk _ a=>d.keep a e zD) (RPc.keep l),h.chk.chg (λk _ a=>d.keep a e zD) (RCk.keep l),h.base⟩
theorem ee(N0 mb:Nat)(i k j g:Value)(m:Mk)(n:Int)(w:World)(h:MkI w N0 mb i k j g m)(h0:0<=m.count)(y:m.count<=65536)(h2:0<=n)(h3:n<=1000000000):
 bj Tryz.prog 75 #[.pointer (some ⟨mb,0,none⟩),.int .i64 n] w (aZ n m) (λt v w'=>v=aM/\MkI w' N0 mb i k j g t/\FrS mb w w') (FrS mb w):=by
 obtain⟨a,b⟩:∃a,a=w.setCell ⟨mb,4,none⟩ (.int .i64 (m.count+n)):=⟨_,rfl⟩;have z:=b.symm;have e:Blk a mb 99 [i,k,j,g,.int .i64 (m.count+n),.int .i64 m.bits]:=by rw[b];simpa using h.blk.set_ 4 (.int .i64 (m.count+n))
 have f:FrS mb w a:=by rw[b];exact cC (X:=λs=>s=mb) (aV _ w) (p:=⟨mb,4,none⟩) rfl _
 have r:=Hd (h.count f (m.count+n) e);have l:=Hd f;have x:=h.blk.cell 4;have A:=h.blk.frozen 4;have u:=e.cell 4;simp only[List.getElem?_cons_succ,List.getElem?_cons_zero] at x u;clear b e f h;by_cases q:m.count+n<=65536
 ·have c:=Hd (show aZ n m=.ok {m with count:=m.count+n} by unfold aZ;rw[if_pos q]);have d:=Hd (dS 2 a);go_enter func75,ntmps75;go_wp2_with (go_at_call 35;refine d.o.mono ?_;rintro _ _ ⟨rfl,rfl⟩)
  go_end0
  exact .ok c.o ⟨rfl,r.o,l.o⟩
 ·have c:=Hd (show aZ n m=.error 2 by unfold aZ;rw[if_neg q]);have d:=Hd (ed 2 zD a);go_enter func75,ntmps75;go_wp2_with fail
  go_at_call 35;refine d.o.mono ?_;rintro _ _ ⟨rfl,rfl⟩;exact⟨rfl,.no c.o l.o⟩
structure Cx(W0:World)(B:Nat)(w:World):Prop where
 tabs:Tabs W0
 hB:B<=W0.heap.size
 ext:Ext W0 w
structure XOk(W0:World)(B:Nat)(x:X)(cs:List Value):Prop where
 rx:RX W0 B x cs
 size:am x<=1000000000
 vx:VX x
theorem XOk.at_{W0 w:World}{B:Nat}{x:X}{a:List Value}(h:XOk W0 B x a)(c:Cx W0 B w):RX w w.heap.size x a:=
 (h.rx.ext c.ext c.hB).more (ad c.hB c.ext.size)
theorem Cx.later{W0 w w':World}{B:Nat}(c:Cx W0 B w)(a:Ext w w'):Cx W0 B w':=⟨c.tabs,c.hB,c.ext.trans a⟩
theorem nS{a:Int×Int}(h:a.2=0):ofK a=.ok a.1:=by unfold ofK;rw[if_pos h]
theorem nR{a:Int×Int}(h:a.2≠0):ofK a=.error a.2:=by unfold ofK;rw[if_neg h]
theorem lT(sb mp:Nat)(f:Value)(s:Sc)(b:ByteArray)(w:World)(h:ScI w sb mp f s):
 bj Tryz.prog 190 #[.pointer (some ⟨sb,0,none⟩),.string b] w (dY s b) (λa v w'=>v=.int .i64 a/\w'=w) (λw'=>w'=w):=by
 have g:=h.blk.cell 1;simp only[List.getElem?_cons_succ,List.getElem?_cons_zero] at g;have c:=h.map.look b;clear h;cases hs:s.sigs b with
 |some a=>
  rw[hs] at c;have d:=Hd (show dY s b=.ok a by unfold dY;rw[hs]);have e:=Hd (dS 80 w);clear hs;simp at c;go_enter func190,ntmps190;go_wp2_with (go_at_call 35;refine e.o.mono ?_;rintro _ w ⟨rfl,rfl⟩)
  go_ret;exact .ok d.o ⟨rfl,rfl⟩
 |none=>
  rw[hs] at c;have d:=Hd (show dY s b=.error 80 by unfold dY;rw[hs]);have e:=Hd (ed 80 zD w);clear hs;simp at c;go_enter func190,ntmps190;go_wp2_with fail
  go_at_call 35;refine e.o.mono ?_;rintro _ w ⟨rfl,rfl⟩;exact⟨rfl,.no d.o rfl⟩
theorem fz(W0:World)(B:Nat)(x:X)(M:List Value)(sb mp:Nat)(q:Value)(s:Sc)(w:World)(P:Cx W0 B w)(C:XOk W0 B x M)(h:ScI w sb mp q s)(c4:s.env.length<=1000000):
 bj Tryz.prog 71 #[.pointer (some ⟨sb,0,none⟩),.agg M.toArray] w (aG s x) (λa v w'=>v=.int .i64 a/\Ext w w') (Ext w):=by
 have r:=Hd P;have u:=Hd C;have Z:=Hd h;obtain⟨Y,rfl,O⟩:=RX_iff.1 C.rx;have c5:=O.oneCell;obtain⟨A,c1,c3,H,a2,b5,b6,b7,b8,b9,c0⟩:=cp w (.int .i64 x.op) (.string x.name) (.int .i64 x.n) (.int .i64 x.w) (.int .u64 x.v) Y 40;have k:=Hd H;have z:=Hd (λ(w':World) (G:Ext A w')=>ks w'.heap.size s.env x w' q _ (r.o.tabs.ext (r.o.ext.trans (k.o.trans G))) (u.o.at_ (r.o.later (k.o.trans G))) ((SlT.keep Z.o.env (.inr (.inr rfl)) (k.o.trans G).kp (λ_ _ _ h=>h)).sl) (ac _) u.o.size u.o.vx zO);unfold cd at z;obtain⟨p,F⟩:∃p,p=bu s.env x:=⟨_,rfl⟩;have K:=Hd (show aG s x=ofK p by rw[F];rfl);rw[<-F] at z;obtain⟨g,c⟩:=p;have N:=cellAt (H.at_ (h.blk.cell 0));have c8:∀e:Later A,e.w.cell? ⟨sb,0,none⟩=some q:=N;have c6:=h.env.oneCell;clear F N H a2 O C P h;go_enter func71,ntmps71;go_wp2_with fail
 refine lF (W:=A) (eqG [.agg #[.int .i64 x.op,.string x.name,.int .i64 x.n,.int .i64 x.w,.int .u64 x.v,Y],.pointer (some ⟨sb,0,none⟩),.pointer (some ⟨sb,0,none⟩),.pointer (some ⟨sb,0,none⟩),q,.tuple #[.int .i64 g,.int .i64 c],.tuple #[.int .i64 g,.int .i64 c],.int .i64 g,.int .i64 c,.int .i64 g,.int .i64 c]) (λU=>match U with|_=>true) zK zK ?_ (af _) (λU v w w' h l=>eU h l) ?_ ?_
 ·simp[GuardsSay,eqG]<;>(intro h;cases h)
 ·refine⟨?_,?_,?_,?_,?_,?_,?_,?_,?_,?_,?_,trivial⟩;rotate_left 5
  ·intro f V j b i;obtain⟨d,rfl⟩:=ae j;have a3:=aa b 0 8 zK rfl;simp[eqG] at a3;have a7:=aa b 4 12 zK rfl;simp[eqG] at a7;clear b i;go_simp;refine(z.o d.w d.ext).mono ?_;rintro e c7 ⟨rfl,l⟩;go_simp;first|exact⟨_,rfl,l,rfl⟩|exact⟨l,rfl⟩|exact rfl|exact⟨_,rfl,rfl⟩
  all_goals
   intro f V j b i;obtain⟨d,rfl⟩:=ae j;try (have a4:=aa b 1 9 zD rfl;simp[eqG] at a4)
   try (have a5:=aa b 2 10 zD rfl;simp[eqG] at a5)
   try (have a6:=aa b 3 11 zD rfl;simp[eqG] at a6)
   try (have a8:=aa b 5 13 zD rfl;simp[eqG] at a8)
   try (have a9:=aa b 6 7 zD rfl;simp[eqG] at a9)
   try (have b0:=aa b 7 14 zD rfl;simp[eqG] at b0)
   try (have b1:=aa b 8 15 zD rfl;simp[eqG] at b1)
   have b3:=ag i 3 zK;simp at b3;have b2:=ag i 0 zK;simp at b2;clear b i;exact zA
 ·intro f V a0;obtain⟨j,T,Q,D,a1⟩:=a0;obtain⟨d,rfl⟩:=ae j;have I:f.tmps.getD 5 undef=.int .i64 g:=D 9 5 rfl rfl;have J:f.tmps.getD 6 undef=.int .i64 c:=D 10 6 rfl rfl;clear D a1;rw[el T Q];obtain⟨c2,S,R⟩:=tmpsF f;simp only[S,R] at I J⊢;simp[List.range,List.range.loop,I,J];clear I J T Q;clear S R;have L:=Hd (k.o.trans d.ext);by_cases E:c=0
  ·subst E;have y:=Hd (lj d.w);have t:=Hd (K.o.trans (nS rfl));go_wp2_with (go_at_call 67;refine y.o.mono ?_;rintro _ b4 ⟨rfl,rfl⟩)
   go_ret;exact .ok t.o ⟨rfl,L.o⟩
  ·have y:=Hd (ir c E d.w);have t:=Hd (K.o.trans (nR E));go_wp2_with fail
   go_at_call 67;refine y.o.mono ?_;rintro _ b4 ⟨rfl,rfl⟩;exact⟨rfl,.no t.o L.o⟩
theorem iM(W0:World)(B:Nat)(x:X)(M:List Value)(sb mp:Nat)(q:Value)(s:Sc)(w:World)(P:Cx W0 B w)(C:XOk W0 B x M)(h:ScI w sb mp q s)(c4:s.env.length<=1000000):
 bj Tryz.prog 74 #[.pointer (some ⟨sb,0,none⟩),.agg M.toArray] w (bV s x) (λa v w'=>v=.int .i64 a/\Ext w w') (Ext w):=by
 have r:=Hd P;have u:=Hd C;have Z:=Hd h;obtain⟨Y,rfl,O⟩:=RX_iff.1 C.rx;have c5:=O.oneCell;obtain⟨A,c1,c3,H,a2,b5,b6,b7,b8,b9,c0⟩:=cp w (.int .i64 x.op) (.string x.name) (.int .i64 x.n) (.int .i64 x.w) (.int .u64 x.v) Y 40;have k:=Hd H;have z:=Hd (λ(w':World) (G:Ext A w')=>xr w'.heap.size s.env x w' q _ (r.o.tabs.ext (r.o.ext.trans (k.o.trans G))) (u.o.at_ (r.o.later (k.o.trans G))) ((SlT.keep Z.o.env (.inr (.inr rfl)) (k.o.trans G).kp (λ_ _ _ h=>h)).sl) (ac _) u.o.size u.o.vx zO);unfold cd at z;obtain⟨p,F⟩:∃p,p=gR s.env x:=⟨_,rfl⟩;have K:=Hd (show bV s x=ofK p by rw[F];rfl);rw[<-F] at z;obtain⟨g,c⟩:=p;have N:=cellAt (H.at_ (h.blk.cell 0));have c8:∀e:Later A,e.w.cell? ⟨sb,0,none⟩=some q:=N;have c6:=h.env.oneCell;clear F N H a2 O C P h;go_enter func74,ntmps74;go_wp2_with fail
 refine lF (W:=A) (eqG [.agg #[.int .i64 x.op,.string x.name,.int .i64 x.n,.int .i64 x.w,.int .u64 x.v,Y],.pointer (some ⟨sb,0,none⟩),.pointer (some ⟨sb,0,none⟩),.pointer (some ⟨sb,0,none⟩),q,.tuple #[.int .i64 g,.int .i64 c],.tuple #[.int .i64 g,.int .i64 c],.int .i64 g,.int .i64 c,.int .i64 g,.int .i64 c]) (λU=>match U with|_=>true) zK zK ?_ (af _) (λU v w w' h l=>eU h l) ?_ ?_
 ·simp[GuardsSay,eqG]<;>(intro h;cases h)
 ·refine⟨?_,?_,?_,?_,?_,?_,?_,?_,?_,?_,?_,trivial⟩;rotate_left 5
  ·intro f V j b i;obtain⟨d,rfl⟩:=ae j;have a3:=aa b 0 8 zK rfl;simp[eqG] at a3;have a7:=aa b 4 12 zK rfl;simp[eqG] at a7;clear b i;go_simp;refine(z.o d.w d.ext).mono ?_;rintro e c7 ⟨rfl,l⟩;go_simp;first|exact⟨_,rfl,l,rfl⟩|exact⟨l,rfl⟩|exact rfl|exact⟨_,rfl,rfl⟩
  all_goals
   intro f V j b i;obtain⟨d,rfl⟩:=ae j;try (have a4:=aa b 1 9 zD rfl;simp[eqG] at a4)
   try (have a5:=aa b 2 10 zD rfl;simp[eqG] at a5)
   try (have a6:=aa b 3 11 zD rfl;simp[eqG] at a6)
   try (have a8:=aa b 5 13 zD rfl;simp[eqG] at a8)
   try (have a9:=aa b 6 7 zD rfl;simp[eqG] at a9)
   try (have b0:=aa b 7 14 zD rfl;simp[eqG] at b0)
   try (have b1:=aa b 8 15 zD rfl;simp[eqG] at b1)
   have b3:=ag i 3 zK;simp at b3;have b2:=ag i 0 zK;simp at b2;clear b i;exact zA
 ·intro f V a0;obtain⟨j,T,Q,D,a1⟩:=a0;obtain⟨d,rfl⟩:=ae j;have I:f.tmps.getD 5 undef=.int .i64 g:=D 9 5 rfl rfl;have J:f.tmps.getD 6 undef=.int .i64 c:=D 10 6 rfl rfl;clear D a1;rw[el T Q];obtain⟨c2,S,R⟩:=tmpsF f;simp only[S,R] at I J⊢;simp[List.range,List.range.loop,I,J];clear I J T Q;clear S R;have L:=Hd (k.o.trans d.ext);by_cases E:c=0
  ·subst E;have y:=Hd (lj d.w);have t:=Hd (K.o.trans (nS rfl));go_wp2_with (go_at_call 67;refine y.o.mono ?_;rintro _ b4 ⟨rfl,rfl⟩)
   go_ret;exact .ok t.o ⟨rfl,L.o⟩
  ·have y:=Hd (ir c E d.w);have t:=Hd (K.o.trans (nR E));go_wp2_with fail
   go_at_call 67;refine y.o.mono ?_;rintro _ b4 ⟨rfl,rfl⟩;exact⟨rfl,.no t.o L.o⟩
theorem oJ(a:Option Addr)(n b:Nat)(f:n<=b)(g:n<=1000000000)(w:World):
 Calls Tryz.prog 104 #[.slice a n b] w λe w'=>e=.returned (.slice a n n)/\w'=w:=by
 have d:Tryz.prog.underlying 80=some (.slice (Tryz.prog.elem 80)):=by kernel_rfl
 have c:∀w:World,(sizeOf (Tryz.prog.elem 80)).run Tryz.prog w=.ok 2 w:=λ_=>by kernel_rfl
 have i:∀w:World,(Instr.slice 80 (.slice a n b) none (some (.int .i64 n)) (some (.int .i64 n))).run Tryz.prog w=.ok (.slice a n n) w:=λw=>by
  rw[run_slice_hm (ht:=d) (h:=(n:Int)) (m:=(n:Int)) (h0:=by omega) (h2:=by omega) (h3:=by omega),c];simp[Result.andThen,yt]
 clear d c
 go_in
 go_wp2_with fail
 go_ret;exact⟨rfl,rfl⟩
theorem vu:(Tryz.prog.info? 85).map (λi=>(i.zero,i.size,i.bytes))=some (some (.agg #[.string ⟨#[]⟩,.int .i64 0]),2,24):=by kernel_rfl
theorem hU(s:Sc)(R c:Value)(l:ByteArray)(v:Int)(w:World)(N:SlT 85 RNm w 2 s.env R)(d9:c.oneCell'=true)(d6:s.env.length<=1000000):
 Calls Tryz.prog 72 #[.agg #[R,c,.string s.path],.string l,.int .i64 v] w λb8 w'=>∃S,b8=.returned (.agg #[S,c,.string s.path])/\SlT 85 RNm w' 2 (s.env++[(l,v)]) S/\Ext w w':=by
 have X:=Hd N;obtain⟨r,G,rfl,a5,-⟩:=N;obtain⟨b,H,z,a⟩:=fk w (.slice r s.env.length G) c (.string s.path) 126;obtain⟨n,I,C,g⟩:=fk b (.slice none 0 0) (.map none) (.string ⟨#[]⟩) 126;obtain⟨c1,J,E,L⟩:=cM n (.string l) (.int .i64 v) 85;have d1:=H.symm;have d2:=I.symm;have d3:=J.symm;have D:=C.trans E;have A:=z.trans D;obtain⟨c3,c4,c5⟩:=(a.ext C).get3;have a2:=Hd (oJ r s.env.length G a5 zO n);obtain⟨c2,c6,c0,b1,O,hF⟩:=(SlT.keep X.o (.inr (.inr rfl)) A.kp (λ_ _ _ u=>u)).sl.fl;injection b1 with b2 b3 b4;subst b2;obtain⟨b9,a8,b0,a9,a7⟩:=info_parts vu;have Z:=Hd O;have Y:=Hd hF;have W:=Hd L.cells;have U:=Hd (a.ext D);have V:=Hd (g.ext E);have d7:=a.lt;have d8:=g.lt;have e0:w.heap.size<b.heap.size:=a.lt;have a0:=Hd A;have x:w.heap.size<=b.heap.size:=z.size;clear H I J z C E D A a g L O hF b3 b4
 go_in
 go_wp2_with (first
  |(go_at_call 104;refine a2.o.mono ?_;rintro _ n ⟨rfl,rfl⟩)
  |(at_builtin;refine rn rfl _ _ 80 rfl 85 b9 _ 2 24 underlying80 a8 b0 a9 a7 rfl zD r s.env.length c0 rfl Z.o n.heap.size 0 1 1 [.string l,.int .i64 v] rfl rfl W.o zO zO zO ?_;intro e7 F y q
    obtain⟨d,f,rfl⟩:=sM y;have a:=U.o.ext q;have g:=V.o.ext q;obtain⟨c8,c9,d0⟩:=a.get3;have c7:=a.frozen 0;obtain⟨h,j⟩:∃h,h=F.setCell ⟨w.heap.size,0,none⟩ (.slice d (s.env.length+1) f):=⟨_,rfl⟩;have K:Blk h w.heap.size 126 [.slice d (s.env.length+1) f,c,.string s.path]:=by rw[j];simpa using a.set_ 0 (.slice d (s.env.length+1) f)
    have p:Blk h b.heap.size 126 [.slice none 0 0,.map none,.string ⟨#[]⟩]:=by rw[j];exact g.far (show b.heap.size≠w.heap.size by omega) _
    have P:Ext w h:=by rw[j];exact(a0.o.trans q).setCell (ac _) _
    obtain⟨e1,e2,e3⟩:=K.get3;obtain⟨e4,e5,e6⟩:=p.free3;obtain⟨e8,e9,f0⟩:=p.get3;obtain⟨i,k⟩:∃i,i=((h.setCell ⟨b.heap.size,0,none⟩ (.slice d (s.env.length+1) f)).setCell ⟨b.heap.size,1,none⟩ c).setCell ⟨b.heap.size,2,none⟩ (.string s.path):=⟨_,rfl⟩;have M:Blk i b.heap.size 126 [.slice d (s.env.length+1) f,c,.string s.path]:=by rw[k];exact p.store3 _ _ _
    have Q:Ext w i:=by rw[k];exact((P.setCell x _).setCell x _).setCell x _
    obtain⟨b5,b6,b7⟩:=M.get3;have T:=Hd (show SlT 85 RNm i 2 (s.env++[(l,v)]) (.slice d (s.env.length+1) f) from by
     have a3:=rJ y Y.o;refine SlT.keep a3 (.inr (.inr rfl)) ?_ (λ_ _ _ u=>u);have a6:Chg (λt=>t=w.heap.size\/t=b.heap.size) F i:=by rw[k,j];exact((((aV _ F).setCell (.inl rfl) _).setCell (.inr rfl) _).setCell (.inr rfl) _).setCell (.inr rfl) _
     exact a6.kp (λt a4 _=>a4.elim (λe=>⟨_,e▸a.tag,by unfold dj;decide⟩) (λe=>⟨_,e▸g.tag,by unfold dj;decide⟩)))
    have a1:=Hd Q;have d4:=j.symm;have d5:=k.symm
    clear y q a g j k K p P M Q))
 refine bodyPost_ret (v:=.agg #[.slice d (s.env.length+1) f,c,.string s.path]) ?_ rfl ⟨_,rfl,T.o,a1.o⟩;simp[results,results72,go_sem,b5,b6,b7]
theorem qy:Enters Tryz.prog 157:=⟨λ_ _=>by kernel_rfl⟩
theorem qx:Enters Tryz.prog 38:=⟨λ_ _=>by kernel_rfl⟩
theorem xN:Enters Tryz.prog 156:=⟨λ_ _=>by kernel_rfl⟩
theorem vG(B:Nat)(x:Prt)(w:World)(a:List Value)(h:RP w B x a):
 Calls Tryz.prog 157 #[.agg a.toArray] w λe w'=>e=.returned (.int .i64 3)/\Ext w w':=by
 obtain⟨l,rfl,d⟩:=h;obtain⟨j,rfl,b⟩:=RX_iff.1 d;have q:=b.oneCell;obtain⟨k,c,f,i⟩:=cX w (.string x.name) (.bool x.o) (.int .i64 x.w.op) (.string x.w.name) (.int .i64 x.w.n) (.int .i64 x.w.w) (.int .u64 x.w.v) j 42;have p:=c.symm;have g:=Hd f;clear c i f b d
 go_in
 go_wp2_with fail
 go_ret;exact⟨rfl,g.o⟩
theorem vF(B:Nat)(x:Prt)(w:World)(b:List Value)(l:RP w B x b):
 Calls Tryz.prog 38 #[.agg b.toArray] w λe w'=>e=.returned (.int .i64 (if x.o=true then 2 else 1))/\Ext w w':=by
 obtain⟨r,rfl,g⟩:=l;obtain⟨p,rfl,c⟩:=RX_iff.1 g;have F:=c.oneCell;obtain⟨j,i⟩:∃k,k=x.o:=⟨_,rfl⟩;rw[<-i];obtain⟨q,d,h,f⟩:=cX w (.string x.name) (.bool j) (.int .i64 x.w.op) (.string x.w.name) (.int .i64 x.w.n) (.int .i64 x.w.w) (.int .u64 x.w.v) p 42;have E:=d.symm;obtain⟨s,t,u,y,z,A,C,D⟩:=f.get8;have a:=Hd h;clear d f h c g i;cases j with
 |true=>
  go_in
  go_wp2_with fail
  go_ret;exact⟨rfl,a.o⟩
 |false=>
  go_in
  go_wp2_with fail
  go_ret;exact⟨rfl,a.o⟩
def pU(w:World)(e:Ending)(w':World):Prop:=e=.returned aM/\Ext w w'
theorem uP(B:Nat)(x:Bnd)(w:World)(a:List Value)(g:RB w B x a):
 Calls Tryz.prog 156 #[.agg a.toArray] w (pU w):=by
 obtain⟨k,rfl,d⟩:=g;obtain⟨i,rfl,b⟩:=RX_iff.1 d;have p:=b.oneCell;obtain⟨j,c,e,h⟩:=fm w (.string x.name) (.int .i64 x.x.op) (.string x.x.name) (.int .i64 x.x.n) (.int .i64 x.x.w) (.int .u64 x.x.v) i 45;have l:=c.symm;have f:=Hd e;clear c h e b d
 go_in
 go_wp2_with fail
 refine bodyPost_ret (v:=aM) ?_ rfl ⟨rfl,f.o⟩;simp[results,results156,go_sem,aM]
end Go.Proofs.YtlfmlodanoolhaaGreatDoor
namespace Go.Proofs.YtlfmlodanoolhaaGreatDoor
open Go Go.RowKit Go.Proofs.Tryz
def zeroXc:List Value:=[.int .i64 0,.string ⟨#[]⟩,.int .i64 0,.int .i64 0,.int .u64 0,.slice none 0 0]
def EnvX(W0:World)(B:Nat)(w:World)(m:Nat)(env:ByteArray->Option X):Prop:=
 ∃a,MV w m a/\(∀c,c∈a->MapKept.IsKey .string c.1)/\∀s:ByteArray,(env s=none->aX a (.string s)=none)/\∀x,env s=some x->∃b,aX a (.string s)=some (.agg b.toArray)/\XOk W0 B x b
section
variable {W0 w w' : World} {B m : Nat} {env : ByteArray → Option X}
theorem EnvX.ext(h:EnvX W0 B w m env)(e:Ext w w'):EnvX W0 B w' m env:=by
 obtain⟨a,b,c,d⟩:=h;exact⟨a,b.ext e,c,d⟩
theorem EnvX.lt(h:EnvX W0 B w m env):m<w.heap.size:=by
 obtain⟨a,h,-⟩:=h;exact h.lt
theorem EnvX.noTag(h:EnvX W0 B w m env){T:TypeId}(k:Tag w m T):False:=by
 obtain⟨a,h,-⟩:=h;exact h.noTag k
theorem EnvX.of_eq(h:EnvX W0 B w m env)(g:w'.heap[m]? =w.heap[m]?):EnvX W0 B w' m env:=by
 obtain⟨a,⟨c,b,d,e⟩,f⟩:=h;exact⟨a,⟨c,b,g.trans d,e⟩,f⟩
theorem EnvX.new(W0:World)(B:Nat)(w:World):EnvX W0 B (w.alloc (.map #[] 0)) w.heap.size (λ_=>none):=
 ⟨[],MV.new w,(λc a=>nomatch a),λs=>⟨λ_=>rfl,λx b=>nomatch b⟩⟩
theorem EnvX.look(h:EnvX W0 B w m env)(s:ByteArray)(c:Bool):
 ∃a,(Instr.lookup 205 (.map (some m)) (.string s) c).run Tryz.prog w=.ok (if c then .tuple #[.agg a.toArray,.bool (env s).isSome] else .agg a.toArray) w/\(env s=none->a=zeroXc)/\∀x,env s=some x->XOk W0 B x a:=by
 obtain⟨l,e,f,d⟩:=h;have:=e.lookup (et:=40) underlying205 underlying9 (k:=.string s) trivial f (z:=.agg zeroXc.toArray) zK c;cases he:env s with
 |none=>
  refine⟨zeroXc,?_,λ_=>rfl,λx b=>(by cases b)⟩;rw[this,(d s).1 he];cases c<;>rfl
 |some x=>
  obtain⟨a,g,b⟩:=(d s).2 x he;refine⟨a,?_,λi=>(by cases i),λn j=>(by cases j;exact b)⟩;rw[this,g];cases c<;>rfl
theorem EnvX.put(h:EnvX W0 B w m env)(s:ByteArray){x:X}{a:List Value}(l:XOk W0 B x a):
 ∃o,(Instr.mapUpdate 205 (.map (some m)) (.string s) (.agg a.toArray)).run Tryz.prog w=.ok () (aE w m o)/\EnvX W0 B (aE w m o) m (av env s x):=by
 obtain⟨p,f,c,g⟩:=h;obtain⟨o,j,i⟩:=f.update underlying205 underlying9 (k:=.string s) trivial c (.agg a.toArray);refine⟨o,j,_,i,cu c trivial,λd=>?_⟩;rw[fP];unfold av;by_cases b:s=d
 ·rw[if_pos (congrArg Value.string b),if_pos b];exact⟨λe=>(by cases e),λq n=>(by cases n;exact⟨a,rfl,l⟩)⟩
 ·rw[if_neg (λe=>b (Value.string.inj e)),if_neg b];exact g d
end
end Go.Proofs.YtlfmlodanoolhaaGreatDoor
namespace Go.Proofs.YtlfmlodanoolhaaGreatDoor
open Go Go.RowKit Go.Proofs.Tryz
attribute [local go_sem] bc
def BdR{α:Type}(W0:World)(B:Nat)(l:List Bnd)(c:Nat->Prop)(b:(ByteArray->Option α)->World->Prop)(w:World)(o:ByteArray->Option α)(v:Value)(w':World):Prop:=
 ∃a,v=.map (some a)/\w.heap.size<=a/\EnvX W0 B w' a (ej l (λ_=>none))/\b o w'/\Chg c w w'
theorem pH{α:Type}(W0:World)(B:Nat)(k:ByteArray->Prop)(a3 a2:FuncId)(d7 d6:Array Value)(e7:Enters Tryz.prog a3)(e6:Enters Tryz.prog a2)(d:Int)(i5:d≠0)(val:X->Rs α)(g:Nat->Prop)(i:(ByteArray->Option α)->World->Prop)(w:World)
 (l:List Bnd) (f4:Value) (i2:Sl (RB W0 B) W0 B 7 l f4) (l4:l.length<=1000000000) (j0:Ext W0 w) (k6:B<=W0.heap.size) (e3:∀b,g b->W0.heap.size<=b/\b<w.heap.size)
 (e4:∀b,b∈l->∀M,RX W0 B b.x M->XOk W0 B b.x M)
 (e0:∀o a0 b,i o a0->Chg (λa=>w.heap.size<=a) a0 b->i o b)
 (e1:∀c w',Chg g w w'->Calls Tryz.prog a3 (#[.string c]++d7) w' λe U=>e=.returned (.bool (yes (k c)))/\Ext w' U)
 (d9:∀b,b∈l->∀o w' a1,Chg g w w'->i o w'->RB W0 B b a1->Calls Tryz.prog a2 (#[.agg a1.toArray]++d6) w' (RunsP (val b.x) (λv f3 U=>f3=aM/\i (av o b.name v) U/\Chg g w' U) (Chg g w')))
 (h0:i (λ_=>none) w):
 bj Tryz.prog 151 #[f4,.func (.func a3) #[] d7,.int .i64 d,.func (.func a2) #[] d6] w (ce k d val l (λ_=>none)) (BdR W0 B l g i w) (Chg g w):=by
 have g1:=Hd e1;have f9:=Hd d9;have c4:=Hd e0;have h2:=Hd e4;have l1:=e7.o;have l0:=e6.o;have h4:=Hd (λw'=>dS d w');have d3:=Hd (λw'=>ed d i5 w');obtain⟨a0,j8,rfl,k9,f0⟩:=i2;have g9:=Hd f0;obtain⟨j,f⟩:∃j,j=ce k d val l (λ_=>none):=⟨_,rfl⟩;rw[<-f];have d2:=Hd (show j=ce k d val (l.drop 0) (λ_=>none) from f);obtain⟨G,H⟩:∃G,G=w.alloc (.map #[] 0):=⟨_,rfl⟩;have i3:=H.symm;have c6:=Hd (show EnvX W0 B G w.heap.size (λ_=>none) by rw[H];exact EnvX.new W0 B w);have b9:Ext w G:=by rw[H];exact ax _ _
 have d0:=Hd b9;have c1:=Hd (c4.o _ _ _ h0 b9.chg);have c3:=Hd e3;have f2:w.heap.size<G.heap.size:=by rw[H];simp
 clear f0 e1 d9 e0 e4 f H b9 h0 e3 e7 e6;have l5:=@run_makeMap Tryz.prog;go_enter func151,ntmps151;go_wp2_with fail
 go_loopw [17] (λJ wr=>∃(a:Nat) (o:ByteArray->Option α),a<=l.length/\J=.int .i64 a/\i o wr/\EnvX W0 B wr w.heap.size (ej (l.take a) (λ_=>none))/\(∀c,o c=none↔ej (l.take a) (λ_=>none) c=none)/\Chg g w wr/\w.heap.size<wr.heap.size/\j=ce k d val (l.drop a) o) (λJ _=>l.length - (intOf J).toNat)
 case atStart=>exact⟨0,λ_=>none,aO _,rfl,c1.o,c6.o,λc=>⟨λ_=>rfl,λ_=>rfl⟩,d0.o.chg,f2,d2.o⟩
 case round=>
  obtain⟨a,o,l3,rfl,R,r,C,q,l6,f⟩:=hrel;clear d2 c1 c6 d0 i3 f2;have F:=Hd (an R (an r (an C q)));by_cases E:a<l.length
  ·rw[List.drop_eq_getElem_cons E] at f;have t:=Hd f;have b8:ej (l.take (a+1)) (λ_=>none)=av (ej (l.take a) (λ_=>none)) l[a].name l[a].x:=by
    unfold ej;rw[List.take_succ_eq_append_getElem E,List.foldl_append];rfl
   have c9:=Hd b8;have g4:=Hd (h2.o l[a] (ao E));have g2:=Hd (f9.o l[a] (ao E));obtain⟨b,of,a1,i7,k8,l2,b0,e9,e2⟩:=g9.o _ E;subst i7;have g8:=Hd e2;obtain⟨M,rfl,O⟩:=e2;have g7:=Hd (g4.o _ O);obtain⟨j5,rfl,a9⟩:=RX_iff.1 O;have l7:=a9.oneCell;have j1:Ext W0 wr:=q.ext j0 (λJ hi=>(c3.o J hi).1);obtain⟨j9,k0,k1,k2,k3,k4,k5⟩:=(b0.ext j1).get7;obtain⟨d4,b1,s,p⟩:=fm wr (.string l[a].name) (.int .i64 l[a].x.op) (.string l[a].x.name) (.int .i64 l[a].x.n) (.int .i64 l[a].x.w) (.int .u64 l[a].x.v) j5 45;have k7:=b1.symm;obtain⟨m0,m1,m2,m3,m4,m5,m6⟩:=p.get7;obtain⟨h5,b6,b4,b5⟩:=(r.ext s).look l[a].name true;simp only[if_true] at b6;have j6:=Hd p;have j7:=Hd s;generalize l[a]=y at*;cases hbx:ej (l.take a) (λ_=>none) y.name with
   |some z=>
    rw[hbx] at b6;have Z:=Hd (show j=.error d by rw[t.o];exact pG y _ _ (λe=>by rw[(C y.name).1 e.1] at hbx;cases hbx));obtain⟨f5,rfl,d8⟩:=RX_iff.1 (b5 z hbx).rx;have l9:=d8.oneCell;obtain⟨d5,I,h,b3⟩:=aW d4 (.int .i64 z.op) (.string z.name) (.int .i64 z.n) (.int .i64 z.w) (.int .u64 z.v) f5 40;have i4:=I.symm;obtain⟨u0,u1,u2,u3,u4,u5,u6⟩:=(p.ext h).get7;have L:=Hd (q.trans (s.trans h).chg);clear b1 s p b0 O f a9 I h b3 b4 b5 hbx d8 e9 b8 R r C q;go_wp2_with fail
    go_at_call 35;refine(d3.o _).mono ?_;rintro _ c0 ⟨rfl,rfl⟩;exact⟨rfl,.no Z.o L.o⟩
   |none=>
    rw[hbx] at b6;obtain⟨a4,a5,a6,a7,a8,N,j2,l8⟩:∃(a4:Int) (a5:ByteArray) (a6 a7 a8:Int) (N:Value),h5=[.int .i64 a4,.string a5,.int .i64 a6,.int .i64 a7,.int .u64 a8,N]/\N.oneCell'=true:=⟨_,_,_,_,_,_,b4 hbx,rfl⟩;subst j2;obtain⟨d5,I,h,b3⟩:=aW d4 (.int .i64 a4) (.string a5) (.int .i64 a6) (.int .i64 a7) (.int .u64 a8) N 40;have i4:=I.symm;obtain⟨u0,u1,u2,u3,u4,u5,u6⟩:=(p.ext h).get7;have L:=Hd (q.trans (s.trans h).chg);have h1:=Hd (s.trans h);have c8:=Hd ((C y.name).2 hbx);have h3:=Hd (g1.o y.name d5 L.o);have f7:=Hd (p.ext h);clear b1 s p b0 O f a9 I h b3 b4 b5 hbx e9 b8 R r C q;go_wp2_with fail
    refine h3.o.mono ?_;rintro _ c0 ⟨rfl,T⟩;have W:=Hd (f7.o.ext T);have d1:=Hd (h1.o.trans T);have c2:=Hd (L.o.trans T.chg);have g6:=Hd (F.o.2.1.ext d1.o);clear T;by_cases D:k y.name
    ·rw[yes_iff.2 D];obtain⟨m7,m8,m9,n0,n1,n2,n3⟩:=W.o.get7;obtain⟨j3,i8,b7⟩:=g6.o.put y.name g7.o;obtain⟨u,b2⟩:∃u,u=aE c0 w.heap.size j3:=⟨_,rfl⟩;rw[<-b2] at i8 b7;have Q:c0.grownBy u (some w.heap.size):=by rw[b2];exact fV _ _ _
     have f8:=Hd (show Blk u wr.heap.size 45 _ from(Q.block wr.heap.size W.o.lt (λe=>by injection e with e;omega)).trans W.o);obtain⟨n4,n5,n6,n7,n8,f5,n9⟩:=f8.o.get7;have Y:=Hd (c2.o.grown Q (λa e E=>by injection e with e;omega));have g0:=Hd (c4.o _ _ _ F.o.1 ((d1.o.chg (X:=λa=>w.heap.size<=a)).grown Q (λa e _=>by injection e with e;show w.heap.size<=a;omega)));have c7:=Hd b7;have g3:=Hd (g2.o o u _ Y.o g0.o g8.o);have c5:=Hd D;have f1:w.heap.size<u.heap.size:=c7.o.lt;clear b7 Q b2 D;go_wp2_with fail
     go_at_call 35;refine(h4.o _).mono ?_;rintro _ j4 ⟨rfl,rfl⟩;go_wp2_with fail
     refine g3.o.mono ?_;rintro e V (⟨v,f3,S,rfl,rfl,e8,A⟩|⟨M,S,rfl,A⟩);rotate_left
     ·exact⟨rfl,.no (by rw[t.o,mW y _ o ⟨c8.o,c5.o⟩,S];rfl) (Y.o.trans A)⟩
     have f6:=Hd (show∃K,i K V/\EnvX W0 B V w.heap.size (ej (l.take (a+1)) (λ_=>none))/\(∀c,K c=none↔ej (l.take (a+1)) (λ_=>none) c=none)/\Chg g w V/\w.heap.size<V.heap.size/\j=ce k d val (l.drop (a+1)) K from by
      refine⟨av o y.name v,e8,?_,λc=>?_,Y.o.trans A,aI f1 A.size,by rw[t.o,mW y _ o ⟨c8.o,c5.o⟩,S];rfl⟩
      ·rw[c9.o];exact c7.o.of_eq (A.block _ f1 (λi9=>absurd (c3.o _ i9).2 (Nat.lt_irrefl _)))
      ·rw[c9.o];unfold av;by_cases P:y.name=c
       ·rw[if_pos P,if_pos P];exact⟨λe=>(by cases e),λe=>(by cases e)⟩
       ·rw[if_neg P,if_neg P];exact F.o.2.2.1 c)
     clear S e8 A;go_wp2_with fail
     go_roundw;case rel=>
      obtain⟨K,h6,h7,h8,h9,i0,i1⟩:=f6.o;exact⟨a+1,K,zO,zN,h6,h7,h8,h9,i0,i1⟩
     case measure=>simp[intOf];omega
    ·rw[yes_no.2 D];have Z:=Hd (show j=.error d by rw[t.o];exact pG y _ _ (λe=>D e.2));clear D;go_wp2_with fail
     go_at_call 35;refine(d3.o _).mono ?_;rintro _ j4 ⟨rfl,rfl⟩;exact⟨rfl,.no Z.o c2.o⟩
  ·have e5:l.drop a=[]:=by rw[List.drop_eq_nil_iff];omega
   have i6:a=l.length:=by omega
   subst i6;rw[e5] at f;rw[List.take_length] at r;have t:=Hd (show j=.ok o from f);have g5:=Hd r;clear f e5 r C R q;go_wp2_with fail
   refine bodyPost_ret (v:=.map (some w.heap.size)) ?_ rfl (.ok t.o ⟨w.heap.size,rfl,ac _,g5.o,F.o.1,F.o.2.2.2⟩);simp[results,results151,go_sem]
theorem OwnL.tag{α:Type}{R:α->List Value->Prop}{b:Nat}{e:TypeId}{f:Nat}{l:List α}{v:Value}{X:World}(h:OwnL R b e f l v X){g:Nat}(a:v.ownBlock=some g):b<=g/\Tag X g e:=by
 obtain⟨n,c,-⟩:=h.ex;refine⟨(c.lt g a).1,?_⟩;rcases c.2 with⟨rfl,-⟩|⟨k,i,j,rfl,-,d,-⟩
 ·cases a
 ·simp[Value.ownBlock] at a;subst a;exact⟨_,_,d⟩
theorem gD{w j c:World}{b:Option Nat}{mb i:Nat}{u:Value}(f:Ext w j)(p:j.grownBy c b){g:Nat}{T d:TypeId}(ht:Tag w g T)(s:∀h,b=some h->∃a,Tag w h a/\a≠T)(q:Tag w mb d)(r:d≠T):(c.setCell ⟨mb,i,none⟩ u).heap[g]? =w.heap[g]? :=by
 have k:g≠mb:=λe=>r (q.one (e▸ht))
 have l:some g≠b:=λe=>by
  obtain⟨a,n,o⟩:=s g e.symm;exact o (n.one ht)
 rw[Below.heap_setCell c ⟨mb,i,none⟩ u g k,p.block g (Nat.lt_of_lt_of_le ht.lt f.size) l,f.heap ht.lt]
theorem pv{w h f:World}{d:Option Nat}{N0 mb sb mp i:Nat}{u:Value}(b:Ext w h)(c:h.grownBy f d)(n:∀a,d=some a->N0<=a/\(Tag w a 57\/Tag w a 70\/Tag w a 62)):FrI N0 mb sb mp w (f.setCell ⟨mb,i,none⟩ u):=by
 refine⟨c.os.trans b.os,c.tape.trans b.tape,c.output.trans b.output,?_,λa g j o p k=>?_⟩
 ·have:=ad b.size c.size;simpa [World.setCell] using this
 ·have l:some a≠d:=λe=>k (n a e.symm)
  rw[Below.heap_setCell f ⟨mb,i,none⟩ u a j,c.block a (Nat.lt_of_lt_of_le g b.size) l,b.heap g]
theorem iY{w n h:World}{l:Option Nat}{mb i:Nat}{u:Value}{j:TypeId}(y:Ext w n)(q:n.grownBy h l)(v:∀c,l=some c->∃b,Tag w c b/\¬dj b)(s:Tag w mb j)(t:¬dj j):Kp w (h.setCell ⟨mb,i,none⟩ u):=by
 intro f a;have g:∀d,dj d->Tag w f d->(h.setCell ⟨mb,i,none⟩ u).heap[f]? =w.heap[f]? :=λd k x=>gD y q x (λc r=>by
  obtain⟨b,o,p⟩:=v c r;exact⟨b,o,λe=>p (e▸k)⟩) s (λe=>t (e▸k))
 rcases a with a|a|a
 ·exact g _ (.inl rfl) a
 ·exact g _ (.inr (.inl rfl)) a
 ·exact g _ (.inr (.inr rfl)) a
theorem ki{α:Type}{R b:α->List Value->Prop}{d mb i:Nat}{e c:TypeId}{j:Nat}{l:List α}{v u:Value}{a:World}(h:OwnL R d e j l v a)(p:Tag a mb c)(q:c≠e)(n:∀x f,R x f->b x f):OwnL b d e j l v (a.setCell ⟨mb,i,none⟩ u):=
 h.chg (λg _ o=>Below.heap_setCell a ⟨mb,i,none⟩ u g (λk=>q (p.one (show Tag a mb e from(show g=mb from k)▸o)))) n
theorem tE:(Tryz.prog.info? 70).map (λi=>(i.zero,i.size,i.bytes))=some (some (.agg #[.bool false,.slice none 0 0]),2,32):=by kernel_rfl
theorem rY:(Tryz.prog.info? 57).map (λi=>(i.zero,i.size,i.bytes))=some (some (.agg #[.string ⟨#[]⟩,.int .i64 0,.int .i64 0,.int .u64 0]),4,40):=by kernel_rfl
theorem OwnL.ext_imp{α:Type}{R a:α->List Value->Prop}{b:Nat}{e:TypeId}{d:Nat}{l:List α}{v:Value}{X Y:World}(h:OwnL R b e d l v X)(g:Ext X Y)(f:∀x c,R x c->a x c):OwnL a b e d l v Y:=(h.later g).imp f
def MkR(N0 mb sb mp:Nat)(c:Value)(w:World)(a:Mk)(w':World):Prop:=∃e d b,MkI w' N0 mb c e d b a/\FrI N0 mb sb mp w w'
theorem hT(N0 mb sb mp:Nat)(F O b0 N:Value)(m:Mk)(c:Bool)(l:List DT)(W:Value)(w:World)(h:MkI w N0 mb F O b0 N m)(L:SlT6 w l W)(b5:m.d.procs.length<=1024):
 bj Tryz.prog 107 #[.pointer (some ⟨mb,0,none⟩),.bool c,W] w (co c l m) (λa8 v w'=>v=aM/\MkR N0 mb sb mp F w a8 w') (FrI N0 mb sb mp w):=by
 have f:=Hd h;have a0:=Hd L;obtain⟨D,E,rfl⟩:=h.prc.form;obtain⟨A,C,rfl⟩:=SlT.form L;have R:=h.blk.cell 2;simp only[List.getElem?_cons_succ,List.getElem?_cons_zero] at R;clear L;by_cases y:m.d.procs.length<1024
 rotate_left
 ·have H:=Hd (show co c l m=.error 2 by unfold co;rw[if_neg y]);have I:=Hd (ed 2 zD w);have a6:¬((m.d.procs.length:Int)<1024):=by omega
  clear h y;go_enter func107,ntmps107;go_wp2_with fail
  go_at_call 35;refine I.o.mono ?_;rintro _ w ⟨rfl,rfl⟩;exact⟨rfl,.no H.o (FrI.refl _ _ _ _ _)⟩
 ·have H:=Hd (show co c l m=.ok {m with d:={m.d with procs:=m.d.procs++[⟨c,l⟩]}} by unfold co;rw[if_pos y]);have I:=Hd (dS 2 w);have a6:((m.d.procs.length:Int)<1024):=by omega
  obtain⟨n,S,g,T⟩:=cM w (.bool c) (.slice A l.length C) 70;have b3:=S.symm;have Q:=Hd (f.o.prc.ext_imp g (λx a1 a7=>RPc.keep g.kp x a1 a7));have Y:=Hd (show Flat n 2 (some ⟨w.heap.size,0,none⟩) 1 [.bool c,.slice A l.length C] from⟨rfl,(by intro a9 q;simp at q;rcases q with rfl|rfl<;>rfl),λ_=>⟨_,_,rfl,T.cells⟩⟩);have Z:=Hd (show Fl (RPc n) 2 [(⟨c,l⟩:Pc)] [.bool c,.slice A l.length C] from Fl.one_ rfl (by intro a9 q;simp at q;rcases q with rfl|rfl<;>rfl) ⟨_,rfl,a0.o.keep g.kp⟩);have r:=Hd g;have a3:N0<=n.heap.size:=ad h.base (ad (Nat.le_of_lt h.blk.lt) g.size);have b2:=g.at_ R;have G:=Hd (h.blk.ext g);clear h y S g T;go_enter func107,ntmps107;go_wp2_with fail
  go_at_call 35;refine I.o.mono ?_;rintro _ w ⟨rfl,rfl⟩
  go_wp2_with (first
   |(at_builtin;go_loud (
     refine jX rfl _ _ 47 rfl N0 70 _ 2 32 tE underlying47 rfl zD zD m.d.procs [⟨c,l⟩] (.slice D m.d.procs.length E) rfl Q.o (some ⟨w.heap.size,0,none⟩) 1 [.bool c,.slice A l.length C] rfl Y.o Z.o zO zS a3 ?_;intro b6 P M j a4;obtain⟨t,z,V⟩:=M.form;rw[show(m.d.procs++[(⟨c,l⟩:Pc)]).length=m.d.procs.length+1 from by simp] at V;subst V;have k:∀b,(Value.slice D m.d.procs.length E).ownBlock=some b->N0<=b/\Tag w b 70:=λb a=>f.o.prc.tag a
     have U:some mb≠(Value.slice D m.d.procs.length E).ownBlock:=λe=>absurd ((k mb e.symm).2.one f.o.blk.tag) zD
     have p:Blk P mb 99 [F,O,.slice D m.d.procs.length E,N,.int .i64 m.count,.int .i64 m.bits]:=(j.block mb G.o.lt U).trans G.o;have b1:=p.cell 2;have b7:=p.frozen 2;simp only[List.getElem?_cons_succ,List.getElem?_cons_zero] at b1;obtain⟨s,J⟩:∃s,s=P.setCell ⟨mb,2,none⟩ (.slice t (m.d.procs.length+1) z):=⟨_,rfl⟩;have b4:=J.symm;have X:=Hd (show MkI s N0 mb F O (.slice t (m.d.procs.length+1) z) N {m with d:={m.d with procs:=m.d.procs++[⟨c,l⟩]}}/\FrI N0 mb sb mp w s from by
      rw[J];have a:=iY (i:=2) (u:=.slice t (m.d.procs.length+1) z) r.o j (λb a=>⟨_,(k b a).2,by unfold dj;decide⟩) f.o.blk.tag (by unfold dj;decide);have a5:Kp n (P.setCell ⟨mb,2,none⟩ (.slice t (m.d.procs.length+1) z)):=iY (ah n) j (λb a=>⟨_,(Q.o.tag a).2,by unfold dj;decide⟩) G.o.tag (by unfold dj;decide);refine⟨⟨by simpa using p.set_ 2 _,?_,?_,?_,f.o.base⟩,pv r.o j (λb a=>⟨(k b a).1,.inr (.inl (k b a).2)⟩)⟩
      ·exact f.o.sig.chg (λa2 _ K=>gD r.o j K (λb a=>⟨_,(k b a).2,zD⟩) f.o.blk.tag zD) (λ_ _ h=>h)
      ·exact ki M p.tag zD (RPc.keep a5)
      ·exact f.o.chk.chg (λa2 _ K=>gD r.o j K (λb a=>⟨_,(k b a).2,zD⟩) f.o.blk.tag zD) (RCk.keep a))
     clear M j a4 k U p J)))
  go_end0
  exact .ok H.o ⟨rfl,_,_,_,X.o⟩
def cY(c:Nat)(T:TypeId)(b vals:List Value)(i:Nat)(v:Value)(w:World):Prop:=if i=c then∃a,v=.slice (some ⟨a,0,none⟩) 1 1/\Blk w a T b else v=vals.getD i undef
theorem ur{b:Nat}{T:TypeId}{a vals:List Value}{i:Nat}{v:Value}{w w':World}(h:cY b T a vals i v w)(f:Ext w w'):cY b T a vals i v w':=by
 unfold cY at h⊢;split
 ·rename_i hi
  rw[if_pos hi] at h;obtain⟨c,d,e⟩:=h;exact⟨c,d,e.ext f⟩
 ·rename_i hi
  rw[if_neg hi] at h;exact h
theorem iX{w:World}{mp:Nat}(o:Obj):Chg (λk=>k=mp) w (aE w mp o):=⟨rfl,rfl,rfl,by simp[aE],λk _ a=>by simp[aE,Array.getElem?_setIfInBounds_ne (show mp≠k from λe=>a e.symm)]⟩
theorem MkI.map{w w':World}{N0 mb mp:Nat}{j l k i:Value}{m:Mk}{env:ByteArray->Option Int}(h:MkI w N0 mb j l k i m)(p:EnvM w mp env)(o:Chg (λq=>q=mp) w w'):MkI w' N0 mb j l k i m/\Kp w w':=by
 have d:∀a g,Tag w a g->w'.heap[a]? =w.heap[a]? :=λa g b=>o.block a b.lt (λe=>p.noTag (e▸b))
 have f:Kp w w':=λn c=>by
  rcases c with c|c|c<;>exact d n _ c
 exact⟨⟨(d mb _ h.blk.tag).trans h.blk,h.sig.chg (λa _ b=>d a _ b) (λ_ _ h=>h),h.prc.chg (λa _ b=>d a _ b) (RPc.keep f),h.chk.chg (λa _ b=>d a _ b) (RCk.keep f),h.base⟩,f⟩
theorem FrI.of_map{N0 mb sb mp:Nat}{w w':World}(a:Chg (λb=>b=mp) w w'):FrI N0 mb sb mp w w':=⟨a.os,a.tape,a.output,a.size,λb d _ _ c _=>a.block b d c⟩
def ScR(sb mp:Nat)(a:Sc)(w':World):Prop:=∃b,ScI w' sb mp b a
theorem kK(N0 mb sb mp:Nat)(J k2 c9 c8 Q:Value)(m:Mk)(s:Sc)(b:ByteArray)(a j g:Int)(w:World)(h:MkI w N0 mb J k2 c9 c8 m)(d7:ScI w sb mp Q s)(a5:sb≠mb)
 (l6:m.d.sigs.length<=512) (l4:0<=m.bits) (l5:m.bits<=4096) (m0:0<=a) (m1:a<=64) (l8:s.path.size<=1000000000) (l7:b.size<=1000000000):
 bj Tryz.prog 73 #[.pointer (some ⟨mb,0,none⟩),.pointer (some ⟨sb,0,none⟩),.string b,.int .i64 a,.int .i64 j,.int .u64 g] w (cQ b a j g s m)
  (λg6 v w'=>v=.int .i64 m.d.sigs.length/\MkR N0 mb sb mp J w g6.2 w'/\ScR sb mp g6.1 w') (FrI N0 mb sb mp w):=by
 have L:=Hd h;have U:=Hd d7;have l9:¬(9223372036854775807<s.path.size+b.size):=by omega
 obtain⟨E,F,rfl⟩:=h.sig.form;obtain⟨k,a7⟩:∃k,k=w.setCell ⟨mb,5,none⟩ (.int .i64 (m.bits+a)):=⟨_,rfl⟩;have f3:=a7.symm;have d5:FrS mb w k:=by rw[a7];exact cC (X:=λl=>l=mb) (aV _ w) (p:=⟨mb,5,none⟩) rfl _
 have Z:Blk k mb 99 [J,.slice E m.d.sigs.length F,c9,c8,.int .i64 m.count,.int .i64 (m.bits+a)]:=by rw[a7];simpa using h.blk.set_ 5 (.int .i64 (m.bits+a))
 have g1:Blk k sb 126 [Q,.map (some mp),.string s.path]:=d5.blk d7.blk a5;have e5:=h.blk.cell 1;have e6:=h.blk.cell 5;have k7:=h.blk.frozen 5;have d1:=Z.cell 1;have e7:=Z.cell 5;simp only[List.getElem?_cons_succ,List.getElem?_cons_zero] at e5 e6 d1 e7;have K:=Hd d5;have G:=Hd Z;have e4:=Hd g1;clear h d7 d5 Z g1 a7;by_cases D:m.d.sigs.length<512/\m.bits+a<=4096
 rotate_left
 ·have T:=Hd (show cQ b a j g s m=.error 2 by unfold cQ;rw[if_neg D]);have M:=Hd (ed 2 zD k);have e3:=Hd (show FrI N0 mb sb mp w k from .of_chg K.o);by_cases d2:m.d.sigs.length<512
  ·have e8:((m.d.sigs.length:Int)<512):=by omega
   have h5:¬(m.bits+a<=4096):=λh=>D ⟨d2,h⟩
   clear D;go_enter func73,ntmps73;go_wp2_with fail
   go_at_call 35;refine M.o.mono ?_;rintro _ k ⟨rfl,rfl⟩;exact⟨rfl,.no T.o e3.o⟩
  ·have e8:¬((m.d.sigs.length:Int)<512):=by omega
   clear D;go_enter func73,ntmps73;go_wp2_with fail
   go_at_call 35;refine M.o.mono ?_;rintro _ k ⟨rfl,rfl⟩;exact⟨rfl,.no T.o e3.o⟩
 ·have T:=Hd (show cQ b a j g s m=.ok ({s with sigs:=av s.sigs b m.d.sigs.length},{m with bits:=m.bits+a,d:={m.d with sigs:=m.d.sigs++[⟨s.path++b,a,j,g⟩]}}) by unfold cQ;rw[if_pos D]);have M:=Hd (dS 2 k);have e8:((m.d.sigs.length:Int)<512):=by omega
  have h5:=D.2;clear D;go_enter func73,ntmps73;go_wp2_with fail
  go_at_call 35;refine M.o.mono ?_;rintro _ k ⟨rfl,rfl⟩;have k8:=Hd f3;have k3:=cellAt d1;have k4:=cellAt (e4.o.cell 2);clear M f3 e5 e6 k7 d1 e7;go_wp2_with fail
  refine wp_region_any zK ?_;refine wpAny_take (i:=0) (v:=.pointer (some ⟨mb,0,none⟩)) rfl zK zK zK (λ_ _ _ h=>h) (nl 0 rfl rfl rfl) ?_;simp only[Act.put,List.setIfInBounds_toArray,List.set_cons_zero,List.set_cons_succ];refine lB 17 [0] #[true,false,false,false,false,false,false,false,false,false,false,false,false,false,false,false,false] (W:=k) (Ext) (cY 16 57 [.string (s.path++b),.int .i64 a,.int .i64 j,.int .u64 g] [.pointer (some ⟨mb,0,none⟩),.pointer (some ⟨mb,0,none⟩),.pointer (some ⟨mb,0,none⟩),.pointer (some ⟨mb,1,none⟩),.pointer (some ⟨mb,1,none⟩),.slice E m.d.sigs.length F,.pointer (some ⟨sb,0,none⟩),.pointer (some ⟨sb,0,none⟩),.pointer (some ⟨sb,2,none⟩),.string s.path,.string b,.string (s.path++b),.int .i64 a,.int .i64 j,.int .u64 g,.agg #[.string (s.path++b),.int .i64 a,.int .i64 j,.int .u64 g]]) (λ_ _=>False) (λ_=>true) (bG) zK zK rfl zK zK zK zK (λh=>absurd h zD) ?_ ((bG).drew _ _ (ah _)) (λm2 v w w' h i0=>ur h i0) ?_ zK ?_ (λA l0 w f h8=>h8.elim) ?_
  ·exact⟨rfl,rfl,rfl,rfl,rfl,rfl,rfl,rfl,rfl,rfl,rfl,rfl,rfl,rfl,rfl,rfl,rfl,trivial⟩
  ·refine⟨?_,?_,?_,?_,?_,?_,?_,?_,?_,?_,?_,?_,?_,?_,?_,?_,?_,trivial⟩;rotate_left 16
   ·intro A g9 P f u;obtain⟨q,rfl⟩:=ae P;have i7:=aa f 15 53 zK rfl;simp[cY] at i7;clear f u;go_simp;obtain⟨k9,f4,g4,x⟩:=bH q.w (.string (s.path++b)) (.int .i64 a) (.int .i64 j) (.int .u64 g) 57;have l2:=f4.symm;have S:=Hd (an g4 x);clear f4 g4 x;go_simp;first|exact⟨_,rfl,S.o.1,_,rfl,S.o.2⟩|exact⟨S.o.1,_,rfl,S.o.2⟩
   all_goals
    intro A g9 P f u;obtain⟨q,rfl⟩:=ae P;try (have i1:=aa f 1 39 zD rfl;simp[cY] at i1)
    try (have i8:=aa f 2 40 zD rfl;simp[cY] at i8)
    try (have i9:=aa f 3 41 zD rfl;simp[cY] at i9)
    try (have j0:=aa f 4 42 zD rfl;simp[cY] at j0)
    try (have j1:=aa f 6 44 zD rfl;simp[cY] at j1)
    try (have j2:=aa f 7 45 zD rfl;simp[cY] at j2)
    try (have j3:=aa f 8 46 zD rfl;simp[cY] at j3)
    try (have j4:=aa f 9 47 zD rfl;simp[cY] at j4)
    try (have i2:=aa f 10 48 zD rfl;simp[cY] at i2)
    try (have i3:=aa f 11 49 zD rfl;simp[cY] at i3)
    try (have i4:=aa f 12 50 zD rfl;simp[cY] at i4)
    try (have i5:=aa f 13 51 zD rfl;simp[cY] at i5)
    try (have i6:=aa f 14 52 zD rfl;simp[cY] at i6)
    have j5:=ag u 0 zK;simp at j5;have j6:=ag u 1 zK;simp at j6;have j7:=ag u 2 zK;simp at j7;have j8:=ag u 3 zK;simp at j8;have j9:=ag u 4 zK;simp at j9;have k0:=ag u 5 zK;simp at k0;clear f u;exact zA
  ·intro m3 f8 d f;simp at f8;subst f8;obtain rfl:38=d:=by simpa using f
   exact rfl
  ·intro A g9 t;obtain⟨P,g2,f5,a1,c⟩:=t;obtain⟨q,rfl⟩:=ae P;have a8:=ag c 0 zK;simp at a8;have a9:=ag c 1 zK;simp at a9;have z:=ag c 2 zK;simp at z;have b4:=ag c 3 zK;simp at b4;have b5:=ag c 4 zK;simp at b5;have b6:=ag c 5 zK;simp at b6;have b8:=ag c 6 zK;simp at b8;have c5:=ag c 7 zK;simp at c5;have c6:=ag c 8 zK;simp at c6;have c7:=ag c 9 zK;simp at c7;have b0:=ag c 10 zK;simp at b0;have b1:=ag c 11 zK;simp at b1;have b2:=ag c 12 zK;simp at b2;have b3:=ag c 13 zK;simp at b3;have d9:A.tmps.getD 38 undef=.pointer (some ⟨mb,0,none⟩):=a1 0 38 rfl rfl;have e0:A.tmps.getD 43 undef=.slice E m.d.sigs.length F:=a1 5 43 rfl rfl;obtain⟨n,e1,y⟩:=(show∃n,A.tmps.getD 54 undef=.slice (some ⟨n,0,none⟩) 1 1/\Blk q.w n 57 [.string (s.path++b),.int .i64 a,.int .i64 j,.int .u64 g] from a1 16 54 rfl rfl);have b7:=ag c 59 zK;simp at b7;have b9:=ag c 60 zK;simp at b9;have c0:=ag c 61 zK;simp at c0;have c1:=ag c 62 zK;simp at c1;have c2:=ag c 63 zK;simp at c2;have c3:=ag c 64 zK;simp at c3;have c4:=ag c 65 zK;simp at c4;clear a1 c;rw[el g2 f5];obtain⟨l1,f7,f6⟩:=tmpsF A;simp only[f7,f6] at a8 a9 z b4 b5 b6 b8 c5 c6 c7 b0 b1 b2 b3 d9 e0 e1 b7 b9 c0 c1 c2 c3 c4⊢;simp only[List.drop_succ_cons,List.drop_zero];simp[List.range,List.range.loop,a8,a9,z,b4,b5,b6,b8,c5,c6,c7,b0,b1,b2,b3,d9,e0,e1,b7,b9,c0,c1,c2,c3,c4];clear a8 a9 z b4 b5 b6 b8 c5 c6 c7 b0 b1 b2 b3 d9 e0 e1 b7 b9 c0 c1 c2 c3 c4 g2 f5;clear f7 f6;have a4:mp≠mb:=λe=>U.o.map.noTag (e▸L.o.blk.tag)
   have R:=Hd (L.o.turn K.o m.count (m.bits+a) G.o);have h3:=Hd (R.o.sig.later q.ext);have h1:=Hd (show Flat q.w 4 (some ⟨n,0,none⟩) 1 [.string (s.path++b),.int .i64 a,.int .i64 j,.int .u64 g] from⟨rfl,(by intro k1 O;simp at O;rcases O with rfl|rfl|rfl|rfl<;>rfl),λ_=>⟨_,_,rfl,y.cells⟩⟩);have h2:=Hd (show Fl RSg 4 [(⟨s.path++b,a,j,g⟩:Sg)] [.string (s.path++b),.int .i64 a,.int .i64 j,.int .u64 g] from Fl.one_ rfl (by intro k1 O;simp at O;rcases O with rfl|rfl|rfl|rfl<;>rfl) rfl);have h6:N0<=q.w.heap.size:=ad L.o.base (ad (Nat.le_of_lt G.o.lt) q.ext.size);have e2:=Hd (G.o.ext q.ext);clear y k3 k4
   go_wp2_with (first
    |(at_builtin;go_loud (
      refine jX rfl _ _ 46 rfl N0 57 _ 4 40 rY underlying46 rfl zD zD m.d.sigs [⟨s.path++b,a,j,g⟩] (.slice E m.d.sigs.length F) rfl h3.o (some ⟨n,0,none⟩) 1 [.string (s.path++b),.int .i64 a,.int .i64 j,.int .u64 g] rfl h1.o h2.o zO zS h6 ?_;intro m4 g8 d6 N h7;obtain⟨d0,z,g3⟩:=d6.form;rw[show(m.d.sigs++[(⟨s.path++b,a,j,g⟩:Sg)]).length=m.d.sigs.length+1 from by simp] at g3;subst g3;have I:∀l,(Value.slice E m.d.sigs.length F).ownBlock=some l->N0<=l/\Tag k l 57:=λl t=>R.o.sig.tag t
      have g0:some mb≠(Value.slice E m.d.sigs.length F).ownBlock:=λe=>absurd ((I mb e.symm).2.one G.o.tag) zD
      have x:Blk g8 mb 99 [J,.slice E m.d.sigs.length F,c9,c8,.int .i64 m.count,.int .i64 (m.bits+a)]:=(N.block mb e2.o.lt g0).trans e2.o;have k5:=x.cell 1;have m5:=x.frozen 1;simp only[List.getElem?_cons_succ,List.getElem?_cons_zero] at k5;obtain⟨r,C⟩:∃r,r=g8.setCell ⟨mb,1,none⟩ (.slice d0 (m.d.sigs.length+1) z):=⟨_,rfl⟩;have l3:=C.symm;have a2:∀g7 g5,FrI N0 mb g7 g5 k r:=λg7 g5=>by rw[C];exact pv q.ext N (λl t=>⟨(I l t).1,.inl (I l t).2⟩)
      have a3:Kp k r:=by rw[C];exact iY q.ext N (λl t=>⟨_,(I l t).2,by unfold dj;decide⟩) G.o.tag (by unfold dj;decide)
      have d8:∀n V,Tag k n V->V≠57->V≠99->r.heap[n]? =k.heap[n]? :=λn V y d2 h4=>by rw[C];exact gD q.ext N y (λl t=>⟨_,(I l t).2,λe=>d2 e.symm⟩) G.o.tag (λe=>h4 e.symm)
      have f1:MkI r N0 mb J (.slice d0 (m.d.sigs.length+1) z) c9 c8 {m with bits:=m.bits+a,d:={m.d with sigs:=m.d.sigs++[⟨s.path++b,a,j,g⟩]}}:=by
       refine⟨?_,?_,R.o.prc.chg (λn _ y=>d8 n _ y zD zD) (RPc.keep a3),R.o.chk.chg (λn _ y=>d8 n _ y zD zD) (RCk.keep a3),L.o.base⟩
       ·rw[C];simpa using x.set_ 1 (.slice d0 (m.d.sigs.length+1) z)
       ·rw[C];exact ki d6 x.tag zD (λ_ _ h=>h)
      have a6:Blk r sb 126 [Q,.map (some mp),.string s.path]:=(a2 mb mb).blk e4.o ⟨zD,zD,zD⟩ a5 a5 a5;have Y:EnvM r mp s.sigs:=(a2 mb mb).map (U.o.map.of_eq (K.o.block mp U.o.map.lt a4)) a4 a4 a4;have f0:SlT 85 RNm r 2 s.env Q:=(SlT.keep U.o.env (.inr (.inr rfl)) (FrS.kp K.o L.o.blk.tag) (λ_ _ _ h=>h)).keep (.inr (.inr rfl)) a3 (λ_ _ _ h=>h);obtain⟨o,h9,d3⟩:=Y.put b m.d.sigs.length;obtain⟨H,d4⟩:∃H,H=aE r mp o:=⟨_,rfl⟩;have a0:Chg (λl=>l=mp) r H:=by rw[d4];exact iX o
      rw[<-d4] at h9 d3;obtain⟨f2,f9⟩:=f1.map Y a0;have e9:FrI N0 mb sb mp w H:=(FrI.of_chg K.o).trans ((a2 sb mp).trans (FrI.of_map a0));have k6:=a6.cell 1;simp only[List.getElem?_cons_succ,List.getElem?_cons_zero] at k6
      have h0:=Hd (show MkR N0 mb sb mp J w {m with bits:=m.bits+a,d:={m.d with sigs:=m.d.sigs++[⟨s.path++b,a,j,g⟩]}} H/\ScR sb mp {s with sigs:=av s.sigs b m.d.sigs.length} H from
       ⟨⟨_,_,_,f2,e9⟩,Q,(a0.blk a6 (λe=>Y.noTag (e▸a6.tag))),f0.keep (.inr (.inr rfl)) f9 (λ_ _ _ h=>h),d3⟩)
      clear d6 N h7 I g0 x C a2 a3 d8 f1 a6 Y f0 d3 d4 a0 f2 f9 e9)))
   go_ret;exact .ok T.o ⟨rfl,h0.o⟩
end Go.Proofs.YtlfmlodanoolhaaGreatDoor
