import Derived.Test.YtlfmlodanoolhaaGreatDoorV19
import Derived.Test.YtlfmlodanoolhaaGreatDoorV14
set_option linter.all false
set_option maxRecDepth 200000
set_option maxHeartbeats 0
namespace Go.Proofs.YtlfmlodanoolhaaGreatDoor
open Go Go.RowKit Go.Proofs.Tryz
attribute [local go_sem] bc
theorem ul{x:X}(k:Nat)(b:KRow)(a:kindRows[k]? =some b)(f:2<=k)(g:k<=10)(e:x.op=k)(h:x.l.length<=65536):fj x↔je b x.n x.l.length x.w x.v x.name:=by
 unfold fj je eg ll lq kU dW;rw[e];generalize x.n=n;generalize x.w=w;generalize x.v=v;generalize x.l.length=len at*;generalize bn x.name=P;generalize x.name.size=z;have d:k=2\/k=3\/k=4\/k=5\/k=6\/k=7\/k=8\/k=9\/k=10:=by omega
 by_cases c:P
 all_goals
  rcases d with rfl|rfl|rfl|rfl|rfl|rfl|rfl|rfl|rfl
  all_goals
   simp only[kindRows,List.getElem?_cons_succ,List.getElem?_cons_zero,Option.some.injEq] at a;subst a;simp[c];try omega
theorem wF{x:X}(a:x.op=1):fj x↔dU x.n x.l.length x.w x.v x.name:=by
 unfold fj dU eg ll lq kU dW;rw[a];generalize x.n=n;generalize x.w=w;generalize x.v=v;generalize x.l.length=len at*;generalize bn x.name=P;generalize x.name.size=z;simp;generalize (2:Int) ^ w.toNat=p;omega
theorem uk{x:X}(b:x.op<1\/10<x.op):¬fj x:=by
 rintro⟨a,_⟩;unfold eg at a;omega
theorem vJ(op:Int)(g:op<1\/10<op)(a b c d f:Value)(v:a.oneCell'=true)(x:b.oneCell'=true)(y:c.oneCell'=true)(z:d.oneCell'=true)(A:f.oneCell'=true)(w:World):
 Calls Tryz.prog 172 #[.agg #[.int .i64 op,a,b,c,d,f]] w λe j=>e=.returned (.bool false)/\Ext w j:=by
 obtain⟨k,r,t,h,u,l,m,n,o,p,q⟩:=cA w (.int .i64 op) a b c d f 40;by_cases i:op<1
 ·clear g
  go_in
  go_wp2_with fail
  go_ret;exact⟨rfl,h.trans (ag _)⟩
 ·have s:11<=op:=by omega
  have i:1<=op:=by omega
  clear g
  go_in
  go_wp2_with fail
  go_ret;exact⟨rfl,h.trans (ag _)⟩
theorem vI(B:Nat)(x:X)(w:World)(c:List Value)(g:Tabs w)(j:RX w B x c)(k:x.l.length<=65536)(m:x.name.size<4294967281):
 Calls Tryz.prog 172 #[.agg c.toArray] w λe n=>e=.returned (.bool (yes (fj x)))/\Ext w n:=by
 obtain⟨o,rfl,s,p,rfl,q,r⟩:=RX_iff.1 j;by_cases d:x.op<1\/10<x.op
 ·rw[yes_no.2 (uk d)];exact vJ _ d _ _ _ _ _ rfl rfl rfl rfl rfl w
 ·by_cases f:x.op=1
  ·rw[di (wF f),f];exact sQ _ _ _ _ _ _ _ zO w g
  ·obtain⟨a,h⟩:∃a:Nat,x.op=a:=⟨x.op.toNat,zO⟩;obtain⟨b,i⟩:∃b,kindRows[a]? =some b:=⟨kindRows[a]'(show a<11 by omega),ea _⟩;rw[di (ul a b i zO zO h k),h];exact sR a b i zO zO _ _ _ _ _ _ _ zO m w g
theorem pk:Enters Tryz.prog 135:=⟨λ_ _=>by kernel_rfl⟩
theorem jX(B:Nat)(x:X):∀(w:World) (d:List Value),Tabs w->RX w B x d->B<=w.heap.size->al x<=65536->VX x->
 Calls Tryz.prog 135 #[.agg d.toArray] w λe f=>e=.returned (.bool (yes (MayX x)))/\Ext w f:=by
 induction x using X.ind with
 |h x ih=>
 intro w d s m k t y;have r:=Hd m;obtain⟨g,rfl,p⟩:=RX_iff.1 m;have J:1+aa al x.l<=65536:=by rw[<-dJ];exact t
 have G:=aw al x.l cR;obtain⟨K,L,H,u⟩:=VX_iff.1 y;have Y:=p.oneCell;obtain⟨j,U,V,c,W,O,P,Q,R,S,T⟩:=cA w (.int .i64 x.op) (.string x.name) (.int .i64 x.n) (.int .i64 x.w) (.int .u64 x.v) g 40;have E:B<=j.heap.size:=ad k c.size
 have A:=Hd (show ECalls Tryz.prog 172 #[.agg #[.int .i64 x.op,.string x.name,.int .i64 x.n,.int .i64 x.w,.int .u64 x.v,g]] j (.bool (yes (fj x))) from
  λf b=>vI B x f _ (s.ext (c.trans b)) (r.o.ext (c.trans b) k) zO H)
 have C:=Hd (show ECalls Tryz.prog 173 #[g,.func (.func 135) #[] #[]] j (.bool (yes (∀a,a∈x.l->MayX a))) from
  λf b=>ql _ pk MayX B x.l f (λa q N d M I F=>ih a q N d (s.ext ((c.trans b).trans M)) I F (by have:=ay al x.l a q;omega) (u a q)) g
   (p.extRX (c.trans b) k) (ad E b.size) zO)
 obtain⟨z,i⟩:∃z,z=yes (MayX x):=⟨_,rfl⟩;rw[<-i];rw[di MayX_iff,hT] at i;have D:=Hd i;clear m t y K L u ih J G i p r;generalize yes (fj x)=b1 at*;generalize yes (∀a,a∈x.l->MayX a)=b2 at*;cases b1
 all_goals
  go_in
  go_wp2_with (first
   |(go_at_call 172;refine(A.o.at_ _).mono ?_;rintro _ _ ⟨rfl,e,rfl⟩)
   |(go_at_call 173;refine(C.o.at_ _).mono ?_;rintro _ _ ⟨rfl,e,rfl⟩))
  all_goals
   go_ret;exact⟨by rw[D.o];rfl,c.trans (ag _)⟩
theorem my(op:Int)(b c d f g:Value)(y:b.oneCell'=true)(z:c.oneCell'=true)(A:d.oneCell'=true)(B:f.oneCell'=true)(C:g.oneCell'=true)(w:World):
 Calls Tryz.prog 175 #[.agg #[.int .i64 op,b,c,d,f,g]] w λe l=>e=.returned (.bool (yes (dW op)))/\Ext w l:=by
 obtain⟨h,a⟩:∃h,h=yes (dW op):=⟨_,rfl⟩;rw[<-a];have i:=Hd a;clear a;obtain⟨m,u,v,k,x,n,p,q,r,s,t⟩:=cA w (.int .i64 op) b c d f g 40
 go_in
 go_wp2_with fail
 all_goals
  go_ret;refine⟨?_,k.trans (ag _)⟩;rw[i.o];refine congrArg (λj=>Ending.returned (Value.bool j)) ?_;rw[Bool.eq_iff_iff,yes_iff];unfold dW;simp;try omega
theorem BA:Enters Tryz.prog 177:=⟨λ_ _=>by kernel_rfl⟩
def eT(B:Nat)(x:S):Prop:=∀(w:World) (a:List Value),Tabs w->RS w B x a->B<=w.heap.size->
 Calls Tryz.prog 177 #[.agg a.toArray] w λe b=>e=.returned (.bool (yes (MayS x)))/\Ext w b
def eB(B:Nat)(l:List S):Prop:=∀(w:World) (v:Value),Tabs w->Sl (RS w B) w B 4 l v->B<=w.heap.size->
 Calls Tryz.prog 176 #[v,.func (.func 177) #[] #[]] w λe b=>e=.returned (.bool (yes (∀a,a∈l->MayS a)))/\Ext w b
def fU(B:Nat)(l:List S):Prop:=∀(w:World) (v:Value),Tabs w->Sl (RS w B) w B 4 l v->B<=w.heap.size->
 Calls Tryz.prog 199 #[v] w λe a=>e=.returned (.bool (yes (ef l)))/\Ext w a
theorem oe(B:Nat)(l:List S)(h:∀a,a∈l->eT B a)(g:l.length<=1000000000):eB B l:=
 λw v e d c=>uB _ BA MayS B l w (λa k m b j i f=>h a k m b (e.ext j) i f) v d c g
theorem fT(B:Nat)(l:List X)(n:aa al l<=65536)(k:∀a,a∈l->VX a)(w:World)(v:Value)(h:Tabs w)(g:Sl (RX w B) w B 6 l v)(f:B<=w.heap.size):
 Calls Tryz.prog 173 #[v,.func (.func 135) #[] #[]] w λe b=>e=.returned (.bool (yes (∀a,a∈l->MayX a)))/\Ext w b:=
 ql _ pk MayX B l w (λa c b d m j i=>jX B a b d (h.ext m) j i (by have:=ay al l a c;omega) (k a c)) v g f (by have:=aw al l cR;omega)
theorem gC{α:Type}{P:α->Prop}{l:List α}(h:l.length=0):yes (∀a,a∈l->P a)=true:=by
 rw[yes_iff,List.eq_nil_of_length_eq_zero h];intro a b;cases b
theorem kG{l:List X}(h:0<l.length):fy l↔dW l[0].op:=by
 cases l with
 |nil=>simp at h
 |cons x r=>exact Iff.rfl
theorem tu(B:Nat)(x:S)(E:x.op≠1)(h2:x.op≠2)(h3:x.op≠3)(F:x.op≠5)(G:x.op≠6)(K:eB B x.l)(L:fU B x.l)(O:∀R,R∈x.x->VX R)(N:x.name.size<4294967281)(M:ao x<=65536):eT B x:=by
 intro w b3 q J u;obtain⟨D,s,rfl,C,v⟩:=RS_iff.1 J;have a2:1+aa al x.x+aa ao x.l<=65536:=by rw[<-bW];exact M
 have c2:=aw al x.x cR;have c1:=aw ao x.l da;have a6:=C.oneCell;have a7:=v.oneCell;obtain⟨p,b4,b5,b,c3,a9,b0,b1,b2⟩:=en w (.int .i64 x.op) (.string x.name) D s 177;have z:B<=p.heap.size:=ad u b.size
 have f:=Hd (show ECalls Tryz.prog 173 #[D,.func (.func 135) #[] #[]] p (.bool (yes (∀c,c∈x.x->MayX c))) from
  λi a=>fT B x.x zO O i D (q.ext (b.trans a)) (C.extRX (b.trans a) u) (ad z a.size))
 have m:=Hd (show ECalls Tryz.prog 176 #[s,.func (.func 177) #[] #[]] p (.bool (yes (∀c,c∈x.l->MayS c))) from
  λi a=>K i s (q.ext (b.trans a)) (v.extRS (b.trans a) u) (ad z a.size))
 have T:=Hd (show ECalls Tryz.prog 199 #[s] p (.bool (yes (ef x.l))) from
  λi a=>L i s (q.ext (b.trans a)) (v.extRS (b.trans a) u) (ad z a.size))
 have U:=Hd (show ECalls Tryz.prog 134 #[.string x.name] p (.bool (dT x.name)) from λi a=>eN x.name i ((q.ext (b.trans a)).lib) N);have a0:=Hd (λY:x.l.length=0=>gC (P:=MayS) Y);obtain⟨c4,c6,rfl,a3,a4⟩:=C;obtain⟨c5,c7,rfl,a5,a1⟩:=v;obtain⟨Q,h⟩:∃Q,Q=yes (MayS x):=⟨_,rfl⟩;rw[<-h];rw[di (sF (x:=x) E h2 h3 F G)] at h;obtain⟨W,I⟩:∃n:Prop,n=(∀c,c∈x.x->MayX c):=⟨_,rfl⟩;try rw[<-I] at h
 rw[<-I] at f;obtain⟨X,A⟩:∃n:Prop,n=(x.name.size=0):=⟨_,rfl⟩;try rw[<-A] at h
 obtain⟨V,H⟩:∃n:Prop,n=(∀c,c∈x.l->MayS c):=⟨_,rfl⟩;try rw[<-H] at h
 rw[<-H] at m;have t:=Hd h;clear J q K L O a2 M N a6 a7 h a3 a4 a5;generalize x.name=nm at*;generalize x.x=fx at*;generalize x.l=fl at*;generalize x.op=op at*;clear a0 T U a1;have b6:(op==1)=false:=beq_eq_false_iff_ne.2 E;have b7:(op==2)=false:=beq_eq_false_iff_ne.2 h2;have b8:(op==3)=false:=beq_eq_false_iff_ne.2 h3;have b9:(op==5)=false:=beq_eq_false_iff_ne.2 F;have c0:(op==6)=false:=beq_eq_false_iff_ne.2 G;by_cases k:W
 ·have r:=Hd k;rw[yes_iff.2 k] at f;clear k;by_cases d:X
  ·have y:=Hd d;rw[A] at d;have Z:=fB d;clear d;by_cases j:V
   ·have a8:=Hd j;rw[yes_iff.2 j] at m;clear j;go_enter func177,ntmps177;go_wp2_with (first|(go_at_call 173;refine(f.o.at_ _).mono ?_;rintro _ _ ⟨rfl,e,rfl⟩)|(go_at_call 176;refine(m.o.at_ _).mono ?_;rintro _ _ ⟨rfl,e,rfl⟩))
    all_goals
     go_ret;refine⟨?_,b.trans (ag _)⟩;rw[t.o];refine congrArg (λg=>Ending.returned (Value.bool g)) ?_;rw[Bool.eq_iff_iff,yes_iff];simp[r.o,y.o]
   ·have a8:=Hd j;rw[yes_no.2 j] at m;clear j;go_enter func177,ntmps177;go_wp2_with (first|(go_at_call 173;refine(f.o.at_ _).mono ?_;rintro _ _ ⟨rfl,e,rfl⟩)|(go_at_call 176;refine(m.o.at_ _).mono ?_;rintro _ _ ⟨rfl,e,rfl⟩))
    all_goals
     go_ret;refine⟨?_,b.trans (ag _)⟩;rw[t.o];refine congrArg (λg=>Ending.returned (Value.bool g)) ?_;rw[Bool.eq_iff_iff,yes_iff];simp[r.o,y.o]
  ·have y:=Hd d;rw[A] at d;have Z:=fw d;clear d;go_enter func177,ntmps177;go_wp2_with (first|(go_at_call 173;refine(f.o.at_ _).mono ?_;rintro _ _ ⟨rfl,e,rfl⟩))
   all_goals
    go_ret;refine⟨?_,b.trans (ag _)⟩;rw[t.o];refine congrArg (λg=>Ending.returned (Value.bool g)) ?_;rw[Bool.eq_iff_iff,yes_iff];simp[r.o,y.o]
 ·have r:=Hd k;rw[yes_no.2 k] at f;clear k;go_enter func177,ntmps177;go_wp2_with (first|(go_at_call 173;refine(f.o.at_ _).mono ?_;rintro _ _ ⟨rfl,e,rfl⟩))
  all_goals
   go_ret;refine⟨?_,b.trans (ag _)⟩;rw[t.o];refine congrArg (λg=>Ending.returned (Value.bool g)) ?_;rw[Bool.eq_iff_iff,yes_iff];simp[r.o]
theorem tv(B:Nat)(x:S)(a4:x.op=1)(b4:eB B x.l)(b5:fU B x.l)(b9:∀c1,c1∈x.x->VX c1)(b8:x.name.size<4294967281)(b7:ao x<=65536):eT B x:=by
 intro w f5 O b3 T;obtain⟨R,J,rfl,a2,U⟩:=RS_iff.1 b3;have d7:1+aa al x.x+aa ao x.l<=65536:=by rw[<-bW];exact b7
 have f8:=aw al x.x cR;have f7:=aw ao x.l da;have a5:=a2.oneCell;have a6:=U.oneCell;obtain⟨z,f6,d1,a,f9,c9,e7,e8,e9⟩:=en w (.int .i64 x.op) (.string x.name) R J 177;have X:B<=z.heap.size:=ad T a.size
 have g:=Hd (show ECalls Tryz.prog 173 #[R,.func (.func 135) #[] #[]] z (.bool (yes (∀j,j∈x.x->MayX j))) from
  λi c=>fT B x.x zO b9 i R (O.ext (a.trans c)) (a2.extRX (a.trans c) T) (ad X c.size))
 have k:=Hd (show ECalls Tryz.prog 176 #[J,.func (.func 177) #[] #[]] z (.bool (yes (∀j,j∈x.l->MayS j))) from
  λi c=>b4 i J (O.ext (a.trans c)) (U.extRS (a.trans c) T) (ad X c.size))
 have c2:=Hd (show ECalls Tryz.prog 199 #[J] z (.bool (yes (ef x.l))) from
  λi c=>b5 i J (O.ext (a.trans c)) (U.extRS (a.trans c) T) (ad X c.size))
 have c3:=Hd (show ECalls Tryz.prog 134 #[.string x.name] z (.bool (dT x.name)) from λi c=>eN x.name i ((O.ext (a.trans c)).lib) b8);have d4:=Hd (λd0:x.l.length=0=>gC (P:=MayS) d0);obtain⟨g0,g2,rfl,d8,b6⟩:=a2;obtain⟨g1,g3,rfl,d9,d6⟩:=U;obtain⟨c0,r⟩:∃c0,c0=yes (MayS x):=⟨_,rfl⟩;rw[<-r];rw[di (sG (x:=x) a4)] at r;obtain⟨c5,b2⟩:∃p:Prop,p=(∀j,j∈x.x->MayX j):=⟨_,rfl⟩;try rw[<-b2] at r
 rw[<-b2] at g;obtain⟨c6,a1⟩:∃p:Prop,p=(x.name.size=0):=⟨_,rfl⟩;try rw[<-a1] at r
 obtain⟨b1,M⟩:∃p:Prop,p=(x.x.length=2):=⟨_,rfl⟩;try rw[<-M] at r
 obtain⟨c4,Z⟩:∃p:Prop,p=(x.l.length=0):=⟨_,rfl⟩;try rw[<-Z] at r
 obtain⟨b0,a0⟩:∃p:Prop,p=(fy x.x):=⟨_,rfl⟩;rw[<-a0] at r;have q:=Hd r;have a9:=Hd b6;clear b3 O b4 b5 b9 d7 b7 b8 a5 a6 r d8 b6 d9;rw[a4] at c9 d1⊢;generalize x.name=nm at*;generalize x.x=fx at*;generalize x.l=fl at*;clear a4 d4 c2 c3 d6;by_cases K:c5
 ·have m:=Hd K;rw[yes_iff.2 K] at g;clear K;by_cases u:c6
  ·have t:=Hd u;rw[a1] at u;have d3:=fB u;clear u;by_cases H:c4
   ·have y:=Hd H;rw[Z] at H;have c8:((fl.length:Int)==0)=true:=beq_iff_eq.2 zO;have e0:=Hd (gC (P:=MayS) H);clear H;rw[e0.o] at k;by_cases f:b1
    ·have s:=Hd f;rw[M] at f;have W:((fx.length:Int)==2)=true:=beq_iff_eq.2 zO;have Q:0<fx.length:=by omega
     clear f;have d5:(0:Int)<fx.length:=by omega
     obtain⟨b,o,e4,e5,R,J,e6,a8,rfl,d2,N,L,e1,e2,a5,a6,e3,a7⟩:=a9.o.open6 Q;obtain⟨c7,Y,a3⟩:=RX_iff.1 N;cases Y;obtain⟨A,C,D,E,F,G⟩:=L.get6;have A:=am (cellAt A) a;have C:=am (cellAt C) a;have D:=am (cellAt D) a;have E:=am (cellAt E) a;have F:=am (cellAt F) a;have G:=am (cellAt G) a;simp only[Nat.zero_mul,Nat.add_zero] at A C D E F G
     have h:=Hd (show ECalls Tryz.prog 175 #[.agg #[.int .i64 fx[0].op,.string fx[0].name,.int .i64 fx[0].n,.int .i64 fx[0].w,.int .u64 fx[0].v,a8]] z (.bool (yes (dW fx[0].op))) from
      λi c=>my _ _ _ _ _ _ rfl rfl rfl rfl a7 i)
     rw[<-di (kG Q),<-a0] at h;generalize fx[0].op=f0 at*;generalize fx[0].name=f1 at*;generalize fx[0].n=f2 at*;generalize fx[0].w=f3 at*;generalize fx[0].v=f4 at*;clear N L a3;by_cases d:b0
     ·have I:=Hd d;rw[yes_iff.2 d] at h;clear d;go_enter func177,ntmps177;go_wp2_with (first|(go_at_call 173;refine(g.o.at_ _).mono ?_;rintro _ _ ⟨rfl,e,rfl⟩)|(go_at_call 176;refine(k.o.at_ _).mono ?_;rintro _ _ ⟨rfl,e,rfl⟩)|(go_at_call 175;refine(h.o.at_ _).mono ?_;rintro _ _ ⟨rfl,e,rfl⟩))
      all_goals
       go_ret;refine⟨?_,a.trans (ag _)⟩;rw[q.o];refine congrArg (λb=>Ending.returned (Value.bool b)) ?_;rw[Bool.eq_iff_iff,yes_iff];simp[m.o,t.o,y.o,s.o,I.o]
     ·have I:=Hd d;rw[yes_no.2 d] at h;clear d;go_enter func177,ntmps177;go_wp2_with (first|(go_at_call 173;refine(g.o.at_ _).mono ?_;rintro _ _ ⟨rfl,e,rfl⟩)|(go_at_call 176;refine(k.o.at_ _).mono ?_;rintro _ _ ⟨rfl,e,rfl⟩)|(go_at_call 175;refine(h.o.at_ _).mono ?_;rintro _ _ ⟨rfl,e,rfl⟩))
      all_goals
       go_ret;refine⟨?_,a.trans (ag _)⟩;rw[q.o];refine congrArg (λb=>Ending.returned (Value.bool b)) ?_;rw[Bool.eq_iff_iff,yes_iff];simp[m.o,t.o,y.o,s.o,I.o]
    ·have s:=Hd f;rw[M] at f;have W:((fx.length:Int)==2)=false:=beq_eq_false_iff_ne.2 zO;clear f;go_enter func177,ntmps177;go_wp2_with (first|(go_at_call 173;refine(g.o.at_ _).mono ?_;rintro _ _ ⟨rfl,e,rfl⟩)|(go_at_call 176;refine(k.o.at_ _).mono ?_;rintro _ _ ⟨rfl,e,rfl⟩))
     all_goals
      go_ret;refine⟨?_,a.trans (ag _)⟩;rw[q.o];refine congrArg (λb=>Ending.returned (Value.bool b)) ?_;rw[Bool.eq_iff_iff,yes_iff];simp[m.o,t.o,y.o,s.o]
   ·have y:=Hd H;rw[Z] at H;have c8:((fl.length:Int)==0)=false:=beq_eq_false_iff_ne.2 zO;clear H;by_cases V:∀j,j∈fl->MayS j
    ·rw[yes_iff.2 V] at k;clear V;by_cases f:b1
     ·have s:=Hd f;rw[M] at f;have W:((fx.length:Int)==2)=true:=beq_iff_eq.2 zO;have Q:0<fx.length:=by omega
      clear f;have d5:(0:Int)<fx.length:=by omega
      obtain⟨b,o,e4,e5,R,J,e6,a8,rfl,d2,N,L,e1,e2,a5,a6,e3,a7⟩:=a9.o.open6 Q;obtain⟨c7,Y,a3⟩:=RX_iff.1 N;cases Y;obtain⟨A,C,D,E,F,G⟩:=L.get6;have A:=am (cellAt A) a;have C:=am (cellAt C) a;have D:=am (cellAt D) a;have E:=am (cellAt E) a;have F:=am (cellAt F) a;have G:=am (cellAt G) a;simp only[Nat.zero_mul,Nat.add_zero] at A C D E F G
      have h:=Hd (show ECalls Tryz.prog 175 #[.agg #[.int .i64 fx[0].op,.string fx[0].name,.int .i64 fx[0].n,.int .i64 fx[0].w,.int .u64 fx[0].v,a8]] z (.bool (yes (dW fx[0].op))) from
       λi c=>my _ _ _ _ _ _ rfl rfl rfl rfl a7 i)
      rw[<-di (kG Q),<-a0] at h;generalize fx[0].op=f0 at*;generalize fx[0].name=f1 at*;generalize fx[0].n=f2 at*;generalize fx[0].w=f3 at*;generalize fx[0].v=f4 at*;clear N L a3;by_cases d:b0
      ·have I:=Hd d;rw[yes_iff.2 d] at h;clear d;go_enter func177,ntmps177;go_wp2_with (first|(go_at_call 173;refine(g.o.at_ _).mono ?_;rintro _ _ ⟨rfl,e,rfl⟩)|(go_at_call 176;refine(k.o.at_ _).mono ?_;rintro _ _ ⟨rfl,e,rfl⟩)|(go_at_call 175;refine(h.o.at_ _).mono ?_;rintro _ _ ⟨rfl,e,rfl⟩))
       all_goals
        go_ret;refine⟨?_,a.trans (ag _)⟩;rw[q.o];refine congrArg (λb=>Ending.returned (Value.bool b)) ?_;rw[Bool.eq_iff_iff,yes_iff];simp[m.o,t.o,y.o,s.o,I.o]
      ·have I:=Hd d;rw[yes_no.2 d] at h;clear d;go_enter func177,ntmps177;go_wp2_with (first|(go_at_call 173;refine(g.o.at_ _).mono ?_;rintro _ _ ⟨rfl,e,rfl⟩)|(go_at_call 176;refine(k.o.at_ _).mono ?_;rintro _ _ ⟨rfl,e,rfl⟩)|(go_at_call 175;refine(h.o.at_ _).mono ?_;rintro _ _ ⟨rfl,e,rfl⟩))
       all_goals
        go_ret;refine⟨?_,a.trans (ag _)⟩;rw[q.o];refine congrArg (λb=>Ending.returned (Value.bool b)) ?_;rw[Bool.eq_iff_iff,yes_iff];simp[m.o,t.o,y.o,s.o,I.o]
     ·have s:=Hd f;rw[M] at f;have W:((fx.length:Int)==2)=false:=beq_eq_false_iff_ne.2 zO;clear f;go_enter func177,ntmps177;go_wp2_with (first|(go_at_call 173;refine(g.o.at_ _).mono ?_;rintro _ _ ⟨rfl,e,rfl⟩)|(go_at_call 176;refine(k.o.at_ _).mono ?_;rintro _ _ ⟨rfl,e,rfl⟩))
      all_goals
       go_ret;refine⟨?_,a.trans (ag _)⟩;rw[q.o];refine congrArg (λb=>Ending.returned (Value.bool b)) ?_;rw[Bool.eq_iff_iff,yes_iff];simp[m.o,t.o,y.o,s.o]
    ·rw[yes_no.2 V] at k;clear V;go_enter func177,ntmps177;go_wp2_with (first|(go_at_call 173;refine(g.o.at_ _).mono ?_;rintro _ _ ⟨rfl,e,rfl⟩)|(go_at_call 176;refine(k.o.at_ _).mono ?_;rintro _ _ ⟨rfl,e,rfl⟩))
     all_goals
      go_ret;refine⟨?_,a.trans (ag _)⟩;rw[q.o];refine congrArg (λb=>Ending.returned (Value.bool b)) ?_;rw[Bool.eq_iff_iff,yes_iff];simp[m.o,t.o,y.o]
  ·have t:=Hd u;rw[a1] at u;have d3:=fw u;clear u;go_enter func177,ntmps177;go_wp2_with (first|(go_at_call 173;refine(g.o.at_ _).mono ?_;rintro _ _ ⟨rfl,e,rfl⟩))
   all_goals
    go_ret;refine⟨?_,a.trans (ag _)⟩;rw[q.o];refine congrArg (λb=>Ending.returned (Value.bool b)) ?_;rw[Bool.eq_iff_iff,yes_iff];simp[m.o,t.o]
 ·have m:=Hd K;rw[yes_no.2 K] at g;clear K;go_enter func177,ntmps177;go_wp2_with (first|(go_at_call 173;refine(g.o.at_ _).mono ?_;rintro _ _ ⟨rfl,e,rfl⟩))
  all_goals
   go_ret;refine⟨?_,a.trans (ag _)⟩;rw[q.o];refine congrArg (λb=>Ending.returned (Value.bool b)) ?_;rw[Bool.eq_iff_iff,yes_iff];simp[m.o]
theorem tw(B:Nat)(x:S)(X:x.op=2)(a9:eB B x.l)(b0:fU B x.l)(b6:∀c0,c0∈x.x->VX c0)(b5:x.name.size<4294967281)(b4:ao x<=65536):eT B x:=by
 intro w f8 F a4 H;obtain⟨M,D,rfl,W,I⟩:=RS_iff.1 a4;have e3:1+aa al x.x+aa ao x.l<=65536:=by rw[<-bW];exact b4
 have g7:=aw al x.x cR;have g6:=aw ao x.l da;have b7:=W.oneCell;have b8:=I.oneCell;obtain⟨E,f9,e0,a,h0,d6,f5,f6,f7⟩:=en w (.int .i64 x.op) (.string x.name) M D 177;have N:B<=E.heap.size:=ad H a.size
 have f:=Hd (show ECalls Tryz.prog 173 #[M,.func (.func 135) #[] #[]] E (.bool (yes (∀h,h∈x.x->MayX h))) from
  λt d=>fT B x.x zO b6 t M (F.ext (a.trans d)) (W.extRX (a.trans d) H) (ad N d.size))
 have i:=Hd (show ECalls Tryz.prog 176 #[D,.func (.func 177) #[] #[]] E (.bool (yes (∀h,h∈x.l->MayS h))) from
  λt d=>a9 t D (F.ext (a.trans d)) (I.extRS (a.trans d) H) (ad N d.size))
 have c1:=Hd (show ECalls Tryz.prog 199 #[D] E (.bool (yes (ef x.l))) from
  λt d=>b0 t D (F.ext (a.trans d)) (I.extRS (a.trans d) H) (ad N d.size))
 have c2:=Hd (show ECalls Tryz.prog 134 #[.string x.name] E (.bool (dT x.name)) from λt d=>eN x.name t ((F.ext (a.trans d)).lib) b5);have e2:=Hd (λd7:x.l.length=0=>gC (P:=MayS) d7);obtain⟨h8,i0,rfl,e5,e6⟩:=W;obtain⟨h9,i1,rfl,e7,b3⟩:=I;obtain⟨b9,g⟩:∃b9,b9=yes (MayS x):=⟨_,rfl⟩;rw[<-g];rw[di (sH (x:=x) X)] at g;obtain⟨c8,a3⟩:∃c:Prop,c=(∀h,h∈x.x->MayX h):=⟨_,rfl⟩;try rw[<-a3] at g
 rw[<-a3] at f;obtain⟨d0,V⟩:∃c:Prop,c=(x.name.size=0):=⟨_,rfl⟩;try rw[<-V] at g
 obtain⟨c9,U⟩:∃c:Prop,c=(x.x.length=1):=⟨_,rfl⟩;try rw[<-U] at g
 obtain⟨c4,O⟩:∃c:Prop,c=(x.l.length=2):=⟨_,rfl⟩;try rw[<-O] at g
 obtain⟨c5,Q⟩:∃c:Prop,c=(cU x.l 0=5):=⟨_,rfl⟩;try rw[<-Q] at g
 obtain⟨c6,R⟩:∃c:Prop,c=(cU x.l 1=5):=⟨_,rfl⟩;try rw[<-R] at g
 obtain⟨c7,T⟩:∃c:Prop,c=(cU x.l 1=2):=⟨_,rfl⟩;try rw[<-T] at g
 obtain⟨c3,a2⟩:∃c:Prop,c=(∀h,h∈x.l->MayS h):=⟨_,rfl⟩;try rw[<-a2] at g
 rw[<-a2] at i;have k:=Hd g;have Z:=Hd b3;clear a4 F a9 b0 b6 e3 b4 b5 b7 b8 g e5 e6 e7;rw[X] at d6 e0⊢;generalize x.name=nm at*;generalize x.x=fx at*;generalize x.l=fl at*;clear X e2 c1 c2 b3;by_cases y:c8
 ·have j:=Hd y;rw[yes_iff.2 y] at f;clear y;by_cases r:d0
  ·have m:=Hd r;rw[V] at r;have e1:=fB r;clear r;by_cases u:c3
   ·have A:=Hd u;rw[yes_iff.2 u] at i;clear u;by_cases z:c9
    ·have s:=Hd z;rw[U] at z;have d5:((fx.length:Int)==1)=true:=beq_iff_eq.2 zO;clear z;by_cases v:c4
     ·have C:=Hd v;rw[O] at v;have d1:((fl.length:Int)==2)=true:=beq_iff_eq.2 zO;have b1:0<fl.length:=by omega
      have b2:1<fl.length:=by omega
      clear v;have g8:(0:Int)<fl.length:=by omega
      have g9:(1:Int)<fl.length:=by omega
      obtain⟨b,o,i2,i3,M,D,rfl,g4,a5,a0,h2,h3,b7,b8⟩:=Z.o.open4 b1;obtain⟨f4,h1,u0,u1,u2,u3,e4,g5,a6,a1,h4,h5,h6,h7⟩:=Z.o.open4 b2;cases e4;obtain⟨g0,g1,d8,-,-⟩:=RS_iff.1 a5;cases d8;obtain⟨g2,g3,d9,-,-⟩:=RS_iff.1 a6;cases d9;obtain⟨J,e8,e9,f0⟩:=a0.get4;obtain⟨K,f1,f2,f3⟩:=a1.get4;simp only[Nat.zero_mul,Nat.add_zero,Nat.one_mul] at J K;have a7:=pZ fl 0 b1;have a8:=pZ fl 1 b2;rw[<-a7] at J;rw[<-a8] at K;have J:=am (cellAt J) a;have K:=am (cellAt K) a;clear a5 a6 a0 a1 a7 a8 e8 e9 f0 f1 f2 f3;by_cases n:c5
      ·have G:=Hd n;rw[Q] at n;have d2:(cU fl 0==5)=true:=beq_iff_eq.2 n;clear n;by_cases p:c6
       ·have L:=Hd p;rw[R] at p;have d3:(cU fl 1==5)=true:=beq_iff_eq.2 p;clear p;go_enter func177,ntmps177;go_wp2_with (first|(go_at_call 173;refine(f.o.at_ _).mono ?_;rintro _ _ ⟨rfl,e,rfl⟩)|(go_at_call 176;refine(i.o.at_ _).mono ?_;rintro _ _ ⟨rfl,e,rfl⟩))
        all_goals
         go_ret;refine⟨?_,a.trans (ag _)⟩;rw[k.o];refine congrArg (λb=>Ending.returned (Value.bool b)) ?_;rw[Bool.eq_iff_iff,yes_iff];simp[j.o,m.o,s.o,C.o,A.o,G.o,L.o]
       ·have L:=Hd p;rw[R] at p;have d3:(cU fl 1==5)=false:=beq_eq_false_iff_ne.2 p;clear p;by_cases q:c7
        ·have Y:=Hd q;rw[T] at q;have d4:(cU fl 1==2)=true:=beq_iff_eq.2 q;clear q;go_enter func177,ntmps177;go_wp2_with (first|(go_at_call 173;refine(f.o.at_ _).mono ?_;rintro _ _ ⟨rfl,e,rfl⟩)|(go_at_call 176;refine(i.o.at_ _).mono ?_;rintro _ _ ⟨rfl,e,rfl⟩))
         all_goals
          go_ret;refine⟨?_,a.trans (ag _)⟩;rw[k.o];refine congrArg (λb=>Ending.returned (Value.bool b)) ?_;rw[Bool.eq_iff_iff,yes_iff];simp[j.o,m.o,s.o,C.o,A.o,G.o,L.o,Y.o]
        ·have Y:=Hd q;rw[T] at q;have d4:(cU fl 1==2)=false:=beq_eq_false_iff_ne.2 q;clear q;go_enter func177,ntmps177;go_wp2_with (first|(go_at_call 173;refine(f.o.at_ _).mono ?_;rintro _ _ ⟨rfl,e,rfl⟩)|(go_at_call 176;refine(i.o.at_ _).mono ?_;rintro _ _ ⟨rfl,e,rfl⟩))
         all_goals
          go_ret;refine⟨?_,a.trans (ag _)⟩;rw[k.o];refine congrArg (λb=>Ending.returned (Value.bool b)) ?_;rw[Bool.eq_iff_iff,yes_iff];simp[j.o,m.o,s.o,C.o,A.o,G.o,L.o,Y.o]
      ·have G:=Hd n;rw[Q] at n;have d2:(cU fl 0==5)=false:=beq_eq_false_iff_ne.2 n;clear n;go_enter func177,ntmps177;go_wp2_with (first|(go_at_call 173;refine(f.o.at_ _).mono ?_;rintro _ _ ⟨rfl,e,rfl⟩)|(go_at_call 176;refine(i.o.at_ _).mono ?_;rintro _ _ ⟨rfl,e,rfl⟩))
       all_goals
        go_ret;refine⟨?_,a.trans (ag _)⟩;rw[k.o];refine congrArg (λb=>Ending.returned (Value.bool b)) ?_;rw[Bool.eq_iff_iff,yes_iff];simp[j.o,m.o,s.o,C.o,A.o,G.o]
     ·have C:=Hd v;rw[O] at v;have d1:((fl.length:Int)==2)=false:=beq_eq_false_iff_ne.2 zO;clear v;go_enter func177,ntmps177;go_wp2_with (first|(go_at_call 173;refine(f.o.at_ _).mono ?_;rintro _ _ ⟨rfl,e,rfl⟩)|(go_at_call 176;refine(i.o.at_ _).mono ?_;rintro _ _ ⟨rfl,e,rfl⟩))
      all_goals
       go_ret;refine⟨?_,a.trans (ag _)⟩;rw[k.o];refine congrArg (λb=>Ending.returned (Value.bool b)) ?_;rw[Bool.eq_iff_iff,yes_iff];simp[j.o,m.o,s.o,C.o]
    ·have s:=Hd z;rw[U] at z;have d5:((fx.length:Int)==1)=false:=beq_eq_false_iff_ne.2 zO;clear z;go_enter func177,ntmps177;go_wp2_with (first|(go_at_call 173;refine(f.o.at_ _).mono ?_;rintro _ _ ⟨rfl,e,rfl⟩)|(go_at_call 176;refine(i.o.at_ _).mono ?_;rintro _ _ ⟨rfl,e,rfl⟩))
     all_goals
      go_ret;refine⟨?_,a.trans (ag _)⟩;rw[k.o];refine congrArg (λb=>Ending.returned (Value.bool b)) ?_;rw[Bool.eq_iff_iff,yes_iff];simp[j.o,m.o,s.o]
   ·have A:=Hd u;rw[yes_no.2 u] at i;clear u;go_enter func177,ntmps177;go_wp2_with (first|(go_at_call 173;refine(f.o.at_ _).mono ?_;rintro _ _ ⟨rfl,e,rfl⟩)|(go_at_call 176;refine(i.o.at_ _).mono ?_;rintro _ _ ⟨rfl,e,rfl⟩))
    all_goals
     go_ret;refine⟨?_,a.trans (ag _)⟩;rw[k.o];refine congrArg (λb=>Ending.returned (Value.bool b)) ?_;rw[Bool.eq_iff_iff,yes_iff];simp[j.o,m.o,A.o]
  ·have m:=Hd r;rw[V] at r;have e1:=fw r;clear r;go_enter func177,ntmps177;go_wp2_with (first|(go_at_call 173;refine(f.o.at_ _).mono ?_;rintro _ _ ⟨rfl,e,rfl⟩))
   all_goals
    go_ret;refine⟨?_,a.trans (ag _)⟩;rw[k.o];refine congrArg (λb=>Ending.returned (Value.bool b)) ?_;rw[Bool.eq_iff_iff,yes_iff];simp[j.o,m.o]
 ·have j:=Hd y;rw[yes_no.2 y] at f;clear y;go_enter func177,ntmps177;go_wp2_with (first|(go_at_call 173;refine(f.o.at_ _).mono ?_;rintro _ _ ⟨rfl,e,rfl⟩))
  all_goals
   go_ret;refine⟨?_,a.trans (ag _)⟩;rw[k.o];refine congrArg (λb=>Ending.returned (Value.bool b)) ?_;rw[Bool.eq_iff_iff,yes_iff];simp[j.o]
theorem tx(B:Nat)(x:S)(G:x.op=3)(M:eB B x.l)(N:fU B x.l)(R:∀U,U∈x.x->VX U)(Q:x.name.size<4294967281)(O:ao x<=65536):eT B x:=by
 intro w b7 t L y;obtain⟨I,v,rfl,F,z⟩:=RS_iff.1 L;have a8:1+aa al x.x+aa ao x.l<=65536:=by rw[<-bW];exact O
 have c0:=aw al x.x cR;have b9:=aw ao x.l da;have b2:=F.oneCell;have b3:=z.oneCell;obtain⟨s,b8,a4,b,c1,a2,b4,b5,b6⟩:=en w (.int .i64 x.op) (.string x.name) I v 177;have C:B<=s.heap.size:=ad y b.size
 have d:=Hd (show ECalls Tryz.prog 173 #[I,.func (.func 135) #[] #[]] s (.bool (yes (∀h,h∈x.x->MayX h))) from
  λj a=>fT B x.x zO R j I (t.ext (b.trans a)) (F.extRX (b.trans a) y) (ad C a.size))
 have V:=Hd (show ECalls Tryz.prog 176 #[v,.func (.func 177) #[] #[]] s (.bool (yes (∀h,h∈x.l->MayS h))) from
  λj a=>M j v (t.ext (b.trans a)) (z.extRS (b.trans a) y) (ad C a.size))
 have q:=Hd (show ECalls Tryz.prog 199 #[v] s (.bool (yes (ef x.l))) from
  λj a=>N j v (t.ext (b.trans a)) (z.extRS (b.trans a) y) (ad C a.size))
 have W:=Hd (show ECalls Tryz.prog 134 #[.string x.name] s (.bool (dT x.name)) from λj a=>eN x.name j ((t.ext (b.trans a)).lib) Q);have a6:=Hd (λa3:x.l.length=0=>gC (P:=MayS) a3);obtain⟨c2,c4,rfl,a9,b0⟩:=F;obtain⟨c3,c5,rfl,b1,a7⟩:=z;obtain⟨T,f⟩:∃T,T=yes (MayS x):=⟨_,rfl⟩;rw[<-f];rw[di (sI (x:=x) G)] at f;obtain⟨Y,K⟩:∃i:Prop,i=(∀h,h∈x.x->MayX h):=⟨_,rfl⟩;try rw[<-K] at f
 rw[<-K] at d;obtain⟨a0,E⟩:∃i:Prop,i=(x.name.size=0):=⟨_,rfl⟩;try rw[<-E] at f
 obtain⟨Z,D⟩:∃i:Prop,i=(x.x.length=1):=⟨_,rfl⟩;try rw[<-D] at f
 obtain⟨X,J⟩:∃i:Prop,i=(ef x.l):=⟨_,rfl⟩;try rw[<-J] at f
 rw[<-J] at q;have r:=Hd f;clear L t M N R a8 O Q b2 b3 f a9 b0 b1;rw[G] at a2 a4⊢;generalize x.name=nm at*;generalize x.x=fx at*;generalize x.l=fl at*;clear G a6 V W a7;by_cases m:Y
 ·have p:=Hd m;rw[yes_iff.2 m] at d;clear m;by_cases g:a0
  ·have u:=Hd g;rw[E] at g;have a5:=fB g;clear g;by_cases n:Z
   ·have A:=Hd n;rw[D] at n;have a1:((fx.length:Int)==1)=true:=beq_iff_eq.2 zO;clear n;by_cases k:X
    ·have H:=Hd k;rw[yes_iff.2 k] at q;clear k;go_enter func177,ntmps177;go_wp2_with (first|(go_at_call 173;refine(d.o.at_ _).mono ?_;rintro _ _ ⟨rfl,e,rfl⟩)|(go_at_call 199;refine(q.o.at_ _).mono ?_;rintro _ _ ⟨rfl,e,rfl⟩))
     all_goals
      go_ret;refine⟨?_,b.trans (ag _)⟩;rw[r.o];refine congrArg (λc=>Ending.returned (Value.bool c)) ?_;rw[Bool.eq_iff_iff,yes_iff];simp[p.o,u.o,A.o,H.o]
    ·have H:=Hd k;rw[yes_no.2 k] at q;clear k;go_enter func177,ntmps177;go_wp2_with (first|(go_at_call 173;refine(d.o.at_ _).mono ?_;rintro _ _ ⟨rfl,e,rfl⟩)|(go_at_call 199;refine(q.o.at_ _).mono ?_;rintro _ _ ⟨rfl,e,rfl⟩))
     all_goals
      go_ret;refine⟨?_,b.trans (ag _)⟩;rw[r.o];refine congrArg (λc=>Ending.returned (Value.bool c)) ?_;rw[Bool.eq_iff_iff,yes_iff];simp[p.o,u.o,A.o,H.o]
   ·have A:=Hd n;rw[D] at n;have a1:((fx.length:Int)==1)=false:=beq_eq_false_iff_ne.2 zO;clear n;go_enter func177,ntmps177;go_wp2_with (first|(go_at_call 173;refine(d.o.at_ _).mono ?_;rintro _ _ ⟨rfl,e,rfl⟩))
    all_goals
     go_ret;refine⟨?_,b.trans (ag _)⟩;rw[r.o];refine congrArg (λc=>Ending.returned (Value.bool c)) ?_;rw[Bool.eq_iff_iff,yes_iff];simp[p.o,u.o,A.o]
  ·have u:=Hd g;rw[E] at g;have a5:=fw g;clear g;go_enter func177,ntmps177;go_wp2_with (first|(go_at_call 173;refine(d.o.at_ _).mono ?_;rintro _ _ ⟨rfl,e,rfl⟩))
   all_goals
    go_ret;refine⟨?_,b.trans (ag _)⟩;rw[r.o];refine congrArg (λc=>Ending.returned (Value.bool c)) ?_;rw[Bool.eq_iff_iff,yes_iff];simp[p.o,u.o]
 ·have p:=Hd m;rw[yes_no.2 m] at d;clear m;go_enter func177,ntmps177;go_wp2_with (first|(go_at_call 173;refine(d.o.at_ _).mono ?_;rintro _ _ ⟨rfl,e,rfl⟩))
  all_goals
   go_ret;refine⟨?_,b.trans (ag _)⟩;rw[r.o];refine congrArg (λc=>Ending.returned (Value.bool c)) ?_;rw[Bool.eq_iff_iff,yes_iff];simp[p.o]
theorem tz(B:Nat)(x:S)(G:x.op=5)(M:eB B x.l)(N:fU B x.l)(R:∀U,U∈x.x->VX U)(Q:x.name.size<4294967281)(O:ao x<=65536):eT B x:=by
 intro w b7 t L y;obtain⟨I,v,rfl,F,z⟩:=RS_iff.1 L;have a8:1+aa al x.x+aa ao x.l<=65536:=by rw[<-bW];exact O
 have c0:=aw al x.x cR;have b9:=aw ao x.l da;have b2:=F.oneCell;have b3:=z.oneCell;obtain⟨s,b8,a4,b,c1,a2,b4,b5,b6⟩:=en w (.int .i64 x.op) (.string x.name) I v 177;have C:B<=s.heap.size:=ad y b.size
 have f:=Hd (show ECalls Tryz.prog 173 #[I,.func (.func 135) #[] #[]] s (.bool (yes (∀c,c∈x.x->MayX c))) from
  λj a=>fT B x.x zO R j I (t.ext (b.trans a)) (F.extRX (b.trans a) y) (ad C a.size))
 have k:=Hd (show ECalls Tryz.prog 176 #[v,.func (.func 177) #[] #[]] s (.bool (yes (∀c,c∈x.l->MayS c))) from
  λj a=>M j v (t.ext (b.trans a)) (z.extRS (b.trans a) y) (ad C a.size))
 have V:=Hd (show ECalls Tryz.prog 199 #[v] s (.bool (yes (ef x.l))) from
  λj a=>N j v (t.ext (b.trans a)) (z.extRS (b.trans a) y) (ad C a.size))
 have W:=Hd (show ECalls Tryz.prog 134 #[.string x.name] s (.bool (dT x.name)) from λj a=>eN x.name j ((t.ext (b.trans a)).lib) Q);have a6:=Hd (λa3:x.l.length=0=>gC (P:=MayS) a3);obtain⟨c2,c4,rfl,a9,b0⟩:=F;obtain⟨c3,c5,rfl,b1,a7⟩:=z;obtain⟨T,g⟩:∃T,T=yes (MayS x):=⟨_,rfl⟩;rw[<-g];rw[di (sJ (x:=x) G)] at g;obtain⟨Y,K⟩:∃i:Prop,i=(∀c,c∈x.x->MayX c):=⟨_,rfl⟩;try rw[<-K] at g
 rw[<-K] at f;obtain⟨a0,E⟩:∃i:Prop,i=(x.name.size=0):=⟨_,rfl⟩;try rw[<-E] at g
 obtain⟨Z,D⟩:∃i:Prop,i=(x.x.length=0):=⟨_,rfl⟩;try rw[<-D] at g
 obtain⟨X,J⟩:∃i:Prop,i=(∀c,c∈x.l->MayS c):=⟨_,rfl⟩;try rw[<-J] at g
 rw[<-J] at k;have r:=Hd g;clear L t M N R a8 O Q b2 b3 g a9 b0 b1;rw[G] at a2 a4⊢;generalize x.name=nm at*;generalize x.x=fx at*;generalize x.l=fl at*;clear G a6 V W a7;by_cases n:Y
 ·have q:=Hd n;rw[yes_iff.2 n] at f;clear n;by_cases h:a0
  ·have u:=Hd h;rw[E] at h;have a5:=fB h;clear h;by_cases m:X
   ·have A:=Hd m;rw[yes_iff.2 m] at k;clear m;by_cases p:Z
    ·have H:=Hd p;rw[D] at p;have a1:((fx.length:Int)==0)=true:=beq_iff_eq.2 zO;clear p;go_enter func177,ntmps177;go_wp2_with (first|(go_at_call 173;refine(f.o.at_ _).mono ?_;rintro _ _ ⟨rfl,e,rfl⟩)|(go_at_call 176;refine(k.o.at_ _).mono ?_;rintro _ _ ⟨rfl,e,rfl⟩))
     all_goals
      go_ret;refine⟨?_,b.trans (ag _)⟩;rw[r.o];refine congrArg (λd=>Ending.returned (Value.bool d)) ?_;rw[Bool.eq_iff_iff,yes_iff];simp[q.o,u.o,A.o,H.o]
    ·have H:=Hd p;rw[D] at p;have a1:((fx.length:Int)==0)=false:=beq_eq_false_iff_ne.2 zO;clear p;go_enter func177,ntmps177;go_wp2_with (first|(go_at_call 173;refine(f.o.at_ _).mono ?_;rintro _ _ ⟨rfl,e,rfl⟩)|(go_at_call 176;refine(k.o.at_ _).mono ?_;rintro _ _ ⟨rfl,e,rfl⟩))
     all_goals
      go_ret;refine⟨?_,b.trans (ag _)⟩;rw[r.o];refine congrArg (λd=>Ending.returned (Value.bool d)) ?_;rw[Bool.eq_iff_iff,yes_iff];simp[q.o,u.o,A.o,H.o]
   ·have A:=Hd m;rw[yes_no.2 m] at k;clear m;go_enter func177,ntmps177;go_wp2_with (first|(go_at_call 173;refine(f.o.at_ _).mono ?_;rintro _ _ ⟨rfl,e,rfl⟩)|(go_at_call 176;refine(k.o.at_ _).mono ?_;rintro _ _ ⟨rfl,e,rfl⟩))
    all_goals
     go_ret;refine⟨?_,b.trans (ag _)⟩;rw[r.o];refine congrArg (λd=>Ending.returned (Value.bool d)) ?_;rw[Bool.eq_iff_iff,yes_iff];simp[q.o,u.o,A.o]
  ·have u:=Hd h;rw[E] at h;have a5:=fw h;clear h;go_enter func177,ntmps177;go_wp2_with (first|(go_at_call 173;refine(f.o.at_ _).mono ?_;rintro _ _ ⟨rfl,e,rfl⟩))
   all_goals
    go_ret;refine⟨?_,b.trans (ag _)⟩;rw[r.o];refine congrArg (λd=>Ending.returned (Value.bool d)) ?_;rw[Bool.eq_iff_iff,yes_iff];simp[q.o,u.o]
 ·have q:=Hd n;rw[yes_no.2 n] at f;clear n;go_enter func177,ntmps177;go_wp2_with (first|(go_at_call 173;refine(f.o.at_ _).mono ?_;rintro _ _ ⟨rfl,e,rfl⟩))
  all_goals
   go_ret;refine⟨?_,b.trans (ag _)⟩;rw[r.o];refine congrArg (λd=>Ending.returned (Value.bool d)) ?_;rw[Bool.eq_iff_iff,yes_iff];simp[q.o]
theorem tB(B:Nat)(x:S)(G:x.op=6)(N:eB B x.l)(O:fU B x.l)(T:∀V,V∈x.x->VX V)(R:x.name.size<4294967281)(Q:ao x<=65536):eT B x:=by
 intro w b6 u M z;obtain⟨I,y,rfl,F,A⟩:=RS_iff.1 M;have a7:1+aa al x.x+aa ao x.l<=65536:=by rw[<-bW];exact Q
 have b9:=aw al x.x cR;have b8:=aw ao x.l da;have b1:=F.oneCell;have b2:=A.oneCell;obtain⟨t,b7,a4,b,c1,a2,b3,b4,b5⟩:=en w (.int .i64 x.op) (.string x.name) I y 177;have D:B<=t.heap.size:=ad z b.size
 have f:=Hd (show ECalls Tryz.prog 173 #[I,.func (.func 135) #[] #[]] t (.bool (yes (∀c,c∈x.x->MayX c))) from
  λk a=>fT B x.x zO T k I (u.ext (b.trans a)) (F.extRX (b.trans a) z) (ad D a.size))
 have h:=Hd (show ECalls Tryz.prog 176 #[y,.func (.func 177) #[] #[]] t (.bool (yes (∀c,c∈x.l->MayS c))) from
  λk a=>N k y (u.ext (b.trans a)) (A.extRS (b.trans a) z) (ad D a.size))
 have W:=Hd (show ECalls Tryz.prog 199 #[y] t (.bool (yes (ef x.l))) from
  λk a=>O k y (u.ext (b.trans a)) (A.extRS (b.trans a) z) (ad D a.size))
 have i:=Hd (show ECalls Tryz.prog 134 #[.string x.name] t (.bool (dT x.name)) from λk a=>eN x.name k ((u.ext (b.trans a)).lib) R);have a5:=Hd (λa3:x.l.length=0=>gC (P:=MayS) a3);obtain⟨c2,c4,rfl,a8,a9⟩:=F;obtain⟨c3,c5,rfl,b0,a6⟩:=A;obtain⟨U,g⟩:∃U,U=yes (MayS x):=⟨_,rfl⟩;rw[<-g];rw[di (sK (x:=x) G)] at g;obtain⟨Z,L⟩:∃j:Prop,j=(∀c,c∈x.x->MayX c):=⟨_,rfl⟩;try rw[<-L] at g
 rw[<-L] at f;obtain⟨Y,K⟩:∃j:Prop,j=(bn x.name):=⟨_,rfl⟩;try rw[<-K] at g
 rw[<-it] at i;rw[<-K] at i;obtain⟨a0,E⟩:∃j:Prop,j=(x.x.length=2):=⟨_,rfl⟩;try rw[<-E] at g
 obtain⟨X,J⟩:∃j:Prop,j=(∀c,c∈x.l->MayS c):=⟨_,rfl⟩;try rw[<-J] at g
 rw[<-J] at h;have s:=Hd g;clear M u N O T a7 Q R b1 b2 g a8 a9 b0;rw[G] at a2 a4⊢;generalize x.name=nm at*;generalize x.x=fx at*;generalize x.l=fl at*;clear G a5 W a6;by_cases p:Z
 ·have r:=Hd p;rw[yes_iff.2 p] at f;clear p;by_cases m:X
  ·have v:=Hd m;rw[yes_iff.2 m] at h;clear m;by_cases n:Y
   ·have C:=Hd n;rw[yes_iff.2 n] at i;clear n;by_cases q:a0
    ·have H:=Hd q;rw[E] at q;have a1:((fx.length:Int)==2)=true:=beq_iff_eq.2 zO;have c0:0<fx.length:=by omega
     clear q;go_enter func177,ntmps177;go_wp2_with (first|(go_at_call 173;refine(f.o.at_ _).mono ?_;rintro _ _ ⟨rfl,e,rfl⟩)|(go_at_call 176;refine(h.o.at_ _).mono ?_;rintro _ _ ⟨rfl,e,rfl⟩)|(go_at_call 134;refine(i.o.at_ _).mono ?_;rintro _ _ ⟨rfl,e,rfl⟩))
     all_goals
      go_ret;refine⟨?_,b.trans (ag _)⟩;rw[s.o];refine congrArg (λd=>Ending.returned (Value.bool d)) ?_;rw[Bool.eq_iff_iff,yes_iff];simp[r.o,C.o,v.o,H.o]
    ·have H:=Hd q;rw[E] at q;have a1:((fx.length:Int)==2)=false:=beq_eq_false_iff_ne.2 zO;clear q;go_enter func177,ntmps177;go_wp2_with (first|(go_at_call 173;refine(f.o.at_ _).mono ?_;rintro _ _ ⟨rfl,e,rfl⟩)|(go_at_call 176;refine(h.o.at_ _).mono ?_;rintro _ _ ⟨rfl,e,rfl⟩)|(go_at_call 134;refine(i.o.at_ _).mono ?_;rintro _ _ ⟨rfl,e,rfl⟩))
     all_goals
      go_ret;refine⟨?_,b.trans (ag _)⟩;rw[s.o];refine congrArg (λd=>Ending.returned (Value.bool d)) ?_;rw[Bool.eq_iff_iff,yes_iff];simp[r.o,C.o,v.o,H.o]
   ·have C:=Hd n;rw[yes_no.2 n] at i;clear n;go_enter func177,ntmps177;go_wp2_with (first|(go_at_call 173;refine(f.o.at_ _).mono ?_;rintro _ _ ⟨rfl,e,rfl⟩)|(go_at_call 176;refine(h.o.at_ _).mono ?_;rintro _ _ ⟨rfl,e,rfl⟩)|(go_at_call 134;refine(i.o.at_ _).mono ?_;rintro _ _ ⟨rfl,e,rfl⟩))
    all_goals
     go_ret;refine⟨?_,b.trans (ag _)⟩;rw[s.o];refine congrArg (λd=>Ending.returned (Value.bool d)) ?_;rw[Bool.eq_iff_iff,yes_iff];simp[r.o,C.o,v.o]
  ·have v:=Hd m;rw[yes_no.2 m] at h;clear m;go_enter func177,ntmps177;go_wp2_with (first|(go_at_call 173;refine(f.o.at_ _).mono ?_;rintro _ _ ⟨rfl,e,rfl⟩)|(go_at_call 176;refine(h.o.at_ _).mono ?_;rintro _ _ ⟨rfl,e,rfl⟩))
   all_goals
    go_ret;refine⟨?_,b.trans (ag _)⟩;rw[s.o];refine congrArg (λd=>Ending.returned (Value.bool d)) ?_;rw[Bool.eq_iff_iff,yes_iff];simp[r.o,v.o]
 ·have r:=Hd p;rw[yes_no.2 p] at f;clear p;go_enter func177,ntmps177;go_wp2_with (first|(go_at_call 173;refine(f.o.at_ _).mono ?_;rintro _ _ ⟨rfl,e,rfl⟩))
  all_goals
   go_ret;refine⟨?_,b.trans (ag _)⟩;rw[s.o];refine congrArg (λd=>Ending.returned (Value.bool d)) ?_;rw[Bool.eq_iff_iff,yes_iff];simp[r.o]
theorem AQ(B:Nat)(l:List S)(Y:∀x,x∈l->eB B x.l)(a2:∀x,x∈l->∀f,f∈x.x->VX f)(d9:aa ao l<=65536):fU B l:=by
 intro w v X a8 E;obtain⟨b6,c4,rfl,c8,a1⟩:=a8;have N:=Hd Y;have Q:=Hd a2;have O:=Hd X;have d3:=aw ao l da;clear Y a2 X;go_enter func199,ntmps199;go_wp2_with fail
 go_loopw [7] (λd wr=>∃a:Nat,a<=l.length/\d=.int .i64 a/\(∀(d:Nat) (hi:d<l.length),d<a->MayArm (d+1=l.length) l[d])/\Ext w wr) (λd _=>l.length - (intOf d).toNat)
 case atStart=>exact⟨0,aA _,rfl,λd _ b=>by omega,af _⟩
 case round=>
  obtain⟨a,d1,rfl,z,C⟩:=hrel;by_cases u:a<l.length
  ·have Z:=Hd (N.o l[a] (an u));have P:=Hd (Q.o l[a] (an u));have d6:=ay ao l l[a] (an u);have d8:=bW l[a];have a3:=λ(b:MayArm (a+1=l.length) l[a]) (d:Nat) (hi:d<l.length) (d0:d<a+1)=>show MayArm (d+1=l.length) l[d] by
    by_cases e:d=a
    ·subst e;exact b
    ·exact z d hi zO
   have a0:=λ(b:¬MayArm (a+1=l.length) l[a])=>yes_no.2 (λ(y:ef l)=>b (y.2 a u))
   obtain⟨b9,o,f5,f6,K,L,rfl,c7,V,U,e4,e5,e6,e7⟩:=a1.open4 u;obtain⟨b7,b8,a7,W,F⟩:=RS_iff.1 V;cases a7;have b2:=Hd (λf (r:f∈l[a].x)=>ay al l[a].x f r);have d4:=aw al l[a].x cR;have R:=Hd (λb=>a3 (MayArm_iff.2 b));have n:=Hd (λ(b:¬_)=>a0 (λy=>b (MayArm_iff.1 y)));obtain⟨e0,e1,e2,e3⟩:=(U.ext C).get4;obtain⟨D,c5,c6,b5,d7,c0,c1,c2,c3⟩:=en wr (.int .i64 l[a].op) (.string l[a].name) K L 177;have g:=C.trans b5;have T:B<=D.heap.size:=ad E g.size
   have i:=Hd (show ECalls Tryz.prog 173 #[K,.func (.func 135) #[] #[]] D (.bool (yes (∀A,A∈l[a].x->MayX A))) from
    λM p=>fT B l[a].x zO P.o M K (O.o.ext (g.trans p)) (W.extRX (g.trans p) E) (ad T p.size))
   have h:=Hd (show ECalls Tryz.prog 176 #[L,.func (.func 177) #[] #[]] D (.bool (yes (∀A,A∈l[a].l->MayS A))) from
    λM p=>Z.o M L (O.o.ext (g.trans p)) (F.extRS (g.trans p) E) (ad T p.size))
   have f4:=F.oneCell;obtain⟨e8,e9,rfl,b3,b4⟩:=W;clear a3 a0 z V F a1 b3 b4 U Z P b2 N Q;generalize l[a].op=f0 at*;generalize l[a].name=f1 at*;generalize l[a].x=f2 at*;generalize l[a].l=f3 at*;generalize ao l[a]=sy at*;by_cases t:f0=4
   ·have a6:(f0==4)=true:=beq_iff_eq.2 t;have a4:=Hd t;clear t;by_cases q:f1.size=0
    ·have b0:=fB q;have a5:=Hd q;clear q;by_cases r:f2.length=0
     ·have a9:((f2.length:Int)==0)=true:=beq_iff_eq.2 zO;have s:=Hd r;clear r;by_cases m:a+1=l.length
      ·have G:((a:Int)+1==(l.length:Int))=true:=beq_iff_eq.2 zO;have I:=Hd (show(f2.length=0↔a+1=l.length) from⟨λ_=>m,λ_=>s.o⟩);clear m;by_cases k:∀f,f∈f2->MayX f
       ·rw[yes_iff.2 k] at i;have J:=Hd k;clear k;by_cases j:∀f,f∈f3->MayS f
        ·rw[yes_iff.2 j] at h;have H:=Hd (R.o ⟨a4.o,a5.o,I.o,J.o,j⟩);clear j;go_wp2_with (first|(go_at_call 173;refine(i.o.at_ _).mono ?_;rintro _ _ ⟨rfl,e,rfl⟩)|(go_at_call 176;refine(h.o.at_ _).mono ?_;rintro _ _ ⟨rfl,e,rfl⟩))
         go_roundw;case rel=>exact⟨a+1,zO,zN,H.o,g.trans (ag _)⟩
         case measure=>simp[intOf];omega
        ·rw[yes_no.2 j] at h;have c:=Hd (n.o (λb=>j b.2.2.2.2));clear j;go_wp2_with (first|(go_at_call 173;refine(i.o.at_ _).mono ?_;rintro _ _ ⟨rfl,e,rfl⟩)|(go_at_call 176;refine(h.o.at_ _).mono ?_;rintro _ _ ⟨rfl,e,rfl⟩))
         go_ret;exact⟨by rw[c.o];rfl,g.trans (ag _)⟩
       ·rw[yes_no.2 k] at i;have c:=Hd (n.o (λb=>k b.2.2.2.1));clear k;go_wp2_with (first|(go_at_call 173;refine(i.o.at_ _).mono ?_;rintro _ _ ⟨rfl,e,rfl⟩)|(go_at_call 176;refine(h.o.at_ _).mono ?_;rintro _ _ ⟨rfl,e,rfl⟩))
        go_ret;exact⟨by rw[c.o];rfl,g.trans (ag _)⟩
      ·have G:((a:Int)+1==(l.length:Int))=false:=beq_eq_false_iff_ne.2 zO;have c:=Hd (n.o (λb=>m (b.2.2.1.1 s.o)));clear m;go_wp2_with (first|(go_at_call 173;refine(i.o.at_ _).mono ?_;rintro _ _ ⟨rfl,e,rfl⟩)|(go_at_call 176;refine(h.o.at_ _).mono ?_;rintro _ _ ⟨rfl,e,rfl⟩))
       go_ret;exact⟨by rw[c.o];rfl,g.trans (ag _)⟩
     ·have a9:((f2.length:Int)==0)=false:=beq_eq_false_iff_ne.2 zO;have s:=Hd r;clear r;by_cases m:a+1=l.length
      ·have G:((a:Int)+1==(l.length:Int))=true:=beq_iff_eq.2 zO;have c:=Hd (n.o (λb=>s.o (b.2.2.1.2 m)));clear m;go_wp2_with (first|(go_at_call 173;refine(i.o.at_ _).mono ?_;rintro _ _ ⟨rfl,e,rfl⟩)|(go_at_call 176;refine(h.o.at_ _).mono ?_;rintro _ _ ⟨rfl,e,rfl⟩))
       go_ret;exact⟨by rw[c.o];rfl,g.trans (ag _)⟩
      ·have G:((a:Int)+1==(l.length:Int))=false:=beq_eq_false_iff_ne.2 zO;have I:=Hd (show(f2.length=0↔a+1=l.length) from⟨λb=>(s.o b).elim,λb=>(m b).elim⟩);clear m;by_cases k:∀f,f∈f2->MayX f
       ·rw[yes_iff.2 k] at i;have J:=Hd k;clear k;by_cases j:∀f,f∈f3->MayS f
        ·rw[yes_iff.2 j] at h;have H:=Hd (R.o ⟨a4.o,a5.o,I.o,J.o,j⟩);clear j;go_wp2_with (first|(go_at_call 173;refine(i.o.at_ _).mono ?_;rintro _ _ ⟨rfl,e,rfl⟩)|(go_at_call 176;refine(h.o.at_ _).mono ?_;rintro _ _ ⟨rfl,e,rfl⟩))
         go_roundw;case rel=>exact⟨a+1,zO,zN,H.o,g.trans (ag _)⟩
         case measure=>simp[intOf];omega
        ·rw[yes_no.2 j] at h;have c:=Hd (n.o (λb=>j b.2.2.2.2));clear j;go_wp2_with (first|(go_at_call 173;refine(i.o.at_ _).mono ?_;rintro _ _ ⟨rfl,e,rfl⟩)|(go_at_call 176;refine(h.o.at_ _).mono ?_;rintro _ _ ⟨rfl,e,rfl⟩))
         go_ret;exact⟨by rw[c.o];rfl,g.trans (ag _)⟩
       ·rw[yes_no.2 k] at i;have c:=Hd (n.o (λb=>k b.2.2.2.1));clear k;go_wp2_with (first|(go_at_call 173;refine(i.o.at_ _).mono ?_;rintro _ _ ⟨rfl,e,rfl⟩)|(go_at_call 176;refine(h.o.at_ _).mono ?_;rintro _ _ ⟨rfl,e,rfl⟩))
        go_ret;exact⟨by rw[c.o];rfl,g.trans (ag _)⟩
    ·have b0:=fw q;have c:=Hd (n.o (λb=>q b.2.1));clear q;go_wp2_with (first|(go_at_call 173;refine(i.o.at_ _).mono ?_;rintro _ _ ⟨rfl,e,rfl⟩)|(go_at_call 176;refine(h.o.at_ _).mono ?_;rintro _ _ ⟨rfl,e,rfl⟩))
     go_ret;exact⟨by rw[c.o];rfl,g.trans (ag _)⟩
   ·have a6:(f0==4)=false:=beq_eq_false_iff_ne.2 t;have c:=Hd (n.o (λb=>t b.1));go_wp2_with (first|(go_at_call 173;refine(i.o.at_ _).mono ?_;rintro _ _ ⟨rfl,e,rfl⟩)|(go_at_call 176;refine(h.o.at_ _).mono ?_;rintro _ _ ⟨rfl,e,rfl⟩))
    go_ret;exact⟨by rw[c.o];rfl,g.trans (ag _)⟩
  ·have b1:a=l.length:=by omega
   subst b1;by_cases d2:l.length=0
   ·have c:=Hd (yes_no.2 (λ(y:ef l)=>by have:=y.1;omega));have d5:(l.length:Int)=0:=by omega
    clear z;go_wp2_with fail
    go_ret;exact⟨by rw[c.o];rfl,C⟩
   ·have c:=Hd (yes_iff.2 (show ef l from⟨zO,λd hi=>z d hi hi⟩));have c9:decide (0<l.length)=true:=decide_eq_true zO;clear z;go_wp2_with fail
    go_ret;exact⟨by rw[c.o];rfl,C⟩
theorem zY(B:Nat)(x:S):VS x->ao x<=65536->eT B x/\eB B x.l:=by
 induction x using S.ind with
 |h x ih=>
  intro q d;obtain⟨f,g,p⟩:=VS_iff.1 q;have s:1+aa al x.x+aa ao x.l<=65536:=by rw[<-bW];exact d
  have r:=aw ao x.l da;have o:∀a,a∈x.l->eT B a/\eB B a.l:=λa b=>ih a b (p a b) (by have:=ay ao x.l a b;omega)
  have c:eB B x.l:=oe B x.l (λa b=>(o a b).1) zO;have e:fU B x.l:=AQ B x.l (λa b=>(o a b).2) (λa b=>(VS_iff.1 (p a b)).2.1) zO;refine⟨?_,c⟩;by_cases i:x.op=1
  ·exact tv B x i c e g f d
  by_cases j:x.op=2
  ·exact tw B x j c e g f d
  by_cases k:x.op=3
  ·exact tx B x k c e g f d
  by_cases m:x.op=5
  ·exact tz B x m c e g f d
  by_cases n:x.op=6
  ·exact tB B x n c e g f d
  exact tu B x i j k m n c e g f d
theorem xK(B:Nat)(x:S)(b:VS x)(a:ao x<=65536):eT B x:=(zY B x b a).1
theorem xL(B:Nat)(l:List S)(d:aa ao l<=65536)(c:∀a,a∈l->VS a):eB B l:=
 oe B l (λa b=>xK B a (c a b) (by have:=ay ao l a b;omega)) (by have:=aw ao l da;omega)
theorem Bv:Enters Tryz.prog 137:=⟨λ_ _=>by kernel_rfl⟩
theorem Bz:Enters Tryz.prog 133:=⟨λ_ _=>by kernel_rfl⟩
theorem Bw:Enters Tryz.prog 140:=⟨λ_ _=>by kernel_rfl⟩
theorem Bx:Enters Tryz.prog 91:=⟨λ_ _=>by kernel_rfl⟩
theorem xE(B:Nat)(x:Bnd)(w:World)(g:List Value)(h:Tabs w)(y:RB w B x g)(l:B<=w.heap.size)(p:au x<=65536)(j:VB x):
 Calls Tryz.prog 137 #[.agg g.toArray] w λe d=>e=.returned (.bool (yes (cq x)))/\Ext w d:=by
 have z:1+al x.x<=65536:=p;obtain⟨g,rfl,i⟩:=y;have k:=Hd i;obtain⟨v,rfl,m⟩:=RX_iff.1 i;have K:=m.oneCell;obtain⟨f,I,J,c,L,A,C,D,E,F,G,H⟩:=kl w (.string x.name) (.int .i64 x.x.op) (.string x.x.name) (.int .i64 x.x.n) (.int .i64 x.x.w) (.int .u64 x.x.v) v 45;have u:B<=f.heap.size:=ad l c.size
 have r:=Hd (show ECalls Tryz.prog 134 #[.string x.name] f (.bool (yes (bn x.name))) from
  λd b=>by rw[it];exact eN x.name d ((h.ext (c.trans b)).lib) j.1)
 have s:=Hd (show ECalls Tryz.prog 135 #[.agg #[.int .i64 x.x.op,.string x.x.name,.int .i64 x.x.n,.int .i64 x.x.w,.int .u64 x.x.v,v]] f (.bool (yes (MayX x.x))) from
  λd b=>jX B x.x d _ (h.ext (c.trans b)) (k.o.ext (c.trans b) l) (ad u b.size) zO j.2)
 obtain⟨q,a⟩:∃q,q=yes (cq x):=⟨_,rfl⟩;rw[<-a];unfold cq at a;rw[hT] at a;have t:=Hd a;clear h p j z a m i k;generalize yes (bn x.name)=b1 at*;generalize yes (MayX x.x)=b2 at*;cases b1
 all_goals
  go_in
  go_wp2_with (first
   |(go_at_call 134;refine(r.o.at_ _).mono ?_;rintro _ _ ⟨rfl,e,rfl⟩)
   |(go_at_call 135;refine(s.o.at_ _).mono ?_;rintro _ _ ⟨rfl,e,rfl⟩))
  all_goals
   go_ret;exact⟨by rw[t.o];rfl,c.trans (ag _)⟩
theorem xI(B:Nat)(x:Prt)(w:World)(g:List Value)(h:Tabs w)(y:RP w B x g)(l:B<=w.heap.size)(p:aJ x<=65536)(j:VP x):
 Calls Tryz.prog 133 #[.agg g.toArray] w λe d=>e=.returned (.bool (yes (fV x)))/\Ext w d:=by
 have z:1+al x.w<=65536:=p;obtain⟨g,rfl,i⟩:=y;have k:=Hd i;obtain⟨v,rfl,m⟩:=RX_iff.1 i;have L:=m.oneCell;obtain⟨f,J,K,c,M,A,C,D,E,F,G,H,I⟩:=ny w (.string x.name) (.bool x.o) (.int .i64 x.w.op) (.string x.w.name) (.int .i64 x.w.n) (.int .i64 x.w.w) (.int .u64 x.w.v) v 42;have u:B<=f.heap.size:=ad l c.size
 have r:=Hd (show ECalls Tryz.prog 134 #[.string x.name] f (.bool (yes (bn x.name))) from
  λd b=>by rw[it];exact eN x.name d ((h.ext (c.trans b)).lib) j.1)
 have s:=Hd (show ECalls Tryz.prog 135 #[.agg #[.int .i64 x.w.op,.string x.w.name,.int .i64 x.w.n,.int .i64 x.w.w,.int .u64 x.w.v,v]] f (.bool (yes (MayX x.w))) from
  λd b=>jX B x.w d _ (h.ext (c.trans b)) (k.o.ext (c.trans b) l) (ad u b.size) zO j.2)
 obtain⟨q,a⟩:∃q,q=yes (fV x):=⟨_,rfl⟩;rw[<-a];unfold fV at a;rw[hT] at a;have t:=Hd a;clear h p j z a m i k;generalize yes (bn x.name)=b1 at*;generalize yes (MayX x.w)=b2 at*;cases b1
 all_goals
  go_in
  go_wp2_with (first
   |(go_at_call 134;refine(r.o.at_ _).mono ?_;rintro _ _ ⟨rfl,e,rfl⟩)
   |(go_at_call 135;refine(s.o.at_ _).mono ?_;rintro _ _ ⟨rfl,e,rfl⟩))
  all_goals
   go_ret;exact⟨by rw[t.o];rfl,c.trans (ag _)⟩
theorem qv(s:ByteArray)(b:Bool)(w:World)(j:Tabs w)(l:s.size<4294967281):
 Calls Tryz.prog 174 #[.string s,.bool b] w λe a=>e=.returned (.bool (yes (cV (b=true) s)))/\Ext w a:=by
 obtain⟨n,k⟩:=ae (af w)
 have f:=Hd (show ECalls Tryz.prog 134 #[.string s] w (.bool (yes (bn s))) from
  λa t=>by rw[it];exact eN s a ((j.ext t).lib) l)
 obtain⟨h,g⟩:∃h,h=yes (cV (b=true) s):=⟨_,rfl⟩;rw[<-g];have m:=Hd g;clear j g l;suffices i:Calls Tryz.prog 174 #[.string s,.bool b] n.w λe a=>e=.returned (.bool h)/\Ext w a by rw[<-k] at i;exact i
 clear k;by_cases d:bn s
 all_goals
  first|rw[yes_iff.2 d] at f|rw[yes_no.2 d] at f
  have v:=Hd d;clear d;by_cases c:s.size=0
  all_goals
   first|have r:=fB c|have r:=fw c
   have u:=Hd c;clear c;cases b
   all_goals
    go_in
    go_wp2_with (go_at_call 134;refine(f.o.at_ _).mono ?_;rintro _ _ ⟨rfl,e,rfl⟩)
    all_goals
     go_ret;refine⟨?_,ag _⟩;rw[m.o];refine congrArg (λb=>Ending.returned (Value.bool b)) ?_;rw[Bool.eq_iff_iff,yes_iff];unfold cV;have p:=v.o;have q:=u.o;simp[p,q]
