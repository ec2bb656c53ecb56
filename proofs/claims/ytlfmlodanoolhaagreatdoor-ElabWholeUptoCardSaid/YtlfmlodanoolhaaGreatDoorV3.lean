import Derived.RangeFuncNested
import Derived.RangeFuncBound
import Derived.RangeFuncCalls
import Derived.Test.YtlfmlodanoolhaaGreatDoorV1
set_option linter.all false
set_option maxRecDepth 200000
set_option maxHeartbeats 0
namespace Go.Proofs.YtlfmlodanoolhaaGreatDoor
open Go Go.RowKit
def eo(t:TypeId):Prop:=t=9\/t=104
def nG:Obj->Prop
 |.cells _ t _=>¬eo t
 |_=>True
theorem yt{o:Obj}(h:o.isCells=false):nG o:=by cases o<;>first|exact trivial|cases h
def AbM{e:Type}(B:Nat)(c:e->World->Prop):Prop:=∀s a d row,c s a->a.grownBy d row->(∀b,row=some b->B<=b/\∃o:Obj,a.heap[b]? =some o/\nG o)->c s d
theorem AbM.alloc{b:Type}{B:Nat}{a:b->World->Prop}(h:AbM B a){s:b}{W:World}(o:Obj)(c:a s W):a s (W.alloc o):=h s W _ none c (World.grownBy_alloc W o none) (λd e=>by cases e)
theorem AbM.putObj{c:Type}{B:Nat}{a:c->World->Prop}(h:AbM B a){s:c}{W:World}{l:Nat}{o:Obj}(b:Obj)(i:a s W)(d:B<=l)(f:W.heap[l]? =some o)(g:o.isCells=false):a s (W.putObj l b):=
 h s W _ (some l) i (grownBy_putObj' W l b) (λj e=>by cases e;exact⟨d,o,f,yt g⟩)
theorem AbM.later{l:Type}{B a:Nat}{b:l->World->Prop}(h:AbM B b)(i:B<=a):AbM a b:=λs f g row k j c=>h s f g row k j (λd e=>⟨ad i (c d e).1,(c d e).2⟩)
structure Kq(B n:Nat)(W W':World):Prop where
 below:Below B W W'
 size:W.heap.size<=W'.heap.size
 cells:∀(k:Nat) (cs:Array Value) (t:TypeId) (fr:Nat×Nat),W.heap[k]? =some (.cells cs t fr)->¬eo t->W'.heap[k]? =some (.cells cs t fr)
 rest:∀(k:Nat) (o:Obj),W.heap[k]? =some o->o.isCells=false->n<=k->W'.heap[k]? =some o
theorem Kq.refl(B n:Nat)(W:World):Kq B n W W:=⟨Below.refl _ _,ac _,λ_ _ _ _ a _=>a,λ_ _ a _ _=>a⟩
theorem Kq.trans{B n:Nat}{b c d:World}(h:Kq B n b c)(k:Kq B n c d):Kq B n b d:=
 ⟨h.below.trans k.below,ad h.size k.size,λa e l f hi j=>k.cells a e l f (h.cells a e l f hi j) j,λa o hi i g=>k.rest a o (h.rest a o hi i g) i g⟩
theorem Kq.later{B n b:Nat}{W a:World}(h:Kq B n W a)(d:n<=b):Kq B b W a:=⟨h.below,h.size,h.cells,λg o c f e=>h.rest g o c f (ad d e)⟩
theorem Kq.grown{B n:Nat}{W i:World}{row:Option Nat}(c:W.grownBy i row)(r:B<=W.heap.size)(g:∀d,row=some d->B<=d/\(∀o,W.heap[d]? =some o->(∃j h k,o=.cells j h k/\eo h)\/o.isCells=false/\d<n)):Kq B n W i:=by
 refine⟨(Below.refl B W).grown c r (λb e=>(g b e).1),c.size,λb j h k a t=>?_,λb o a s w=>?_⟩
 ·refine(c.block b (y7n.1 a).1 (λe=>?_)).trans a;rcases(g b e.symm).2 _ a with⟨m,u,p,f,l⟩|⟨q,-⟩
  ·cases f;exact t l
  ·cases q
 ·refine(c.block b (y7n.1 a).1 (λe=>?_)).trans a;rcases(g b e.symm).2 _ a with⟨m,u,p,f,l⟩|⟨-,v⟩
  ·subst f;cases s
  ·omega
theorem Kq.alloc{B n:Nat}(W:World)(o:Obj)(a:B<=W.heap.size):Kq B n W (W.alloc o):=Kq.grown (World.grownBy_alloc W o none) a (λb e=>by cases e)
theorem Kq.ext{B n:Nat}{W a:World}(h:Ext W a)(b:B<=W.heap.size):Kq B n W a:=Kq.grown (row:=none) ⟨h.os,h.tape,h.output,h.size,λd c _=>h.block d c⟩ b (λf e=>by cases e)
theorem Kq.cell{B n:Nat}{W a:World}(h:Kq B n W a){p:Addr}{t:TypeId}{c:List Value}(b:Blk W p.block t c)(ht:¬eo t):a.cell? p=W.cell? p:=
 ek ((h.cells _ _ _ _ b ht).trans b.symm)
theorem Kq.blk{B n:Nat}{W a:World}(h:Kq B n W a){g:Nat}{t:TypeId}{b:List Value}(c:Blk W g t b)(ht:¬eo t):Blk a g t b:=h.cells _ _ _ _ c ht
def nt{α:Type}(P:Program)(g:Nat)(lb:Array Value)(i:α->Array Value)(B:Nat)(S:List α->Prop)(h:Nat)(w0:World):Prop:=
 ∀(l:Nat) (b:List α->World->Prop) (a:World),Below w0.heap.size w0 a->AbM a.heap.size b->
  (∀pre x d,b pre d->pre.length<h->YieldAt Fence.wide 0 P l (i x) d λe c=>e=.returned (.bool true)/\b (pre++[x]) c/\Kq B a.heap.size d c)->
  b [] a->CallsIn Fence.wide 0 P g (#[.func (.yield l) #[] #[]]++lb) a λe c=>(∃v,e=.returned v)/\∃f,S f/\b f c/\Kq B a.heap.size a c
variable {P : Program}
theorem pz{α:Type}{g:Operand}{ps:Array Tmp}{assign body:Code}{Q:Exit->Act->World->Prop}{a:Act}{w:World}
 {gf:Nat} {lb:Array Value} (c4:a.eval g=.func (.func gf) #[] lb) (a9:Enters P gf)
 {y:α->Array Value} {B:Nat} {S:List α->Prop} {Z:Nat} {w0:World} (d5:nt P gf lb y B S Z w0) (a3:Below w0.heap.size w0 w) (b2:B<=w.heap.size) (d3:∀x,(y x).size=ps.size)
 (I:List α->World->Prop) (m:AbM w.heap.size I) (h0:I [] w) (u:α->Act->World->Prop) (b1:∀x d,OwnFrom w.heap.size (λ(_:Unit) b=>u x d b))
 (b7:∀(l:Nat) (pre:List α) (x:α) (b:World) (Y:Act->World->Prop),I pre b->(∀d j,Kq B w.heap.size b j->I pre j->u x d j->Y d j)->
   assign.wpIn (Fence.wide.inRound l) 0 P (Exit.then Y (λ_ _ _=>False)) {tmps:=(ps.zip (y x)).foldl (λE (d7,v)=>E.setIfInBounds d7 v) a.tmps,defers:=[]} b)
 (c0:∀(l:Nat) (pre:List α) (x:α) (d:Act) (b:World),w.heap.size<=l->(∃W,b.heap[l]? =some (.loop W))->I pre b->u x d b->pre.length<Z->
   body.wpIn (Fence.wide.inRound l) 0 P (λe _ j=>e=.normal/\Kq B w.heap.size b j/\I (pre++[x]) j) d b)
 (c2:∀(G:Nat) (F:List α) (b:World),w.heap.size<=G->S F->I F b->Kq B w.heap.size w b->b.heap[G]? =some (.deferred (some []))->Q .normal {a with defers:={target:=.collected G,args:=#[]}::a.defers} b):
 (Code.rangeFunc g ps assign body).wpIn Fence.wide 0 P Q a w:=by
 refine wpIn_rangeFunc ?_;intro fn c3;obtain⟨i,h⟩:∃i:LoopState->Loop,i=λd8=>{state:=d8,pending:=none,fn,tmps:=a.tmps,params:=ps,assign,body,defers:=w.heap.size}:=⟨_,rfl⟩
 obtain⟨c,k⟩:∃c,(w.alloc (.deferred (some []))).alloc (.loop (i .ready))=c:=⟨_,rfl⟩;have e3:c.heap.size=w.heap.size+2:=by rw[<-k];simp
 have b5:c.heap[w.heap.size+1]? =some (.loop (i .ready)):=by
  have:=World.alloc_heap_new (w.alloc (.deferred (some []))) (.loop (i .ready));rw[World.size_alloc,k] at this;exact this
 have b4:c.heap[w.heap.size]? =some (.deferred (some [])):=by
  rw[<-k];exact(Below.heap_alloc _ _ _ zS).trans (World.alloc_heap_new w _)
 have b3:I [] c:=by rw[<-k];exact m.alloc _ (m.alloc _ h0)
 have C:Kq B w.heap.size w c:=by rw[<-k];exact(Kq.alloc w _ b2).trans (Kq.alloc _ _ (by simp;omega))
 have b9:Below w0.heap.size w0 c:=by
  rw[<-k];exact a3.trans ((((Below.refl _ w).alloc (ac _) _).alloc zS _).mono a3.size)
 refine⟨w.heap.size+1,[{target:=.collected w.heap.size,args:=#[]}],c,{target:=.fn (.func gf) lb,args:=#[.func (.yield (w.heap.size+1)) #[] #[]]},c,gf,
  #[.func (.yield (w.heap.size+1)) #[] #[]]++lb,c,?_,?_,?_,?_,?_,?_⟩
 ·rw[<-k,h];exact run_enterLoop_outer _ _ _ _ _
 ·simp only[resolve,c4];simp[go_sem]
 ·intro e0 e1;trivial
 ·simp[invoke,go_sem,a9.o]
 ·intro b0;cases b0
 ·refine(d5 (w.heap.size+1) (λpre b=>I pre b/\b.heap[w.heap.size+1]? =some (.loop (i .ready))/\b.heap[w.heap.size]? =some (.deferred (some []))) c b9 ?_ ?_ ⟨b3,b5,b4⟩).mono ?_
  ·intro s X a8 row t J R;refine⟨m.later zO s X a8 row t.1 J R,?_,?_⟩
   ·exact(J.block _ (y7n.1 t.2.1).1 (λe=>by have:=(R _ e.symm).1;omega)).trans t.2.1
   ·exact(J.block _ (y7n.1 t.2.2).1 (λe=>by have:=(R _ e.symm).1;omega)).trans t.2.2
  ·rintro pre x b ⟨hi,q,K⟩ d1;have T:=run_yield (P:=P) (args:=y x) q (by rw[h];exact d3 x);rw[h] at T;refine⟨fn,_,assign,body,T,roundIn_of_wpIn c3 (b7 _ pre x b _ hi ?_)⟩;clear T;intro d H O c6 b8;have r:=O.rest _ _ q rfl zO;have c9:=O.rest _ _ K rfl (ac _);have L:w.heap.size+1<H.heap.size:=(y7n.1 r).1;refine⟨_,run_beginRound r (by rw[h]),?_⟩;obtain⟨f,n⟩:∃f,f=H.putObj (w.heap.size+1) (.loop {i .ready with state:=.busy}):=⟨_,rfl⟩;have a4:f.heap[w.heap.size+1]? =some (.loop {i .ready with state:=.busy}):=by rw[n];exact World.putObj_heap_same L
   have d0:f.heap[w.heap.size]? =some (.deferred (some [])):=by rw[n];exact(World.putObj_heap_other zO).trans c9
   have turn:∀(X:World) (o V:Obj),X.heap[w.heap.size+1]? =some o->o.isCells=false->Kq B c.heap.size X (X.putObj (w.heap.size+1) V):=λX o V M c1=>
    Kq.grown (grownBy_putObj' X _ V) (by have:=(y7n.1 M).1;omega) (λW e=>by
     cases e;refine⟨zO,λe4 a5=>.inr ⟨?_,zO⟩⟩;rw[M] at a5;cases a5;exact c1)
   have c7:I pre f:=by rw[n];exact m.putObj _ c6 zO r rfl
   have d6:u x d f:=by rw[n];exact(b1 x d).putObj (s:=()) _ b8 zO r rfl
   have d4:Kq B c.heap.size b f:=(O.later zO).trans (by rw[n];exact turn H _ _ r rfl);rw[<-n];refine wpIn_mono (c0 _ pre x d f zO ⟨_,a4⟩ c7 d6 d1) ?_;rintro e d9 a0 ⟨rfl,N,c5⟩;have A:=N.rest _ _ a4 rfl zO;have c8:=N.rest _ _ d0 rfl (ac _);have d2:w.heap.size+1<a0.heap.size:=(y7n.1 A).1;have p:=run_endRound (P:=P) none A;rw[h] at p;refine⟨_,_,p,rfl,⟨m.putObj _ c5 zO A rfl,?_,(World.putObj_heap_other zO).trans c8⟩,?_⟩
   ·rw[World.putObj_heap_same d2,h];rfl
   ·exact d4.trans ((N.later zO).trans (turn a0 _ _ A rfl))
  ·rintro e a7 ⟨⟨v,rfl⟩,F,b6,⟨hi,q,K⟩,D⟩;have p:=run_endLoop (P:=P) q (by rw[h];simp);rw[h] at p;refine⟨none,_,p,c2 _ F _ (ac _) b6 (m.putObj _ hi zO q rfl) ?_ ((World.putObj_heap_other zO).trans K)⟩;refine⟨?_,?_,λU a1 E a2 z a6=>?_,λU o z M e2=>?_⟩
   ·exact(C.below.trans D.below).grown (grownBy_putObj' a7 _ _) (by have:=C.size;have:=D.size;omega) (λW e=>by cases e;omega)
   ·have:=C.size;have:=D.size;simp;omega
   ·have L:=(y7n.1 z).1;exact(World.putObj_heap_other zO).trans (D.cells U a1 E a2 (C.cells U a1 E a2 z a6) a6)
   ·have L:=(y7n.1 z).1;omega
