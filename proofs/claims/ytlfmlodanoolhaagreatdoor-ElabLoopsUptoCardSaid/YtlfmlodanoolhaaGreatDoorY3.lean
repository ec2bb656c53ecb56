import Derived.RangeFuncNested
import Derived.RangeFuncBound
import Derived.RangeFuncCalls
import Derived.Test.YtlfmlodanoolhaaGreatDoorY1
set_option linter.all false
set_option maxRecDepth 200000
set_option maxHeartbeats 32000000
namespace Go.Proofs.YtlfmlodanoolhaaGreatDoor
open Go Go.RowKit
def eh(t:TypeId):Prop:=t=9\/t=104
def nJ:Obj->Prop
 |.cells _ t _=>¬eh t
 |_=>True
theorem vN{o:Obj}(h:o.isCells=false):nJ o:=by cases o<;>first|exact trivial|cases h
def AbM{e:Type}(B:Nat)(c:e->World->Prop):Prop:=∀s a d row,c s a->a.grownBy d row->(∀b,row=some b->B<=b/\∃o:Obj,a.heap[b]? =some o/\nJ o)->c s d
theorem AbM.alloc{b:Type}{B:Nat}{a:b->World->Prop}(h:AbM B a){s:b}{W:World}(o:Obj)(c:a s W):a s (W.alloc o):=h s W _ none c (World.grownBy_alloc W o none) (λd e=>by cases e)
theorem AbM.putObj{c:Type}{B:Nat}{a:c->World->Prop}(h:AbM B a){s:c}{W:World}{l:Nat}{o:Obj}(b:Obj)(i:a s W)(d:B<=l)(f:W.heap[l]? =some o)(g:o.isCells=false):a s (W.putObj l b):=
 h s W _ (some l) i (grownBy_putObj' W l b) (λj e=>by cases e;exact⟨d,o,f,vN g⟩)
theorem AbM.later{l:Type}{B a:Nat}{b:l->World->Prop}(h:AbM B b)(i:B<=a):AbM a b:=λs f g row k j c=>h s f g row k j (λd e=>⟨ad i (c d e).1,(c d e).2⟩)
structure Kq(B n:Nat)(W W':World):Prop where
 below:Below B W W'
 size:W.heap.size<=W'.heap.size
 cells:∀(k:Nat) (cs:Array Value) (t:TypeId) (fr:Nat×Nat),W.heap[k]? =some (.cells cs t fr)->¬eh t->W'.heap[k]? =some (.cells cs t fr)
 rest:∀(k:Nat) (o:Obj),W.heap[k]? =some o->o.isCells=false->n<=k->W'.heap[k]? =some o
theorem Kq.refl(B n:Nat)(W:World):Kq B n W W:=⟨Below.refl _ _,ac _,λ_ _ _ _ a _=>a,λ_ _ a _ _=>a⟩
theorem Kq.trans{B n:Nat}{b c d:World}(h:Kq B n b c)(k:Kq B n c d):Kq B n b d:=
 ⟨h.below.trans k.below,ad h.size k.size,λa e l f hi j=>k.cells a e l f (h.cells a e l f hi j) j,λa o hi i g=>k.rest a o (h.rest a o hi i g) i g⟩
theorem Kq.later{B n b:Nat}{W a:World}(h:Kq B n W a)(d:n<=b):Kq B b W a:=⟨h.below,h.size,h.cells,λg o c f e=>h.rest g o c f (ad d e)⟩
theorem Kq.grown{B n:Nat}{W i:World}{row:Option Nat}(c:W.grownBy i row)(r:B<=W.heap.size)(g:∀d,row=some d->B<=d/\(∀o,W.heap[d]? =some o->(∃j h k,o=.cells j h k/\eh h)\/o.isCells=false/\d<n)):Kq B n W i:=by
 refine⟨(Below.refl B W).grown c r (λb e=>(g b e).1),c.size,λb j h k a t=>?_,λb o a s w=>?_⟩
 ·refine(c.block b (y1w.1 a).1 (λe=>?_)).trans a;rcases(g b e.symm).2 _ a with⟨m,u,p,f,l⟩|⟨q,-⟩
  ·cases f;exact t l
  ·cases q
 ·refine(c.block b (y1w.1 a).1 (λe=>?_)).trans a;rcases(g b e.symm).2 _ a with⟨m,u,p,f,l⟩|⟨-,v⟩
  ·subst f;cases s
  ·omega
theorem Kq.alloc{B n:Nat}(W:World)(o:Obj)(a:B<=W.heap.size):Kq B n W (W.alloc o):=Kq.grown (World.grownBy_alloc W o none) a (λb e=>by cases e)
theorem Kq.ext{B n:Nat}{W a:World}(h:Ext W a)(b:B<=W.heap.size):Kq B n W a:=Kq.grown (row:=none) ⟨h.os,h.tape,h.output,h.size,λd c _=>h.block d c⟩ b (λf e=>by cases e)
theorem Kq.cell{B n:Nat}{W a:World}(h:Kq B n W a){p:Addr}{t:TypeId}{c:List Value}(b:Blk W p.block t c)(ht:¬eh t):a.cell? p=W.cell? p:=
 ef ((h.cells _ _ _ _ b ht).trans b.symm)
theorem Kq.blk{B n:Nat}{W a:World}(h:Kq B n W a){g:Nat}{t:TypeId}{b:List Value}(c:Blk W g t b)(ht:¬eh t):Blk a g t b:=h.cells _ _ _ _ c ht
def lJ{α:Type}(P:Program)(g:Nat)(lb:Array Value)(j:α->Array Value)(B:Nat)(S:List α->Prop)(i:Nat)(w0:World):Prop:=
 ∀(l:Nat) (b:List α->World->Prop) (a:World),Below w0.heap.size w0 a->AbM a.heap.size b->
  (∀f x d,b f d->f.length<i->YieldAt Fence.wide 0 P l (j x) d λe c=>e=.returned (.bool true)/\b (f++[x]) c/\Kq B a.heap.size d c)->
  b [] a->CallsIn Fence.wide 0 P g (#[.func (.yield l) #[] #[]]++lb) a λe c=>(∃v,e=.returned v)/\∃h,S h/\b h c/\Kq B a.heap.size a c
variable {P : Program}
theorem nF{α:Type}{g:Operand}{F:Array Tmp}{assign body:Code}{Q:Exit->Act->World->Prop}{a:Act}{w:World}
 {gf:Nat} {lb:Array Value} (c6:a.eval g=.func (.func gf) #[] lb) (b1:Enters P gf)
 {z:α->Array Value} {B:Nat} {S:List α->Prop} {a1:Nat} {w0:World} (d7:lJ P gf lb z B S a1 w0) (a5:Below w0.heap.size w0 w) (b4:B<=w.heap.size) (d5:∀x,(z x).size=F.size)
 (I:List α->World->Prop) (n:AbM w.heap.size I) (h0:I [] w) (y:α->Act->World->Prop) (b3:∀x f,OwnFrom w.heap.size (λ(_:Unit) b=>y x f b))
 (b9:∀(l:Nat) (d:List α) (x:α) (b:World) (a0:Act->World->Prop),I d b->(∀f k,Kq B w.heap.size b k->I d k->y x f k->a0 f k)->
   assign.wpIn (Fence.wide.inRound l) 0 P (Exit.then a0 (λ_ _ _=>False)) {tmps:=(F.zip (z x)).foldl (λG (d9,v)=>G.setIfInBounds d9 v) a.tmps,defers:=[]} b)
 (c2:∀(l:Nat) (d:List α) (x:α) (f:Act) (b:World),w.heap.size<=l->(∃Z,b.heap[l]? =some (.loop Z))->I d b->y x f b->d.length<a1->
   body.wpIn (Fence.wide.inRound l) 0 P (λe _ k=>e=.normal/\Kq B w.heap.size b k/\I (d++[x]) k) f b)
 (c4:∀(J:Nat) (H:List α) (b:World),w.heap.size<=J->S H->I H b->Kq B w.heap.size w b->b.heap[J]? =some (.deferred (some []))->Q .normal {a with defers:={target:=.collected J,args:=#[]}::a.defers} b):
 (Code.rangeFunc g F assign body).wpIn Fence.wide 0 P Q a w:=by
 refine wpIn_rangeFunc ?_;intro fn c5;obtain⟨j,i⟩:∃j:LoopState->Loop,j=λe0=>{state:=e0,pending:=none,fn,tmps:=a.tmps,params:=F,assign,body,defers:=w.heap.size}:=⟨_,rfl⟩
 obtain⟨c,m⟩:∃c,(w.alloc (.deferred (some []))).alloc (.loop (j .ready))=c:=⟨_,rfl⟩;have e5:c.heap.size=w.heap.size+2:=by rw[<-m];simp
 have b7:c.heap[w.heap.size+1]? =some (.loop (j .ready)):=by
  have:=World.alloc_heap_new (w.alloc (.deferred (some []))) (.loop (j .ready));rw[World.size_alloc,m] at this;exact this
 have b6:c.heap[w.heap.size]? =some (.deferred (some [])):=by
  rw[<-m];exact(Below.heap_alloc _ _ _ zS).trans (World.alloc_heap_new w _)
 have b5:I [] c:=by rw[<-m];exact n.alloc _ (n.alloc _ h0)
 have D:Kq B w.heap.size w c:=by rw[<-m];exact(Kq.alloc w _ b4).trans (Kq.alloc _ _ (by simp;omega))
 have c1:Below w0.heap.size w0 c:=by
  rw[<-m];exact a5.trans ((((Below.refl _ w).alloc (ac _) _).alloc zS _).mono a5.size)
 refine⟨w.heap.size+1,[{target:=.collected w.heap.size,args:=#[]}],c,{target:=.fn (.func gf) lb,args:=#[.func (.yield (w.heap.size+1)) #[] #[]]},c,gf,
  #[.func (.yield (w.heap.size+1)) #[] #[]]++lb,c,?_,?_,?_,?_,?_,?_⟩
 ·rw[<-m,i];exact run_enterLoop_outer _ _ _ _ _
 ·simp only[resolve,c6];simp[go_sem]
 ·intro e2 e3;trivial
 ·simp[invoke,go_sem,b1.o]
 ·intro b2;cases b2
 ·refine(d7 (w.heap.size+1) (λd b=>I d b/\b.heap[w.heap.size+1]? =some (.loop (j .ready))/\b.heap[w.heap.size]? =some (.deferred (some []))) c c1 ?_ ?_ ⟨b5,b7,b6⟩).mono ?_
  ·intro s X b0 row u L U;refine⟨n.later zO s X b0 row u.1 L U,?_,?_⟩
   ·exact(L.block _ (y1w.1 u.2.1).1 (λe=>by have:=(U _ e.symm).1;omega)).trans u.2.1
   ·exact(L.block _ (y1w.1 u.2.2).1 (λe=>by have:=(U _ e.symm).1;omega)).trans u.2.2
  ·rintro d x b ⟨hi,r,M⟩ d3;have V:=run_yield (P:=P) (args:=z x) r (by rw[i];exact d5 x);rw[i] at V;refine⟨fn,_,assign,body,V,roundIn_of_wpIn c5 (b9 _ d x b _ hi ?_)⟩;clear V;intro f K T c8 c0;have t:=T.rest _ _ r rfl zO;have d1:=T.rest _ _ M rfl (ac _);have N:w.heap.size+1<K.heap.size:=(y1w.1 t).1;refine⟨_,run_beginRound t (by rw[i]),?_⟩;obtain⟨h,p⟩:∃h,h=K.putObj (w.heap.size+1) (.loop {j .ready with state:=.busy}):=⟨_,rfl⟩;have a6:h.heap[w.heap.size+1]? =some (.loop {j .ready with state:=.busy}):=by rw[p];exact World.putObj_heap_same N
   have d2:h.heap[w.heap.size]? =some (.deferred (some [])):=by rw[p];exact(World.putObj_heap_other zO).trans d1
   have turn:∀(X:World) (o Y:Obj),X.heap[w.heap.size+1]? =some o->o.isCells=false->Kq B c.heap.size X (X.putObj (w.heap.size+1) Y):=λX o Y O c3=>
    Kq.grown (grownBy_putObj' X _ Y) (by have:=(y1w.1 O).1;omega) (λZ e=>by
     cases e;refine⟨zO,λe6 a7=>.inr ⟨?_,zO⟩⟩;rw[O] at a7;cases a7;exact c3)
   have c9:I d h:=by rw[p];exact n.putObj _ c8 zO t rfl
   have d8:y x f h:=by rw[p];exact(b3 x f).putObj (s:=()) _ c0 zO t rfl
   have d6:Kq B c.heap.size b h:=(T.later zO).trans (by rw[p];exact turn K _ _ t rfl);rw[<-p];refine wpIn_mono (c2 _ d x f h zO ⟨_,a6⟩ c9 d8 d3) ?_;rintro e e1 a2 ⟨rfl,R,c7⟩;have C:=R.rest _ _ a6 rfl zO;have d0:=R.rest _ _ d2 rfl (ac _);have d4:w.heap.size+1<a2.heap.size:=(y1w.1 C).1;have q:=run_endRound (P:=P) none C;rw[i] at q;refine⟨_,_,q,rfl,⟨n.putObj _ c7 zO C rfl,?_,(World.putObj_heap_other zO).trans d0⟩,?_⟩
   ·rw[World.putObj_heap_same d4,i];rfl
   ·exact d6.trans ((R.later zO).trans (turn a2 _ _ C rfl))
  ·rintro e a9 ⟨⟨v,rfl⟩,H,b8,⟨hi,r,M⟩,E⟩;have q:=run_endLoop (P:=P) r (by rw[i];simp);rw[i] at q;refine⟨none,_,q,c4 _ H _ (ac _) b8 (n.putObj _ hi zO r rfl) ?_ ((World.putObj_heap_other zO).trans M)⟩;refine⟨?_,?_,λW a3 G a4 A a8=>?_,λW o A O e4=>?_⟩
   ·exact(D.below.trans E.below).grown (grownBy_putObj' a9 _ _) (by have:=D.size;have:=E.size;omega) (λZ e=>by cases e;omega)
   ·have:=D.size;have:=E.size;simp;omega
   ·have N:=(y1w.1 A).1;exact(World.putObj_heap_other zO).trans (E.cells W a3 G a4 (D.cells W a3 G a4 A a8) a8)
   ·have N:=(y1w.1 A).1;omega
end Go.Proofs.YtlfmlodanoolhaaGreatDoor
