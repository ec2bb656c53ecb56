import Derived.RangeFuncNested
import Derived.RangeFuncBound
import Derived.RangeFuncCalls
import Derived.Test.YtlfmlodanoolhaaGreatDoorE1
set_option linter.all false
set_option maxRecDepth 200000
set_option maxHeartbeats 32000000
namespace Go.Proofs.YtlfmlodanoolhaaGreatDoor
open Go Go.RowKit
def j4w(t:TypeId):Prop:=t=9∨t=104
def k9b:Obj→Prop
 |.cells _ t _=>¬j4w t
 |_=>True
theorem j9a{o:Obj}(h:o.isCells=false):k9b o:=by cases o<;>first|exact trivial|cases h
def AbM{β:Type}(B:Nat)(J:β→World→Prop):Prop:=∀s W W' row,J s W→W.grownBy W' row→(∀r,row=some r→B≤r∧∃o:Obj,W.heap[r]? =some o∧k9b o)→J s W'
theorem AbM.alloc{β:Type}{B:Nat}{J:β→World→Prop}(h:AbM B J){s:β}{W:World}(o:Obj)(hs:J s W):J s (W.alloc o):=h s W _ none hs (World.grownBy_alloc W o none) (fun r e=>by cases e)
theorem AbM.putObj{β:Type}{B:Nat}{J:β→World→Prop}(h:AbM B J){s:β}{W:World}{l:Nat}{o:Obj}(o':Obj)(hs:J s W)(hB:B≤l)(hl:W.heap[l]? =some o)(ho:o.isCells=false):J s (W.putObj l o'):=
 h s W _ (some l) hs (grownBy_putObj' W l o') (fun r e=>by cases e;exact⟨hB,o,hl,j9a ho⟩)
theorem AbM.later{β:Type}{B B':Nat}{J:β→World→Prop}(h:AbM B J)(hB:B≤B'):AbM B' J:=fun s W W' row hs hg hr=>h s W W' row hs hg (fun r e=>⟨y1k hB (hr r e).1,(hr r e).2⟩)
structure Kq(B n:Nat)(W W':World):Prop where
 below:Below B W W'
 size:W.heap.size≤W'.heap.size
 cells:∀(k:Nat) (cs:Array Value) (t:TypeId) (fr:Nat×Nat),W.heap[k]? =some (.cells cs t fr)→¬j4w t→W'.heap[k]? =some (.cells cs t fr)
 rest:∀(k:Nat) (o:Obj),W.heap[k]? =some o→o.isCells=false→n≤k→W'.heap[k]? =some o
theorem Kq.refl(B n:Nat)(W:World):Kq B n W W:=⟨Below.refl _ _,y1j _,fun _ _ _ _ h _=>h,fun _ _ h _ _=>h⟩
theorem Kq.trans{B n:Nat}{W1 W2 W3:World}(h:Kq B n W1 W2)(k:Kq B n W2 W3):Kq B n W1 W3:=
 ⟨h.below.trans k.below,y1k h.size k.size,fun i cs t fr hi ht=>k.cells i cs t fr (h.cells i cs t fr hi ht) ht,fun i o hi ho hn=>k.rest i o (h.rest i o hi ho hn) ho hn⟩
theorem Kq.later{B n n':Nat}{W W':World}(h:Kq B n W W')(hn:n≤n'):Kq B n' W W':=⟨h.below,h.size,h.cells,fun k o hk ho hn'=>h.rest k o hk ho (y1k hn hn')⟩
theorem Kq.grown{B n:Nat}{W W':World}{row:Option Nat}(hg:W.grownBy W' row)(hB:B≤W.heap.size)(hr:∀r,row=some r→B≤r∧(∀o,W.heap[r]? =some o→(∃cs t fr,o=.cells cs t fr∧j4w t)∨o.isCells=false∧r<n)):Kq B n W W':=by
 refine⟨(Below.refl B W).grown hg hB (fun k e=>(hr k e).1),hg.size,fun k cs t fr hk ht=>?_,fun k o hk ho hn=>?_⟩
 ·refine(hg.block k (y1n.1 hk).1 (fun e=>?_)).trans hk;rcases(hr k e.symm).2 _ hk with⟨cs',t',fr',he,hs⟩|⟨h1,-⟩
  ·cases he;exact ht hs
  ·cases h1
 ·refine(hg.block k (y1n.1 hk).1 (fun e=>?_)).trans hk;rcases(hr k e.symm).2 _ hk with⟨cs',t',fr',he,hs⟩|⟨-,h2⟩
  ·subst he;cases ho
  ·omega
theorem Kq.alloc{B n:Nat}(W:World)(o:Obj)(hB:B≤W.heap.size):Kq B n W (W.alloc o):=Kq.grown (World.grownBy_alloc W o none) hB (fun r e=>by cases e)
theorem Kq.ext{B n:Nat}{W W':World}(h:Ext W W')(hB:B≤W.heap.size):Kq B n W W':=Kq.grown (row:=none) ⟨h.os,h.tape,h.output,h.size,fun k hk _=>h.block k hk⟩ hB (fun r e=>by cases e)
theorem Kq.cell{B n:Nat}{W W':World}(h:Kq B n W W'){p:Addr}{t:TypeId}{cs:List Value}(hb:Blk W p.block t cs)(ht:¬j4w t):W'.cell? p=W.cell? p:=
 y2b ((h.cells _ _ _ _ hb ht).trans hb.symm)
theorem Kq.blk{B n:Nat}{W W':World}(h:Kq B n W W'){g:Nat}{t:TypeId}{cs:List Value}(hb:Blk W g t cs)(ht:¬j4w t):Blk W' g t cs:=h.cells _ _ _ _ hb ht
def y0c{α:Type}(P:Program)(g:Nat)(lb:Array Value)(encs:α→Array Value)(B:Nat)(S:List α→Prop)(N:Nat)(w0:World):Prop:=
 ∀(l:Nat) (J:List α→World→Prop) (W:World),Below w0.heap.size w0 W→AbM W.heap.size J→
  (∀pre x W1,J pre W1→pre.length<N→YieldAt Fence.wide 0 P l (encs x) W1 fun e W'=>e=.returned (.bool true)∧J (pre++[x]) W'∧Kq B W.heap.size W1 W')→
  J [] W→CallsIn Fence.wide 0 P g (#[.func (.yield l) #[] #[]]++lb) W fun e W'=>(∃v,e=.returned v)∧∃xs,S xs∧J xs W'∧Kq B W.heap.size W W'
variable {P : Program}
theorem z9w{α:Type}{g:Operand}{ps:Array Tmp}{assign body:Code}{Q:Exit→Act→World→Prop}{a:Act}{w:World}
 {gf:Nat} {lb:Array Value} (hg:a.eval g=.func (.func gf) #[] lb) (eg:Enters P gf)
 {encs:α→Array Value} {B:Nat} {S:List α→Prop} {N:Nat} {w0:World} (hseq:y0c P gf lb encs B S N w0) (hb0:Below w0.heap.size w0 w) (hB:B≤w.heap.size) (hps:∀x,(encs x).size=ps.size)
 (I:List α→World→Prop) (hI:AbM w.heap.size I) (h0:I [] w) (Ax:α→Act→World→Prop) (hAx:∀x a',OwnFrom w.heap.size (fun(_:Unit) W=>Ax x a' W))
 (hassign:∀(l:Nat) (pre:List α) (x:α) (W:World) (K:Act→World→Prop),I pre W→(∀a' W',Kq B w.heap.size W W'→I pre W'→Ax x a' W'→K a' W')→
   assign.wpIn (Fence.wide.inRound l) 0 P (Exit.then K (fun _ _ _=>False)) {tmps:=(ps.zip (encs x)).foldl (fun t (p,v)=>t.setIfInBounds p v) a.tmps,defers:=[]} W)
 (hbody:∀(l:Nat) (pre:List α) (x:α) (a':Act) (W:World),w.heap.size≤l→(∃r,W.heap[l]? =some (.loop r))→I pre W→Ax x a' W→pre.length<N→
   body.wpIn (Fence.wide.inRound l) 0 P (fun e _ W'=>e=.normal∧Kq B w.heap.size W W'∧I (pre++[x]) W') a' W)
 (hdone:∀(D:Nat) (xs:List α) (W:World),w.heap.size≤D→S xs→I xs W→Kq B w.heap.size w W→W.heap[D]? =some (.deferred (some []))→Q .normal {a with defers:={target:=.collected D,args:=#[]}::a.defers} W):
 (Code.rangeFunc g ps assign body).wpIn Fence.wide 0 P Q a w:=by
 refine wpIn_rangeFunc ?_;intro fn hfn;obtain⟨rec,hrec⟩:∃rec:LoopState→Loop,rec=fun st=>{state:=st,pending:=none,fn,tmps:=a.tmps,params:=ps,assign,body,defers:=w.heap.size}:=⟨_,rfl⟩
 obtain⟨W1,hW1⟩:∃W1,(w.alloc (.deferred (some []))).alloc (.loop (rec .ready))=W1:=⟨_,rfl⟩;have hsz:W1.heap.size=w.heap.size+2:=by rw[←hW1];simp
 have hL1:W1.heap[w.heap.size+1]? =some (.loop (rec .ready)):=by
  have:=World.alloc_heap_new (w.alloc (.deferred (some []))) (.loop (rec .ready));rw[World.size_alloc,hW1] at this;exact this
 have hK1:W1.heap[w.heap.size]? =some (.deferred (some [])):=by
  rw[←hW1];exact(Below.heap_alloc _ _ _ (by simp)).trans (World.alloc_heap_new w _)
 have hI1:I [] W1:=by rw[←hW1];exact hI.alloc _ (hI.alloc _ h0)
 have hq1:Kq B w.heap.size w W1:=by rw[←hW1];exact(Kq.alloc w _ hB).trans (Kq.alloc _ _ (by simp;omega))
 have hb1:Below w0.heap.size w0 W1:=by
  rw[←hW1];exact hb0.trans ((((Below.refl _ w).alloc (y1j _) _).alloc (by simp) _).mono hb0.size)
 refine⟨w.heap.size+1,[{target:=.collected w.heap.size,args:=#[]}],W1,{target:=.fn (.func gf) lb,args:=#[.func (.yield (w.heap.size+1)) #[] #[]]},W1,gf,
  #[.func (.yield (w.heap.size+1)) #[] #[]]++lb,W1,?_,?_,?_,?_,?_,?_⟩
 ·rw[←hW1,hrec];exact run_enterLoop_outer _ _ _ _ _
 ·simp only[resolve,hg];simp[go_sem]
 ·intro f' hf';trivial
 ·simp[invoke,go_sem,eg.o]
 ·intro h;cases h
 ·refine(hseq (w.heap.size+1) (fun pre W=>I pre W∧W.heap[w.heap.size+1]? =some (.loop (rec .ready))∧W.heap[w.heap.size]? =some (.deferred (some []))) W1 hb1 ?_ ?_ ⟨hI1,hL1,hK1⟩).mono ?_
  ·intro s X Y row hs hgr hr;refine⟨hI.later (by omega) s X Y row hs.1 hgr hr,?_,?_⟩
   ·exact(hgr.block _ (y1n.1 hs.2.1).1 (fun e=>by have:=(hr _ e.symm).1;omega)).trans hs.2.1
   ·exact(hgr.block _ (y1n.1 hs.2.2).1 (fun e=>by have:=(hr _ e.symm).1;omega)).trans hs.2.2
  ·rintro pre x W ⟨hi,hl,hk⟩ hlenN;have hy:=run_yield (P:=P) (args:=encs x) hl (by rw[hrec];exact hps x);rw[hrec] at hy;refine⟨fn,_,assign,body,hy,roundIn_of_wpIn hfn (hassign _ pre x W _ hi ?_)⟩;clear hy;intro a' Wa hqa hia hax;have hla:=hqa.rest _ _ hl rfl (by omega);have hka:=hqa.rest _ _ hk rfl (y1j _);have hlt:w.heap.size+1<Wa.heap.size:=(y1n.1 hla).1;refine⟨_,run_beginRound hla (by rw[hrec]),?_⟩;obtain⟨Wb,hWb⟩:∃Wb,Wb=Wa.putObj (w.heap.size+1) (.loop {rec .ready with state:=.busy}):=⟨_,rfl⟩;have hlb:Wb.heap[w.heap.size+1]? =some (.loop {rec .ready with state:=.busy}):=by rw[hWb];exact World.putObj_heap_same hlt
   have hkb:Wb.heap[w.heap.size]? =some (.deferred (some [])):=by rw[hWb];exact(World.putObj_heap_other (by omega)).trans hka
   have turn:∀(X:World) (o o':Obj),X.heap[w.heap.size+1]? =some o→o.isCells=false→Kq B W1.heap.size X (X.putObj (w.heap.size+1) o'):=fun X o o' ho hc=>
    Kq.grown (grownBy_putObj' X _ o') (by have:=(y1n.1 ho).1;omega) (fun r e=>by
     cases e;refine⟨by omega,fun o2 ho2=>.inr ⟨?_,by omega⟩⟩;rw[ho] at ho2;cases ho2;exact hc)
   have hib:I pre Wb:=by rw[hWb];exact hI.putObj _ hia (by omega) hla rfl
   have hxb:Ax x a' Wb:=by rw[hWb];exact(hAx x a').putObj (s:=()) _ hax (by omega) hla rfl
   have hqb:Kq B W1.heap.size W Wb:=(hqa.later (by omega)).trans (by rw[hWb];exact turn Wa _ _ hla rfl);rw[←hWb];refine wpIn_mono (hbody _ pre x a' Wb (by omega) ⟨_,hlb⟩ hib hxb hlenN) ?_;rintro e a3 W3 ⟨rfl,hq3,hi3⟩;have hl3:=hq3.rest _ _ hlb rfl (by omega);have hk3:=hq3.rest _ _ hkb rfl (y1j _);have hlt3:w.heap.size+1<W3.heap.size:=(y1n.1 hl3).1;have hend:=run_endRound (P:=P) none hl3;rw[hrec] at hend;refine⟨_,_,hend,rfl,⟨hI.putObj _ hi3 (by omega) hl3 rfl,?_,(World.putObj_heap_other (by omega)).trans hk3⟩,?_⟩
   ·rw[World.putObj_heap_same hlt3,hrec];rfl
   ·exact hqb.trans ((hq3.later (by omega)).trans (turn W3 _ _ hl3 rfl))
  ·rintro e W2 ⟨⟨v,rfl⟩,xs,hS,⟨hi,hl,hk⟩,hq2⟩;have hend:=run_endLoop (P:=P) hl (by rw[hrec];simp);rw[hrec] at hend;refine⟨none,_,hend,hdone _ xs _ (y1j _) hS (hI.putObj _ hi (by omega) hl rfl) ?_ ((World.putObj_heap_other (by omega)).trans hk)⟩;refine⟨?_,?_,fun k cs t fr hk2 ht=>?_,fun k o hk2 ho hn=>?_⟩
   ·exact(hq1.below.trans hq2.below).grown (grownBy_putObj' W2 _ _) (by have:=hq1.size;have:=hq2.size;omega) (fun r e=>by cases e;omega)
   ·have:=hq1.size;have:=hq2.size;simp;omega
   ·have hlt:=(y1n.1 hk2).1;exact(World.putObj_heap_other (by omega)).trans (hq2.cells k cs t fr (hq1.cells k cs t fr hk2 ht) ht)
   ·have hlt:=(y1n.1 hk2).1;omega
end Go.Proofs.YtlfmlodanoolhaaGreatDoor
