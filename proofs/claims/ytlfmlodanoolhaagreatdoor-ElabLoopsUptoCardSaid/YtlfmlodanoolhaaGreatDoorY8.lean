import Derived.Maps.AppendAt
import Derived.OwnWalk
import Derived.Test.YtlfmlodanoolhaaGreatDoorY4
set_option linter.all false
set_option maxRecDepth 200000
set_option maxHeartbeats 32000000
namespace Go.Proofs.YtlfmlodanoolhaaGreatDoor
open Go Go.RowKit
def Flat(w:World)(size:Nat)(A:Option Addr)(m:Nat)(a:List Value):Prop:=
 a.length=m*size/\(∀c∈a,c.oneCell'=true)/\(0<m->∃b o,A=some ⟨b,o,none⟩/\Cells w b o a)
theorem Flat.ext{w b:World}{size:Nat}{A:Option Addr}{m:Nat}{a:List Value}(h:Flat w size A m a)(g:Ext w b):Flat b size A m a:=
 ⟨h.1,h.2.1,λf=>by obtain⟨c,o,e,d⟩:=h.2.2 f;exact⟨c,o,e,d.ext g⟩⟩
theorem Flat.none_{w:World}{size:Nat}{A:Option Addr}:Flat w size A 0 []:=⟨zS,(λc a=>nomatch a),(λb=>by omega)⟩
theorem eY(b o j:Nat):(⟨b,o,none⟩:Addr).add j=⟨b,o+j,none⟩:=by
 unfold Addr.add;by_cases a:j=0<;>simp[a]
theorem rf{P:Program}(w:World)(p:Nat)(t ty e:TypeId)(i:TypeInfo)(z:Value)(size bytes:Nat)(ht:P.underlying t=some (.slice e))(hi:P.info? e=some i)(M:i.zero=some z)
 (K:i.size=size) (E:i.bytes=bytes) (N:z.cells.size=size) (L:0<size) (C:bytes<=1000)
 (v:Value) (n:Nat) (xs:List Value) (s:w.ownsRow p e size v n xs) (A:Option Addr) (m c:Nat) (g:List Value) (f:Flat w size A m g)
 (T:n<=1000000000) (S:m<=1000000000) (D:p<=w.heap.size):
 ∃k l,(Builtin.append_ #[t,t] ty #[v,.slice A m c]).run P w=.ok k l/\l.ownsRow p e size k (n+m) (xs++g)/\w.grownBy l v.ownBlock/\(∀b,k.ownBlock=some b->v.ownBlock=some b\/w.heap.size<=b):=by
 rcases A with _|u
 ·have I:m=0:=by
   rcases Nat.eq_zero_or_pos m with a|a
   ·exact a
   ·obtain⟨_,_,h,_⟩:=f.2.2 a;cases h
  subst I;obtain rfl:g=[]:=cW (by simpa using f.1);refine⟨v,w,?_,by simpa using s,World.grownBy.refl w _,λb d=>.inl d⟩;rcases s.2 with⟨rfl,rfl⟩|⟨b,Q,R,rfl,_,_,U,_⟩<;>simp[Builtin.append_,run_underlying ht,sizeOf,typeInfo,hi,Builtin.lenOf,Builtin.firstCells,storeCells, *]
 ·have H:∀q r,g[q]? =some r->w.cell? (u.add q)=some r:=by
   intro q r x;rcases Nat.eq_zero_or_pos m with a|a
   ·subst a;obtain rfl:g=[]:=cW (by simpa using f.1);simp at x
   ·obtain⟨O,o,h,G⟩:=f.2.2 a;injection h with h;subst h;rw[eY];exact G q r x
  have F:(n+m)*bytes<=140737488355328:=by
   calc (n+m)*bytes<=2000000000*1000:=Nat.mul_le_mul zO C
    _<=140737488355328:=by decide
  obtain⟨k,l,J,y,B,_,j⟩:=run_append_own_at (P:=P) w p t ty e i z size bytes ht hi M K E N L v n xs s u m c g f.1 H f.2.1 (by simp only[maxLen];omega) F D;refine⟨k,l,J,y,B,λb d=>?_⟩;rcases j with j|j
  ·exact .inl (j▸d)
  ·rw[j] at d;exact .inr (by injection d with d;omega)
theorem fY{P:Program}{w:World}{ops:Array Oper}{k:List Oper}{o:Oper}{a:Act}{Q:Exit->Act->World->Prop}(C:o.guard=none)(s x:Operand)(t:TypeId)
 (F:o.op=.call {callee:=.builtin .append,args:=#[s,x],argTypes:=#[t,t]})
 (f:Nat) (e:TypeId) (i:TypeInfo) (z:Value) (size bytes:Nat) (ht:P.underlying t=some (.slice e)) (hi:P.info? e=some i) (N:i.zero=some z)
 (K:i.size=size) (B:i.bytes=bytes) (O:z.cells.size=size) (L:0<size) (u:bytes<=1000)
 (v:Value) (n:Nat) (xs:List Value) (J:a.eval s=v) (G:w.ownsRow f e size v n xs)
 (A:Option Addr) (m c:Nat) (j:List Value) (M:a.eval x=.slice A m c) (H:Flat w size A m j)
 (E:n<=1000000000) (D:m<=1000000000) (y:f<=w.heap.size)
 (h:∀b d,d.ownsRow f e size b (n+m) (xs++j)->w.grownBy d v.ownBlock->(∀g,b.ownBlock=some g->v.ownBlock=some g\/w.heap.size<=g)->wpList P ops Q k (a.put o.dst b) d):wpList P ops Q (o::k) a w:=
 wpList_plain C λ_ r=>by
  obtain⟨b,d,I,l,p,q⟩:=rf (P:=P) w f t o.type e i z size bytes ht hi N K B O L u v n xs G A m c j H E D y;unfold Oper.wp execOp;simp only[F,resolve,invoke,builtin,Sem.run_bind,Sem.run_pure,Result.andThen_ok,List.map_toArray,List.map_cons,List.map_nil,J,M,I];exact r _ _ (h b d l p q)
theorem Row.flat{α:Type}{R:α->List Value->Prop}{w:World}{B b:Nat}{l:List α}{a:Option Addr}(h:Row R w B b l a):
 ∃c:List Value,Flat w b a l.length c/\∀k,(d:k<l.length)->R l[k] ((c.drop (k*b)).take b):=by
 suffices t:∀n,n<=l.length->∃c:List Value,Flat w b a n c/\∀k,(d:k<l.length)->k<n->R l[k] ((c.drop (k*b)).take b) by
  obtain⟨c,p,x⟩:=t l.length (ac _);exact⟨c,p,λk d=>x k d d⟩
 intro n;induction n with
 |zero=>intro _;exact⟨[],Flat.none_,λk _ d=>by omega⟩
 |succ n ih=>
  intro K;obtain⟨c,⟨g,p,D⟩,A⟩:=ih zO;obtain⟨u,o,v,ha,I,r,y,G,C⟩:=h n zO;refine⟨c++v,⟨by rw[List.length_append,g,r,Nat.succ_mul],λj e=>(y2n.1 e).elim (p j) (G j),λ_=>⟨u,o,ha,λi j e=>?_⟩⟩,λk d J=>?_⟩
  ·rcases Nat.lt_or_ge i c.length with f|f
   ·rw[List.getElem?_append_left f] at e;have F:0<n:=by
     rcases Nat.eq_zero_or_pos n with m|m
     ·subst m;simp at g;rw[g] at f;simp at f
     ·exact m
    obtain⟨H,L,q,z⟩:=D F;rw[ha] at q;simp only[Option.some.injEq,Addr.mk.injEq,and_true] at q;obtain⟨rfl,rfl⟩:=q;exact z i j e
   ·rw[List.getElem?_append_right f,g] at e;have:=y (i - n*b) j e;rwa[show o+n*b+(i - n*b)=o+i by omega] at this
  ·have E:k*b+b<=(n+1)*b:=by
    have:=Nat.mul_le_mul_right b (show k+1<=n+1 by omega);rwa[Nat.succ_mul] at this
   rcases Nat.lt_or_ge k n with s|s
   ·have E:k*b+b<=n*b:=by
     have:=Nat.mul_le_mul_right b (show k+1<=n by omega);rwa[Nat.succ_mul] at this
    rw[List.drop_append_of_le_length zO,List.take_append_of_le_length (by rw[List.length_drop];omega)];exact A k d s
   ·obtain rfl:k=n:=by omega
    rw[<-g,List.drop_left,<-r,List.take_length];exact C
theorem Sl.of_own{α:Type}{R:α->List Value->Prop}{w:World}{m a:Nat}{e:TypeId}{l:List α}{v:Value}{xs:List Value}(A:0<a)(h:w.ownsRow m e a v l.length xs)(p:∀d∈xs,d.oneCell'=true)
 (q:∀b,(k:b<l.length)->R l[b] ((xs.drop (b*a)).take a)):Sl R w w.heap.size a l v:=by
 have s:=h.1;rcases h.2 with⟨rfl,o⟩|⟨j,n,u,rfl,_,r,t,z,x,B⟩
 ·obtain rfl:l=[]:=cW o;exact aU
 ·refine⟨_,n,rfl,t,λb k=>?_⟩;have y:b*a+a<=l.length*a:=by
   have:=Nat.mul_le_mul_right a (show b+1<=l.length by omega);rwa[Nat.succ_mul] at this
  refine⟨j,0,(xs.drop (b*a)).take a,rfl,(y1w.1 r).1,by rw[List.length_take,List.length_drop,s];omega,λi d c=>?_,λd c=>p d (List.mem_of_mem_drop (List.mem_of_mem_take c)),q b k⟩;have f:i<a:=by
   rcases Nat.lt_or_ge i a with f|f
   ·exact f
   ·rw[List.getElem?_eq_none (by rw[List.length_take];omega)] at c;cases c
  rw[List.getElem?_take_of_lt f,List.getElem?_drop] at c;have:=h.cells (g:=j) rfl (b*a+i) d c;rw[eY] at this;simpa using this
end Go.Proofs.YtlfmlodanoolhaaGreatDoor
