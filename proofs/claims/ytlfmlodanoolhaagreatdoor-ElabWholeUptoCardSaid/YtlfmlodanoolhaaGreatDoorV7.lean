import Derived.Maps.AppendAt
import Derived.OwnWalk
import Derived.Test.YtlfmlodanoolhaaGreatDoorV4
set_option linter.all false
set_option maxRecDepth 200000
set_option maxHeartbeats 0
namespace Go.Proofs.YtlfmlodanoolhaaGreatDoor
open Go Go.RowKit
def Flat(w:World)(size:Nat)(A:Option Addr)(m:Nat)(a:List Value):Prop:=
 a.length=m*size/\(∀c∈a,c.oneCell'=true)/\(0<m->∃b o,A=some ⟨b,o,none⟩/\Cells w b o a)
theorem Flat.ext{w b:World}{size:Nat}{A:Option Addr}{m:Nat}{a:List Value}(h:Flat w size A m a)(g:Ext w b):Flat b size A m a:=
 ⟨h.1,h.2.1,λf=>by obtain⟨c,o,e,d⟩:=h.2.2 f;exact⟨c,o,e,d.ext g⟩⟩
theorem Flat.none_{w:World}{size:Nat}{A:Option Addr}:Flat w size A 0 []:=⟨zS,(λc a=>nomatch a),(λb=>by omega)⟩
theorem fv(b o j:Nat):(⟨b,o,none⟩:Addr).add j=⟨b,o+j,none⟩:=by
 unfold Addr.add;by_cases a:j=0<;>simp[a]
theorem uS{P:Program}(w:World)(base:Nat)(t ty e:TypeId)(i:TypeInfo)(z:Value)(size bytes:Nat)(ht:P.underlying t=some (.slice e))(hi:P.info? e=some i)(L:i.zero=some z)
 (J:i.size=size) (D:i.bytes=bytes) (M:z.cells.size=size) (K:0<size) (B:bytes<=1000)
 (v:Value) (n:Nat) (xs:List Value) (q:w.ownsRow base e size v n xs) (A:Option Addr) (m s:Nat) (f:List Value) (d:Flat w size A m f)
 (S:n<=1000000000) (R:m<=1000000000) (C:base<=w.heap.size):
 ∃j k,(Builtin.append_ #[t,t] ty #[v,.slice A m s]).run P w=.ok j k/\k.ownsRow base e size j (n+m) (xs++f)/\w.grownBy k v.ownBlock/\(∀b,j.ownBlock=some b->v.ownBlock=some b\/w.heap.size<=b):=by
 rcases A with _|r
 ·have H:m=0:=by
   rcases Nat.eq_zero_or_pos m with a|a
   ·exact a
   ·obtain⟨_,_,g,_⟩:=d.2.2 a;cases g
  subst H;obtain rfl:f=[]:=dl (by simpa using d.1);refine⟨v,w,?_,by simpa using q,World.grownBy.refl w _,λb c=>.inl c⟩;rcases q.2 with⟨rfl,rfl⟩|⟨b,O,Q,rfl,_,_,T,_⟩<;>simp[Builtin.append_,run_underlying ht,sizeOf,typeInfo,hi,Builtin.lenOf,Builtin.firstCells,storeCells, *]
 ·have G:∀l p,f[l]? =some p->w.cell? (r.add l)=some p:=by
   intro l p u;rcases Nat.eq_zero_or_pos m with a|a
   ·subst a;obtain rfl:f=[]:=dl (by simpa using d.1);simp at u
   ·obtain⟨N,o,g,F⟩:=d.2.2 a;injection g with g;subst g;rw[fv];exact F l p u
  have E:(n+m)*bytes<=140737488355328:=by
   calc (n+m)*bytes<=2000000000*1000:=Nat.mul_le_mul zO B
    _<=140737488355328:=by decide
  obtain⟨j,k,I,x,y,_,h⟩:=run_append_own_at (P:=P) w base t ty e i z size bytes ht hi L J D M K v n xs q r m s f d.1 G d.2.1 (by simp only[maxLen];omega) E C;refine⟨j,k,I,x,y,λb c=>?_⟩;rcases h with h|h
  ·exact .inl (h▸c)
  ·rw[h] at c;exact .inr (by injection c with c;omega)
theorem gu{P:Program}{w:World}{ops:Array Oper}{j:List Oper}{o:Oper}{a:Act}{Q:Exit->Act->World->Prop}(B:o.guard=none)(s x:Operand)(t:TypeId)
 (E:o.op=.call {callee:=.builtin .append,args:=#[s,x],argTypes:=#[t,t]})
 (base:Nat) (e:TypeId) (i:TypeInfo) (z:Value) (size bytes:Nat) (ht:P.underlying t=some (.slice e)) (hi:P.info? e=some i) (M:i.zero=some z)
 (J:i.size=size) (y:i.bytes=bytes) (N:z.cells.size=size) (K:0<size) (r:bytes<=1000)
 (v:Value) (n:Nat) (xs:List Value) (I:a.eval s=v) (F:w.ownsRow base e size v n xs)
 (A:Option Addr) (m g:Nat) (f:List Value) (L:a.eval x=.slice A m g) (G:Flat w size A m f)
 (D:n<=1000000000) (C:m<=1000000000) (u:base<=w.heap.size)
 (h:∀b c,c.ownsRow base e size b (n+m) (xs++f)->w.grownBy c v.ownBlock->(∀d,b.ownBlock=some d->v.ownBlock=some d\/w.heap.size<=d)->wpList P ops Q j (a.put o.dst b) c):wpList P ops Q (o::j) a w:=
 wpList_plain B λ_ q=>by
  obtain⟨b,c,H,k,l,p⟩:=uS (P:=P) w base t o.type e i z size bytes ht hi M J y N K r v n xs F A m g f G D C u;unfold Oper.wp execOp;simp only[E,resolve,invoke,builtin,Sem.run_bind,Sem.run_pure,Result.andThen_ok,List.map_toArray,List.map_cons,List.map_nil,I,L,H];exact q _ _ (h b c k l p)
theorem Row.flat{α:Type}{R:α->List Value->Prop}{w:World}{B b:Nat}{l:List α}{a:Option Addr}(h:Row R w B b l a):
 ∃c:List Value,Flat w b a l.length c/\∀k,(d:k<l.length)->R l[k] ((c.drop (k*b)).take b):=by
 suffices t:∀n,n<=l.length->∃c:List Value,Flat w b a n c/\∀k,(d:k<l.length)->k<n->R l[k] ((c.drop (k*b)).take b) by
  obtain⟨c,p,x⟩:=t l.length (ac _);exact⟨c,p,λk d=>x k d d⟩
 intro n;induction n with
 |zero=>intro _;exact⟨[],Flat.none_,λk _ d=>by omega⟩
 |succ n ih=>
  intro K;obtain⟨c,⟨g,p,D⟩,A⟩:=ih zO;obtain⟨u,o,v,ha,I,r,y,G,C⟩:=h n zO;refine⟨c++v,⟨by rw[List.length_append,g,r,Nat.succ_mul],λj e=>(y8e.1 e).elim (p j) (G j),λ_=>⟨u,o,ha,λi j e=>?_⟩⟩,λk d J=>?_⟩
  ·rcases Nat.lt_or_ge i c.length with f|f
   ·rw[List.getElem?_append_left f] at e;have F:0<n:=by
     rcases Nat.eq_zero_or_pos n with m|m
     ·subst m;simp at g;rw[g] at f;simp at f
     ·exact m
    obtain⟨H,L,q,z⟩:=D F;rw[ha] at q;simp only[Option.some.injEq,Addr.mk.injEq,and_true] at q;obtain⟨rfl,rfl⟩:=q;exact z i j e
   ·rw[List.getElem?_append_right f,g] at e;have:=y (i - n*b) j e;rwa[show o+n*b+(i - n*b)=o+i by omega] at this
  ·have E:k*b+b<=(n+1)*b:=by
    have:=Nat.mul_le_mul_right b (show k+1<=n+1 by omega);rwa[Nat.succ_mul] at this
   rcases Nat.lt_or_ge k n with s|s
   ·have E:k*b+b<=n*b:=by
     have:=Nat.mul_le_mul_right b (show k+1<=n by omega);rwa[Nat.succ_mul] at this
    rw[List.drop_append_of_le_length zO,List.take_append_of_le_length (by rw[List.length_drop];omega)];exact A k d s
   ·obtain rfl:k=n:=by omega
    rw[<-g,List.drop_left,<-r,List.take_length];exact C
theorem Sl.of_own{α:Type}{R:α->List Value->Prop}{w:World}{base a:Nat}{e:TypeId}{l:List α}{v:Value}{xs:List Value}(z:0<a)(h:w.ownsRow base e a v l.length xs)(o:∀d∈xs,d.oneCell'=true)
 (p:∀b,(k:b<l.length)->R l[b] ((xs.drop (b*a)).take a)):Sl R w w.heap.size a l v:=by
 have r:=h.1;rcases h.2 with⟨rfl,n⟩|⟨j,m,t,rfl,_,q,s,y,u,A⟩
 ·obtain rfl:l=[]:=dl n;exact cm
 ·refine⟨_,m,rfl,s,λb k=>?_⟩;have x:b*a+a<=l.length*a:=by
   have:=Nat.mul_le_mul_right a (show b+1<=l.length by omega);rwa[Nat.succ_mul] at this
  refine⟨j,0,(xs.drop (b*a)).take a,rfl,(y7n.1 q).1,by rw[List.length_take,List.length_drop,r];omega,λi d c=>?_,λd c=>o d (List.mem_of_mem_drop (List.mem_of_mem_take c)),p b k⟩;have f:i<a:=by
   rcases Nat.lt_or_ge i a with f|f
   ·exact f
   ·rw[List.getElem?_eq_none (by rw[List.length_take];omega)] at c;cases c
  rw[List.getElem?_take_of_lt f,List.getElem?_drop] at c;have:=h.cells (g:=j) rfl (b*a+i) d c;rw[fv] at this;simpa using this
