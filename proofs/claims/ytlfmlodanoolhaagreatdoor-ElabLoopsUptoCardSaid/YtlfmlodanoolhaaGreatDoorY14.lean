import Derived.Test.YtlfmlodanoolhaaGreatDoorY8
import Derived.Test.YtlfmlodanoolhaaGreatDoorY13
set_option linter.all false
set_option maxRecDepth 200000
set_option maxHeartbeats 32000000
namespace Go.Proofs.YtlfmlodanoolhaaGreatDoor
open Go Go.RowKit
structure Fl{α:Type}(R:α->List Value->Prop)(sz:Nat)(l:List α)(xs:List Value):Prop where
 len:xs.length=l.length*sz
 one:∀u∈xs,u.oneCell'=true
 rel:∀k (h:k<l.length),R l[k] ((xs.drop (k*sz)).take sz)
theorem Fl.nil{α:Type}{R:α->List Value->Prop}{b:Nat}:Fl R b [] []:=⟨zS,(λd a=>nomatch a),λc a=>by cases a⟩
theorem Fl.append{α:Type}{R:α->List Value->Prop}{a:Nat}{l e:List α}{xs g:List Value}(h:Fl R a l xs)(k:Fl R a e g):Fl R a (l++e) (xs++g):=by
 refine⟨by rw[List.length_append,List.length_append,h.len,k.len,Nat.add_mul],λf m=>(y2n.1 m).elim (h.one f) (k.one f),λb i=>?_⟩;have j:=h.len;rw[List.length_append] at i;by_cases d:b<l.length
 ·have n:b*a+a<=l.length*a:=by
   have:=Nat.mul_le_mul_right a (show b+1<=l.length by omega);rwa[Nat.succ_mul] at this
  rw[List.getElem_append_left d,List.drop_append_of_le_length zO,List.take_append_of_le_length (by rw[List.length_drop];omega)];exact h.rel b d
 ·obtain⟨c,rfl⟩:∃c,b=l.length+c:=⟨b - l.length,zO⟩;rw[List.getElem_append_right zO,show(l.length+c)*a=xs.length+c*a by rw[j,Nat.add_mul],<-List.drop_drop,List.drop_left];simp only[Nat.add_sub_cancel_left];exact k.rel c zO
theorem Fl.one_{α:Type}{R:α->List Value->Prop}{c:Nat}{x:α}{a:List Value}(b:a.length=c)(d:∀h∈a,h.oneCell'=true)(f:R x a):Fl R c [x] a:=by
 refine⟨by simpa using b,d,λg e=>?_⟩;obtain rfl:g=0:=by simp at e;omega
 rw[Nat.zero_mul,List.drop_zero,<-b,List.take_length];exact f
theorem Fl.imp{α:Type}{R a:α->List Value->Prop}{c:Nat}{l:List α}{xs:List Value}(h:Fl R c l xs)(d:∀x b,R x b->a x b):Fl a c l xs:=⟨h.len,h.one,λf e=>d _ _ (h.rel f e)⟩
theorem Sl.fl{α:Type}{R:α->List Value->Prop}{w:World}{B e:Nat}{l:List α}{v:Value}(h:Sl R w B e l v):∃a c b,v=.slice a l.length c/\Flat w e a l.length b/\Fl R e l b:=by
 obtain⟨a,c,rfl,-,g⟩:=h;obtain⟨b,d,f⟩:=g.flat;exact⟨a,c,b,rfl,d,d.1,d.2.1,f⟩
structure OwnL{α:Type}(R:α->List Value->Prop)(base:Nat)(e:TypeId)(sz:Nat)(l:List α)(v:Value)(X:World):Prop where
 ex:∃xs,X.ownsRow base e sz v l.length xs/\Fl R sz l xs
theorem OwnL.form{α:Type}{R:α->List Value->Prop}{c:Nat}{e:TypeId}{f:Nat}{l:List α}{v:Value}{X:World}(h:OwnL R c e f l v X):∃b a,v=.slice b l.length a:=by
 obtain⟨j,h,-⟩:=h.ex;rcases h.2 with⟨rfl,d⟩|⟨i,a,g,rfl,-⟩
 ·exact⟨none,0,by rw[d]⟩
 ·exact⟨_,_,rfl⟩
theorem OwnL.later{α:Type}{R:α->List Value->Prop}{a:Nat}{e:TypeId}{b:Nat}{l:List α}{v:Value}{X Y:World}(h:OwnL R a e b l v X)(f:Ext X Y):OwnL R a e b l v Y:=by
 obtain⟨g,c,d⟩:=h.ex;exact⟨g,c.kept (Ext.grow f) (by cases v.ownBlock<;>simp),d⟩
theorem OwnL.none_{α:Type}{R:α->List Value->Prop}{a:Nat}{e:TypeId}{b:Nat}{X:World}:OwnL R a e b ([]:List α) (.slice none 0 0) X:=⟨[],World.ownsRow_nil _ _ _ _,Fl.nil⟩
theorem OwnL.sl{α:Type}{R:α->List Value->Prop}{c:Nat}{e:TypeId}{a:Nat}{l:List α}{v:Value}{X:World}(f:0<a)(h:OwnL R c e a l v X):Sl R X X.heap.size a l v:=by
 obtain⟨g,d,b⟩:=h.ex;exact Sl.of_own f d b.one b.rel
theorem OwnL.imp{α:Type}{R a:α->List Value->Prop}{b:Nat}{e:TypeId}{d:Nat}{l:List α}{v:Value}{X:World}(h:OwnL R b e d l v X)(i:∀x c,R x c->a x c):OwnL a b e d l v X:=by
 obtain⟨j,f,g⟩:=h.ex;exact⟨j,f,g.imp i⟩
theorem OwnL.lt{α:Type}{R:α->List Value->Prop}{b:Nat}{e:TypeId}{f:Nat}{l:List α}{v:Value}{X:World}(h:OwnL R b e f l v X):∀a,v.ownBlock=some a->b<=a/\a<X.heap.size:=by
 obtain⟨g,c,-⟩:=h.ex;exact λa d=>c.lt a d
theorem wQ{w f:World}{d:Option Nat}{g:Nat}{t:TypeId}{b:List Value}(c:Blk w g t b)(h:w.grownBy f d)(i:∀a,d=some a->a≠g):Blk f g t b:=
 (h.block g c.lt (λe=>i g e.symm rfl)).trans c
theorem jX{α:Type}{R:α->List Value->Prop}{P:Program}{w:World}{ops:Array Oper}{p:List Oper}{o:Oper}{a:Act}{Q:Exit->Act->World->Prop}(B:o.guard=none)(s x:Operand)(t:TypeId)
 (E:o.op=.call {callee:=.builtin .append,args:=#[s,x],argTypes:=#[t,t]})
 (d:Nat) (e:TypeId) (z:Value) (size bytes:Nat) (hi:(P.info? e).map (λm=>(m.zero,m.size,m.bytes))=some (some z,size,bytes)) (ht:P.underlying t=some (.slice e))
 (T:z.cells.size=size) (J:0<size) (u:bytes<=1000)
 (l b:List α) (v:Value) (I:a.eval s=v) (F:OwnL R d e size l v w)
 (A:Option Addr) (c:Nat) (j:List Value) (O:a.eval x=.slice A b.length c) (H:Flat w size A b.length j) (S:Fl R size b j)
 (D:l.length<=1000000000) (C:b.length<=1000000000) (y:d<=w.heap.size)
 (h:∀i f,OwnL R d e size (l++b) i f->w.grownBy f v.ownBlock->(∀g,v.ownBlock=some g->d<=g)->wpList P ops Q p (a.put o.dst i) f):wpList P ops Q (o::p) a w:=by
 obtain⟨q,n,r⟩:=F.ex;obtain⟨U,L,N,M,K⟩:=info_parts hi;refine fY B s x t E d e U z size bytes ht L N M K T J u v l.length q I n A b.length c j O H D C y ?_;intro i f G k V;exact h i f ⟨q++j,by rw[List.length_append];exact G,r.append S⟩ k λg k=>(n.lt g k).1
end Go.Proofs.YtlfmlodanoolhaaGreatDoor
