import Derived.Test.YtlfmlodanoolhaaGreatDoorV7
import Derived.Test.YtlfmlodanoolhaaGreatDoorV13
set_option linter.all false
set_option maxRecDepth 200000
set_option maxHeartbeats 0
namespace Go.Proofs.YtlfmlodanoolhaaGreatDoor
open Go Go.RowKit
structure Fl{α:Type}(R:α->List Value->Prop)(sz:Nat)(l:List α)(xs:List Value):Prop where
 len:xs.length=l.length*sz
 one:∀u∈xs,u.oneCell'=true
 rel:∀k (h:k<l.length),R l[k] ((xs.drop (k*sz)).take sz)
theorem Fl.nil{α:Type}{R:α->List Value->Prop}{b:Nat}:Fl R b [] []:=⟨zS,(λd a=>nomatch a),λc a=>by cases a⟩
theorem Fl.append{α:Type}{R:α->List Value->Prop}{a:Nat}{l e:List α}{xs g:List Value}(h:Fl R a l xs)(k:Fl R a e g):Fl R a (l++e) (xs++g):=by
 refine⟨by rw[List.length_append,List.length_append,h.len,k.len,Nat.add_mul],λf m=>(y8e.1 m).elim (h.one f) (k.one f),λb i=>?_⟩;have j:=h.len;rw[List.length_append] at i;by_cases d:b<l.length
 ·have n:b*a+a<=l.length*a:=by
   have:=Nat.mul_le_mul_right a (show b+1<=l.length by omega);rwa[Nat.succ_mul] at this
  rw[List.getElem_append_left d,List.drop_append_of_le_length zO,List.take_append_of_le_length (by rw[List.length_drop];omega)];exact h.rel b d
 ·obtain⟨c,rfl⟩:∃c,b=l.length+c:=⟨b - l.length,zO⟩;rw[List.getElem_append_right zO,show(l.length+c)*a=xs.length+c*a by rw[j,Nat.add_mul],<-List.drop_drop,List.drop_left];simp only[Nat.add_sub_cancel_left];exact k.rel c zO
theorem Fl.one_{α:Type}{R:α->List Value->Prop}{c:Nat}{x:α}{a:List Value}(b:a.length=c)(d:∀h∈a,h.oneCell'=true)(f:R x a):Fl R c [x] a:=by
 refine⟨by simpa using b,d,λg e=>?_⟩;obtain rfl:g=0:=by simp at e;omega
 rw[Nat.zero_mul,List.drop_zero,<-b,List.take_length];exact f
theorem Fl.imp{α:Type}{R a:α->List Value->Prop}{c:Nat}{l:List α}{xs:List Value}(h:Fl R c l xs)(d:∀x b,R x b->a x b):Fl a c l xs:=⟨h.len,h.one,λf e=>d _ _ (h.rel f e)⟩
theorem Sl.fl{α:Type}{R:α->List Value->Prop}{w:World}{B e:Nat}{l:List α}{v:Value}(h:Sl R w B e l v):∃a c b,v=.slice a l.length c/\Flat w e a l.length b/\Fl R e l b:=by
 obtain⟨a,c,rfl,-,g⟩:=h;obtain⟨b,d,f⟩:=g.flat;exact⟨a,c,b,rfl,d,d.1,d.2.1,f⟩
structure OwnL{α:Type}(R:α->List Value->Prop)(base:Nat)(e:TypeId)(sz:Nat)(l:List α)(v:Value)(X:World):Prop where
 ex:∃xs,X.ownsRow base e sz v l.length xs/\Fl R sz l xs
theorem OwnL.form{α:Type}{R:α->List Value->Prop}{base:Nat}{e:TypeId}{d:Nat}{l:List α}{v:Value}{X:World}(h:OwnL R base e d l v X):∃b a,v=.slice b l.length a:=by
 obtain⟨i,h,-⟩:=h.ex;rcases h.2 with⟨rfl,c⟩|⟨g,a,f,rfl,-⟩
 ·exact⟨none,0,by rw[c]⟩
 ·exact⟨_,_,rfl⟩
theorem OwnL.later{α:Type}{R:α->List Value->Prop}{base:Nat}{e:TypeId}{a:Nat}{l:List α}{v:Value}{X Y:World}(h:OwnL R base e a l v X)(d:Ext X Y):OwnL R base e a l v Y:=by
 obtain⟨f,b,c⟩:=h.ex;exact⟨f,b.kept (Ext.grow d) (by cases v.ownBlock<;>simp),c⟩
theorem OwnL.none_{α:Type}{R:α->List Value->Prop}{base:Nat}{e:TypeId}{a:Nat}{X:World}:OwnL R base e a ([]:List α) (.slice none 0 0) X:=⟨[],World.ownsRow_nil _ _ _ _,Fl.nil⟩
theorem OwnL.sl{α:Type}{R:α->List Value->Prop}{base:Nat}{e:TypeId}{a:Nat}{l:List α}{v:Value}{X:World}(d:0<a)(h:OwnL R base e a l v X):Sl R X X.heap.size a l v:=by
 obtain⟨f,c,b⟩:=h.ex;exact Sl.of_own d c b.one b.rel
theorem OwnL.imp{α:Type}{R a:α->List Value->Prop}{base:Nat}{e:TypeId}{c:Nat}{l:List α}{v:Value}{X:World}(h:OwnL R base e c l v X)(g:∀x b,R x b->a x b):OwnL a base e c l v X:=by
 obtain⟨i,d,f⟩:=h.ex;exact⟨i,d,f.imp g⟩
theorem OwnL.lt{α:Type}{R:α->List Value->Prop}{base:Nat}{e:TypeId}{d:Nat}{l:List α}{v:Value}{X:World}(h:OwnL R base e d l v X):∀a,v.ownBlock=some a->base<=a/\a<X.heap.size:=by
 obtain⟨f,b,-⟩:=h.ex;exact λa c=>b.lt a c
theorem zx{w f:World}{d:Option Nat}{g:Nat}{t:TypeId}{b:List Value}(c:Blk w g t b)(h:w.grownBy f d)(i:∀a,d=some a->a≠g):Blk f g t b:=
 (h.block g c.lt (λe=>i g e.symm rfl)).trans c
theorem kS{α:Type}{R:α->List Value->Prop}{P:Program}{w:World}{ops:Array Oper}{n:List Oper}{o:Oper}{a:Act}{Q:Exit->Act->World->Prop}(y:o.guard=none)(s x:Operand)(t:TypeId)
 (D:o.op=.call {callee:=.builtin .append,args:=#[s,x],argTypes:=#[t,t]})
 (base:Nat) (e:TypeId) (z:Value) (size bytes:Nat) (hi:(P.info? e).map (λj=>(j.zero,j.size,j.bytes))=some (some z,size,bytes)) (ht:P.underlying t=some (.slice e))
 (S:z.cells.size=size) (I:0<size) (r:bytes<=1000)
 (l b:List α) (v:Value) (H:a.eval s=v) (E:OwnL R base e size l v w)
 (A:Option Addr) (k:Nat) (g:List Value) (N:a.eval x=.slice A b.length k) (G:Flat w size A b.length g) (O:Fl R size b g)
 (C:l.length<=1000000000) (B:b.length<=1000000000) (u:base<=w.heap.size)
 (h:∀f c,OwnL R base e size (l++b) f c->w.grownBy c v.ownBlock->(∀d,v.ownBlock=some d->base<=d)->wpList P ops Q n (a.put o.dst f) c):wpList P ops Q (o::n) a w:=by
 obtain⟨p,m,q⟩:=E.ex;obtain⟨T,K,M,L,J⟩:=info_parts hi;refine gu y s x t D base e T z size bytes ht K M L J S I r v l.length p H m A b.length k g N G C B u ?_;intro f c F i U;exact h f c ⟨p++g,by rw[List.length_append];exact F,q.append O⟩ i λd i=>(m.lt d i).1
