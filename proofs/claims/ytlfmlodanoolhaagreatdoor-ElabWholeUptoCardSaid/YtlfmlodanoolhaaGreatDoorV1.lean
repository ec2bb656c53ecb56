import Derived.WalkKit
import Derived.Deep.Draws
import Derived.BigQuiet
set_option linter.all false
set_option maxRecDepth 200000
set_option maxHeartbeats 0
namespace Go.Proofs.YtlfmlodanoolhaaGreatDoor
open Go Go.RowKit
theorem zS{p:Prop}(h:p:=by simp):p:=h
theorem zO{p:Prop}(h:p:=by omega):p:=h
theorem zD{p:Prop}(h:p:=by decide):p:=h
inductive X where
 |mk (op:Int) (name:ByteArray) (n w v:Int) (l:List X)
inductive S where
 |mk (op:Int) (name:ByteArray) (x:List X) (l:List S)
structure Bnd where
 name:ByteArray
 x:X
inductive Itm where
 |mk (op:Int) (name:ByteArray) (of:ByteArray) (x:List X) (s:List S) (l els:List Itm) (params binds:List Bnd)
structure Prt where
 name:ByteArray
 o:Bool
 w:X
structure Mdl where
 name:ByteArray
 params:List Bnd
 ports:List Prt
 items:List Itm
def X.op:X->Int|.mk op _ _ _ _ _=>op
def X.name:X->ByteArray|.mk _ nm _ _ _ _=>nm
def X.n:X->Int|.mk _ _ n _ _ _=>n
def X.w:X->Int|.mk _ _ _ w _ _=>w
def X.v:X->Int|.mk _ _ _ _ v _=>v
def X.l:X->List X|.mk _ _ _ _ _ l=>l
def S.op:S->Int|.mk op _ _ _=>op
def S.name:S->ByteArray|.mk _ nm _ _=>nm
def S.x:S->List X|.mk _ _ x _=>x
def S.l:S->List S|.mk _ _ _ l=>l
def Itm.op:Itm->Int|.mk op _ _ _ _ _ _ _ _=>op
def Itm.name:Itm->ByteArray|.mk _ nm _ _ _ _ _ _ _=>nm
def Itm.of:Itm->ByteArray|.mk _ _ of _ _ _ _ _ _=>of
def Itm.x:Itm->List X|.mk _ _ _ x _ _ _ _ _=>x
def Itm.s:Itm->List S|.mk _ _ _ _ s _ _ _ _=>s
def Itm.l:Itm->List Itm|.mk _ _ _ _ _ l _ _ _=>l
def Itm.els:Itm->List Itm|.mk _ _ _ _ _ _ e _ _=>e
def Itm.params:Itm->List Bnd|.mk _ _ _ _ _ _ _ ps _=>ps
def Itm.binds:Itm->List Bnd|.mk _ _ _ _ _ _ _ _ bs=>bs
mutual
theorem X.ind{P:X->Prop}(h:∀x,(∀a,a∈x.l->P a)->P x):∀x,P x
 |.mk op nm n w v l=>h _ (X.indL h l)
theorem X.indL{P:X->Prop}(h:∀x,(∀b,b∈x.l->P b)->P x):∀(l:List X) (b:X),b∈l->P b
 |[],_,hy=>by cases hy
 |a::r,b,hy=>by
  cases hy with
  |head=>exact X.ind h a
  |tail _ ht=>exact X.indL h r b ht
 end
mutual
theorem S.ind{P:S->Prop}(h:∀x,(∀a,a∈x.l->P a)->P x):∀x,P x
 |.mk op nm x l=>h _ (S.indL h l)
theorem S.indL{P:S->Prop}(h:∀x,(∀b,b∈x.l->P b)->P x):∀(l:List S) (b:S),b∈l->P b
 |[],_,hy=>by cases hy
 |a::r,b,hy=>by
  cases hy with
  |head=>exact S.ind h a
  |tail _ ht=>exact S.indL h r b ht
 end
mutual
theorem Itm.ind{P:Itm->Prop}(h:∀x,(∀a,a∈x.l->P a)->(∀a,a∈x.els->P a)->P x):∀x,P x
 |.mk op nm of x s l els ps bs=>h _ (Itm.indL h l) (Itm.indL h els)
theorem Itm.indL{P:Itm->Prop}(h:∀x,(∀b,b∈x.l->P b)->(∀b,b∈x.els->P b)->P x):∀(l:List Itm) (b:Itm),b∈l->P b
 |[],_,hy=>by cases hy
 |a::r,b,hy=>by
  cases hy with
  |head=>exact Itm.ind h a
  |tail _ ht=>exact Itm.indL h r b ht
 end
theorem dB{a b c:Prop}(h:a\/b)(f:b->c):a\/c:=h.elim Or.inl (λx=>Or.inr (f x))
theorem Hd{p:Prop}(h:p):Hid p:=h
theorem _root_.Go.RowKit.Hid.o{p:Prop}(h:Hid p):p:=h
theorem hmf_(P:Program)(a:Fn)(first cap:Array Value)(w:World):(Instr.makeFunc a first cap).run P w=.ok (.func a first cap) w:=rfl
theorem zA{p:Prop}(h:p:=by go_simp;first|exact⟨_,rfl,af _,rfl⟩|exact⟨af _,rfl⟩|exact rfl|exact⟨_,rfl,rfl⟩|exact af _):p:=h
theorem zB{p:Prop}(h:p:=by go_simp;first|exact⟨_,rfl,rfl,rfl⟩|exact⟨_,rfl,rfl⟩|exact⟨rfl,rfl⟩|exact rfl):p:=h
theorem zC{p:Prop}(h:p:=by go_simp;first|exact⟨_,rfl,af _,rfl⟩|exact⟨af _,rfl⟩|exact rfl|exact⟨_,rfl,rfl⟩):p:=h
theorem zE{p:Prop}(h:p:=by go_simp;first|exact⟨_,rfl,af _,rfl⟩|exact⟨af _,rfl⟩|exact⟨_,rfl,rfl⟩|exact rfl):p:=h
theorem zF{p:Prop}(h:p:=by first|exact⟨_,rfl,af _,rfl⟩|exact⟨af _,rfl⟩|exact rfl|exact⟨_,rfl,rfl⟩):p:=h
def Ext(w a:World):Prop:=Below w.heap.size w a
theorem Ext.refl(w:World):Ext w w:=Below.refl _ _
theorem Ext.size{w a:World}(h:Ext w a):w.heap.size<=a.heap.size:=Below.size h
theorem Ext.trans{a b c:World}(h:Ext a b)(k:Ext b c):Ext a c:=Below.trans h (Below.mono k h.size)
theorem Ext.alloc{a w:World}(h:Ext a w)(o:Obj):Ext a (w.alloc o):=Below.alloc h h.size o
theorem Ext.new(w:World)(o:Obj):Ext w (w.alloc o):=(Ext.refl w).alloc o
theorem Ext.drew{a w:World}(h:Ext a w):Ext a w.drew:=Below.drew h
theorem Ext.setCell{a w:World}(h:Ext a w){p:Addr}(b:a.heap.size<=p.block)(u:Value):Ext a (w.setCell p u):=Below.setCell h b u
theorem Ext.cell{a w:World}(h:Ext a w){p:Addr}(b:p.block<a.heap.size):w.cell? p=a.cell? p:=Below.cell h b
theorem Ext.frozen{a w:World}(h:Ext a w){p:Addr}(b:p.block<a.heap.size):w.frozen? p=a.frozen? p:=Below.frozen h b
theorem Ext.heap{a w:World}(h:Ext a w){b:Nat}(c:b<a.heap.size):w.heap[b]? =a.heap[b]? :=h.block b c
theorem Ext.grown{a w c:World}{row:Option Nat}(h:Ext a w)(d:w.grownBy c row)(e:∀b,row=some b->a.heap.size<=b):Ext a c:=Below.grown h d h.size e
theorem Ext.at_{a w:World}(h:Ext a w){p:Addr}{v:Value}(b:a.cell? p=some v):w.cell? p=some v:=by
 refine(h.cell ?_).trans b;rcases Nat.lt_or_ge p.block a.heap.size with d|c
 ·exact d
 ·rw[World.cell?,Array.getElem?_eq_none c] at b;cases b
structure Later(W:World) where
 w:World
 ext:Ext W w
instance {W:World}:Nonempty (Later W):=⟨⟨W,Ext.refl W⟩⟩
theorem Later.mk_ex{W w:World}(h:Ext W w):∃e:Later W,w=e.w:=⟨⟨w,h⟩,rfl⟩
theorem Later.calls{P:Program}{f:FuncId}{args:Array Value}{W:World}{e:Later W}{v:Value}(h:Calls P f args e.w λx d=>x=.returned v/\Ext e.w d):
 Calls P f args e.w λx g=>x=.returned v/\∃a:Later W,g=a.w:=
 h.mono λ_ _ ⟨c,b⟩=>⟨c,Later.mk_ex (e.ext.trans b)⟩
def Cells(w:World)(b o:Nat)(c:List Value):Prop:=∀a v,c[a]? =some v->w.cell? ⟨b,o+a,none⟩=some v
theorem Cells.ext{w c:World}{b o:Nat}{a:List Value}(h:Cells w b o a)(e:Ext w c):Cells c b o a:=λf v d=>e.at_ (h f v d)
def ElemAt(w:World)(B:Nat)(a:Option Addr)(d k:Nat)(R:List Value->Prop):Prop:=
 ∃c o b,a=some ⟨c,o,none⟩/\c<B/\b.length=d/\Cells w c (o+k*d) b/\(∀v,v∈b->v.oneCell'=true)/\R b
def Row{α:Type}(R:α->List Value->Prop)(w:World)(B c:Nat)(l:List α)(a:Option Addr):Prop:=
 ∀b,(d:b<l.length)->ElemAt w B a c b (R l[b])
def Sl{α:Type}(R:α->List Value->Prop)(w:World)(B c:Nat)(l:List α)(v:Value):Prop:=
 ∃a b,v=.slice a l.length b/\l.length<=b/\Row R w B c l a
theorem ElemAt.keep{w g:World}{B:Nat}{a:Option Addr}{f k:Nat}{R e:List Value->Prop}(h:ElemAt w B a f k R)(s:∀c:Addr,c.block<B->g.cell? c=w.cell? c){d:Nat}(u:B<=d)(l:∀b,R b->e b):ElemAt g d a f k e:=by
 obtain⟨i,o,b,ha,m,p,n,j,q⟩:=h;exact⟨i,o,b,ha,zO,p,λt v r=>(s _ m).trans (n t v r),j,l _ q⟩
theorem Row.keep{α:Type}{R e:α->List Value->Prop}{w j:World}{B i:Nat}{l:List α}{a:Option Addr}(h:Row R w B i l a)(n:∀b:Addr,b.block<B->j.cell? b=w.cell? b){d:Nat}(k:B<=d)
 (m:∀c,c∈l->∀f,R c f->e c f):Row e j d i l a:=
 λo g=>(h o g).keep n k (m _ (List.getElem_mem g))
theorem Sl.keep{α:Type}{R d:α->List Value->Prop}{w g:World}{B f:Nat}{l:List α}{v:Value}(h:Sl R w B f l v)(q:∀a:Addr,a.block<B->g.cell? a=w.cell? a){c:Nat}(k:B<=c)
 (m:∀b,b∈l->∀e,R b e->d b e):Sl d g c f l v:=by
 obtain⟨i,j,p,n,o⟩:=h;exact⟨i,j,p,n,o.keep q k m⟩
theorem Sl.nil{α:Type}{R:α->List Value->Prop}{w:World}{B b:Nat}:Sl R w B b [] (.slice none 0 0):=⟨none,0,rfl,Nat.le_refl _,λc a=>absurd a zS⟩
theorem Sl.oneCell{α:Type}{R:α->List Value->Prop}{w:World}{B a:Nat}{l:List α}{v:Value}(h:Sl R w B a l v):v.oneCell'=true:=by
 obtain⟨b,c,rfl,_,_⟩:=h;rfl
def RX(w:World)(B:Nat):X->List Value->Prop
 |.mk op nm n wd v l,cs=>∃b c,cs=[.int .i64 op,.string nm,.int .i64 n,.int .i64 wd,.int .u64 v,.slice b l.length c]/\l.length<=c/\
   ∀a,(e:a<l.length)->ElemAt w B b 6 a (λd=>RX w B l[a] d)
termination_by x=>SizeOf.sizeOf x
decreasing_by
 have:=List.sizeOf_lt_of_mem (List.getElem_mem e);simp only[X.mk.sizeOf_spec];omega
theorem RX_iff{w:World}{B:Nat}{x:X}{f:List Value}:
 RX w B x f↔∃v,f=[.int .i64 x.op,.string x.name,.int .i64 x.n,.int .i64 x.w,.int .u64 x.v,v]/\Sl (RX w B) w B 6 x.l v:=by
 obtain⟨op,g,n,h,v,l⟩:=x;rw[RX];constructor
 ·rintro⟨a,b,c,d,e⟩;exact⟨_,c,a,b,rfl,d,e⟩
 ·rintro⟨_,c,a,b,rfl,d,e⟩;exact⟨a,b,c,d,e⟩
theorem RX.keep{w d:World}{B c:Nat}(i:∀b:Addr,b.block<B->d.cell? b=w.cell? b)(f:B<=c)(x:X):∀a,RX w B x a->RX d c x a:=by
 induction x using X.ind with
 |h x ih=>
  intro a e;obtain⟨v,rfl,g⟩:=RX_iff.1 e;exact RX_iff.2 ⟨v,rfl,g.keep i f ih⟩
def RS(w:World)(B:Nat):S->List Value->Prop
 |.mk op nm x l,cs=>∃d,Sl (RX w B) w B 6 x d/\∃b c,cs=[.int .i64 op,.string nm,d,.slice b l.length c]/\l.length<=c/\
   ∀a,(f:a<l.length)->ElemAt w B b 4 a (λe=>RS w B l[a] e)
termination_by x=>SizeOf.sizeOf x
decreasing_by
 have:=List.sizeOf_lt_of_mem (List.getElem_mem f);simp only[S.mk.sizeOf_spec];omega
theorem RS_iff{w:World}{B:Nat}{x:S}{g:List Value}:
 RS w B x g↔∃h i,g=[.int .i64 x.op,.string x.name,h,i]/\Sl (RX w B) w B 6 x.x h/\Sl (RS w B) w B 4 x.l i:=by
 obtain⟨op,j,x,l⟩:=x;rw[RS];constructor
 ·rintro⟨k,c,a,b,d,e,f⟩;exact⟨_,_,d,c,a,b,rfl,e,f⟩
 ·rintro⟨_,_,d,c,a,b,rfl,e,f⟩;exact⟨_,c,a,b,d,e,f⟩
theorem RS.keep{w f:World}{B e:Nat}(c:∀d:Addr,d.block<B->f.cell? d=w.cell? d)(b:B<=e)(x:S):∀a,RS w B x a->RS f e x a:=by
 induction x using S.ind with
 |h x ih=>
  intro a g;obtain⟨k,l,rfl,i,j⟩:=RS_iff.1 g;exact RS_iff.2 ⟨k,l,rfl,i.keep c b (λm _=>RX.keep c b m),j.keep c b ih⟩
def RB(w:World)(B:Nat)(x:Bnd)(b:List Value):Prop:=∃a,b=.string x.name::a/\RX w B x.x a
theorem RB.keep{w d:World}{B c:Nat}(h:∀b:Addr,b.block<B->d.cell? b=w.cell? b)(g:B<=c)(x:Bnd):∀a,RB w B x a->RB d c x a:=by
 rintro a ⟨e,rfl,f⟩;exact⟨e,rfl,RX.keep h g _ _ f⟩
theorem RB_iff{w:World}{B:Nat}{x:Bnd}{c d e f g h i:Value}:RB w B x [c,d,e,f,g,h,i]↔c=.string x.name/\RX w B x.x [d,e,f,g,h,i]:=by
 constructor
 ·rintro⟨j,a,b⟩;simp only[List.cons.injEq] at a;obtain⟨rfl,a⟩:=a;exact⟨rfl,by rw[a];exact b⟩
 ·rintro⟨rfl,b⟩;exact⟨_,rfl,b⟩
def RP(w:World)(B:Nat)(x:Prt)(b:List Value):Prop:=∃a,b=.string x.name::.bool x.o::a/\RX w B x.w a
theorem RP.keep{w d:World}{B c:Nat}(h:∀b:Addr,b.block<B->d.cell? b=w.cell? b)(g:B<=c)(x:Prt):∀a,RP w B x a->RP d c x a:=by
 rintro a ⟨e,rfl,f⟩;exact⟨e,rfl,RX.keep h g _ _ f⟩
theorem RP_iff{w:World}{B:Nat}{x:Prt}{c d e f g h i j:Value}:RP w B x [c,d,e,f,g,h,i,j]↔c=.string x.name/\d=.bool x.o/\RX w B x.w [e,f,g,h,i,j]:=by
 constructor
 ·rintro⟨k,a,b⟩;simp only[List.cons.injEq] at a;obtain⟨rfl,rfl,a⟩:=a;exact⟨rfl,rfl,by rw[a];exact b⟩
 ·rintro⟨rfl,rfl,b⟩;exact⟨_,rfl,b⟩
def RI(w:World)(B:Nat):Itm->List Value->Prop
 |.mk op nm of x s l els ps bs,cs=>∃k j i h,Sl (RX w B) w B 6 x k/\Sl (RS w B) w B 4 s j/\Sl (RB w B) w B 7 ps i/\Sl (RB w B) w B 7 bs h/\
  ∃d f e g,cs=[.int .i64 op,.string nm,.string of,k,j,.slice d l.length f,.slice e els.length g,i,h]/\l.length<=f/\els.length<=g/\
   (∀a,(c:a<l.length)->ElemAt w B d 9 a (λb=>RI w B l[a] b))/\(∀a,(c:a<els.length)->ElemAt w B e 9 a (λb=>RI w B els[a] b))
termination_by x=>SizeOf.sizeOf x
decreasing_by
 ·have:=List.sizeOf_lt_of_mem (List.getElem_mem c);simp only[Itm.mk.sizeOf_spec];omega
 ·have:=List.sizeOf_lt_of_mem (List.getElem_mem c);simp only[Itm.mk.sizeOf_spec];omega
theorem RI_iff{w:World}{B:Nat}{x:Itm}{o:List Value}:
 RI w B x o↔∃p q r t u v,o=[.int .i64 x.op,.string x.name,.string x.of,p,q,r,t,u,v]/\Sl (RX w B) w B 6 x.x p/\Sl (RS w B) w B 4 x.s q/\Sl (RI w B) w B 9 x.l r/\Sl (RI w B) w B 9 x.els t/\
  Sl (RB w B) w B 7 x.params u/\Sl (RB w B) w B 7 x.binds v:=by
 obtain⟨op,z,of,x,s,l,els,A,y⟩:=x;rw[RI];constructor
 ·rintro⟨F,E,D,C,e,f,g,h,a,c,b,d,i,j,k,m,n⟩;exact⟨_,_,_,_,_,_,i,e,f,⟨a,c,rfl,j,m⟩,⟨b,d,rfl,k,n⟩,g,h⟩
 ·rintro⟨_,_,_,_,_,_,i,e,f,⟨a,c,rfl,j,m⟩,⟨b,d,rfl,k,n⟩,g,h⟩;exact⟨_,_,_,_,e,f,g,h,a,c,b,d,i,j,k,m,n⟩
theorem RI.keep{w g:World}{B f:Nat}(b:∀e:Addr,e.block<B->g.cell? e=w.cell? e)(a:B<=f)(x:Itm):∀d,RI w B x d->RI g f x d:=by
 induction x using Itm.ind with
 |h x ih1 ih2=>
  intro d i;obtain⟨p,q,r,s,t,u,rfl,j,k,l,m,n,o⟩:=RI_iff.1 i
  exact RI_iff.2 ⟨p,q,r,s,t,u,rfl,j.keep b a (λc _=>RX.keep b a c),k.keep b a (λc _=>RS.keep b a c),l.keep b a ih1,m.keep b a ih2,
   n.keep b a (λc _=>RB.keep b a c),o.keep b a (λc _=>RB.keep b a c)⟩
def RM(w:World)(B:Nat)(x:Mdl)(d:List Value):Prop:=
 ∃a b c,d=[.string x.name,a,b,c]/\Sl (RB w B) w B 7 x.params a/\Sl (RP w B) w B 8 x.ports b/\Sl (RI w B) w B 9 x.items c
theorem RM.keep{w g:World}{B f:Nat}(b:∀e:Addr,e.block<B->g.cell? e=w.cell? e)(a:B<=f)(x:Mdl):∀d,RM w B x d->RM g f x d:=by
 rintro d ⟨k,l,m,rfl,h,i,j⟩;exact⟨k,l,m,rfl,h.keep b a (λc _=>RB.keep b a c),i.keep b a (λc _=>RP.keep b a c),j.keep b a (λc _=>RI.keep b a c)⟩
theorem RX.ext{w b:World}{B:Nat}{x:X}{a:List Value}(h:RX w B x a)(c:Ext w b)(d:B<=w.heap.size):RX b B x a:=
 RX.keep (λ_ e=>c.cell zO) (Nat.le_refl _) x a h
theorem RX.more{w:World}{B b:Nat}{x:X}{a:List Value}(h:RX w B x a)(c:B<=b):RX w b x a:=
 RX.keep (λ_ _=>rfl) c x a h
theorem Sl.extRX{w a:World}{B c:Nat}{l:List X}{v:Value}(h:Sl (RX w B) w B c l v)(b:Ext w a)(d:B<=w.heap.size):Sl (RX a B) a B c l v:=
 h.keep (λ_ f=>b.cell zO) (Nat.le_refl _) (λ_ _ _ e=>e.ext b d)
theorem RS.ext{w b:World}{B:Nat}{x:S}{a:List Value}(h:RS w B x a)(c:Ext w b)(d:B<=w.heap.size):RS b B x a:=
 RS.keep (λ_ e=>c.cell zO) (Nat.le_refl _) x a h
theorem Sl.extRS{w a:World}{B c:Nat}{l:List S}{v:Value}(h:Sl (RS w B) w B c l v)(b:Ext w a)(d:B<=w.heap.size):Sl (RS a B) a B c l v:=
 h.keep (λ_ f=>b.cell zO) (Nat.le_refl _) (λ_ _ _ e=>e.ext b d)
theorem RB.ext{w b:World}{B:Nat}{x:Bnd}{a:List Value}(h:RB w B x a)(c:Ext w b)(d:B<=w.heap.size):RB b B x a:=
 RB.keep (λ_ e=>c.cell zO) (Nat.le_refl _) x a h
theorem Sl.extRB{w a:World}{B c:Nat}{l:List Bnd}{v:Value}(h:Sl (RB w B) w B c l v)(b:Ext w a)(d:B<=w.heap.size):Sl (RB a B) a B c l v:=
 h.keep (λ_ f=>b.cell zO) (Nat.le_refl _) (λ_ _ _ e=>e.ext b d)
theorem RP.ext{w b:World}{B:Nat}{x:Prt}{a:List Value}(h:RP w B x a)(c:Ext w b)(d:B<=w.heap.size):RP b B x a:=
 RP.keep (λ_ e=>c.cell zO) (Nat.le_refl _) x a h
theorem Sl.extRP{w a:World}{B c:Nat}{l:List Prt}{v:Value}(h:Sl (RP w B) w B c l v)(b:Ext w a)(d:B<=w.heap.size):Sl (RP a B) a B c l v:=
 h.keep (λ_ f=>b.cell zO) (Nat.le_refl _) (λ_ _ _ e=>e.ext b d)
theorem RI.ext{w b:World}{B:Nat}{x:Itm}{a:List Value}(h:RI w B x a)(c:Ext w b)(d:B<=w.heap.size):RI b B x a:=
 RI.keep (λ_ e=>c.cell zO) (Nat.le_refl _) x a h
theorem Sl.extRI{w a:World}{B c:Nat}{l:List Itm}{v:Value}(h:Sl (RI w B) w B c l v)(b:Ext w a)(d:B<=w.heap.size):Sl (RI a B) a B c l v:=
 h.keep (λ_ f=>b.cell zO) (Nat.le_refl _) (λ_ _ _ e=>e.ext b d)
theorem RM.ext{w b:World}{B:Nat}{x:Mdl}{a:List Value}(h:RM w B x a)(c:Ext w b)(d:B<=w.heap.size):RM b B x a:=
 RM.keep (λ_ e=>c.cell zO) (Nat.le_refl _) x a h
theorem RM.more{w:World}{B b:Nat}{x:Mdl}{a:List Value}(h:RM w B x a)(c:B<=b):RM w b x a:=
 RM.keep (λ_ _=>rfl) c x a h
theorem Sl.extRM{w a:World}{B c:Nat}{l:List Mdl}{v:Value}(h:Sl (RM w B) w B c l v)(b:Ext w a)(d:B<=w.heap.size):Sl (RM a B) a B c l v:=
 h.keep (λ_ f=>b.cell zO) (Nat.le_refl _) (λ_ _ _ e=>e.ext b d)
theorem Sl.moreRM{w:World}{B a c:Nat}{l:List Mdl}{v:Value}(h:Sl (RM w B) w B c l v)(b:B<=a):Sl (RM w a) w a c l v:=
 h.keep (λ_ _=>rfl) b (λ_ _ _ d=>d.more b)
def Blk(w:World)(g:Nat)(t:TypeId)(a:List Value):Prop:=w.heap[g]? =some (.cells a.toArray t (0,0))
theorem Blk.cell{w:World}{g:Nat}{t:TypeId}{a:List Value}(h:Blk w g t a)(i:Nat):w.cell? ⟨g,i,none⟩=a[i]? :=by
 unfold Blk at h;simp[World.cell?,h]
theorem Blk.frozen{w:World}{g:Nat}{t:TypeId}{a:List Value}(h:Blk w g t a)(i:Nat):w.frozen? ⟨g,i,none⟩=false:=by
 unfold Blk at h;simp[World.frozen?,h]
theorem Blk.lt{w:World}{g:Nat}{t:TypeId}{a:List Value}(h:Blk w g t a):g<w.heap.size:=by
 rcases Nat.lt_or_ge g w.heap.size with c|b
 ·exact c
 ·unfold Blk at h;rw[Array.getElem?_eq_none b] at h;cases h
theorem Blk.ext{w b:World}{g:Nat}{t:TypeId}{a:List Value}(h:Blk w g t a)(c:Ext w b):Blk b g t a:=(c.heap h.lt).trans h
theorem Blk.new(w:World)(t:TypeId)(a:List Value):Blk (w.alloc (.cells a.toArray t)) w.heap.size t a:=by
 show(w.heap.push _)[w.heap.size]? =_;simp
theorem Blk.set_{w:World}{g:Nat}{t:TypeId}{a:List Value}(h:Blk w g t a)(i:Nat)(u:Value):Blk (w.setCell ⟨g,i,none⟩ u) g t (a.set i u):=by
 unfold Blk at h⊢;simp[World.setCell,Array.getElem?_modify,h]
theorem Blk.far{w:World}{g:Nat}{t:TypeId}{a:List Value}(h:Blk w g t a){p:Addr}(b:g≠p.block)(u:Value):Blk (w.setCell p u) g t a:=(Below.heap_setCell w p u g b).trans h
theorem Blk.alloc{w:World}{g:Nat}{t:TypeId}{a:List Value}(h:Blk w g t a)(o:Obj):Blk (w.alloc o) g t a:=h.ext (Ext.new w o)
theorem Blk.cells{w:World}{g:Nat}{t:TypeId}{a:List Value}(h:Blk w g t a):Cells w g 0 a:=λc v b=>by rw[Nat.zero_add,h.cell c];exact b
theorem Blk.get1{w:World}{g:Nat}{t:TypeId}{a:Value}(h:Blk w g t [a]):w.cell? ⟨g,0,none⟩=some a:=h.cell 0
theorem Blk.free1{w:World}{g:Nat}{t:TypeId}{a:Value}(h:Blk w g t [a]):w.frozen? ⟨g,0,none⟩=false:=h.frozen 0
theorem Blk.later1{w:World}{g:Nat}{t:TypeId}{a:Value}(h:Blk w g t [a]):(∀e:Later w,e.w.cell? ⟨g,0,none⟩=some a):=λe=>(h.ext e.ext).cell 0
theorem Blk.laterFree1{w:World}{g:Nat}{t:TypeId}{a:Value}(h:Blk w g t [a]):(∀e:Later w,e.w.frozen? ⟨g,0,none⟩=false):=λe=>(h.ext e.ext).frozen 0
theorem Blk.store1{w:World}{g:Nat}{t:TypeId}{a:Value}(u0:Value)(h:Blk w g t [a]):Blk (w.setCell ⟨g,0,none⟩ u0) g t [u0]:=by simpa using(h.set_ 0 u0)
theorem aL(w:World)(b:Value)(t:TypeId):∃a,a=w.alloc (.cells #[b] t)/\Ext w a/\Blk a w.heap.size t [b]:=⟨_,rfl,Ext.new _ _,Blk.new _ _ _⟩
theorem Cells.get2{w:World}{b o:Nat}{a c:Value}(h:Cells w b o [a,c]):w.cell? ⟨b,o,none⟩=some a/\w.cell? ⟨b,o+1,none⟩=some c:=⟨h 0 _ rfl,h 1 _ rfl⟩
theorem Cells.later2{w:World}{b o:Nat}{a c:Value}(h:Cells w b o [a,c]):(∀e:Later w,e.w.cell? ⟨b,o,none⟩=some a)/\(∀e:Later w,e.w.cell? ⟨b,o+1,none⟩=some c):=⟨λe=>e.ext.at_ (h 0 _ rfl),λe=>e.ext.at_ (h 1 _ rfl)⟩
theorem Row.open2{α:Type}{R:α->List Value->Prop}{w:World}{B:Nat}{l:List α}{a:Option Addr}{k:Nat}(h:Row R w B 2 l a)(j:k<l.length):
 ∃b o c d,a=some ⟨b,o,none⟩/\b<B/\R l[k] [c,d]/\Cells w b (o+k*2) [c,d]/\c.oneCell'=true/\d.oneCell'=true:=by
 obtain⟨b,o,f,ha,g,m,i,e,n⟩:=h k j;match f,m with
 |[c,d],_=>exact⟨b,o,_,_,ha,g,n,i,e _ zS,e _ zS⟩
theorem Blk.get2{w:World}{g:Nat}{t:TypeId}{a b:Value}(h:Blk w g t [a,b]):w.cell? ⟨g,0,none⟩=some a/\w.cell? ⟨g,1,none⟩=some b:=⟨h.cell 0,h.cell 1⟩
theorem Blk.free2{w:World}{g:Nat}{t:TypeId}{a b:Value}(h:Blk w g t [a,b]):w.frozen? ⟨g,0,none⟩=false/\w.frozen? ⟨g,1,none⟩=false:=⟨h.frozen 0,h.frozen 1⟩
theorem Blk.later2{w:World}{g:Nat}{t:TypeId}{a b:Value}(h:Blk w g t [a,b]):(∀e:Later w,e.w.cell? ⟨g,0,none⟩=some a)/\(∀e:Later w,e.w.cell? ⟨g,1,none⟩=some b):=⟨λe=>(h.ext e.ext).cell 0,λe=>(h.ext e.ext).cell 1⟩
theorem Blk.laterFree2{w:World}{g:Nat}{t:TypeId}{a b:Value}(h:Blk w g t [a,b]):(∀e:Later w,e.w.frozen? ⟨g,0,none⟩=false)/\(∀e:Later w,e.w.frozen? ⟨g,1,none⟩=false):=⟨λe=>(h.ext e.ext).frozen 0,λe=>(h.ext e.ext).frozen 1⟩
theorem Blk.store2{w:World}{g:Nat}{t:TypeId}{a b:Value}(u0 u1:Value)(h:Blk w g t [a,b]):Blk ((w.setCell ⟨g,0,none⟩ u0).setCell ⟨g,1,none⟩ u1) g t [u0,u1]:=by simpa using((h.set_ 0 u0).set_ 1 u1)
theorem dd(w:World)(b c:Value)(t:TypeId):∃a,a=w.alloc (.cells #[b,c] t)/\Ext w a/\Blk a w.heap.size t [b,c]:=⟨_,rfl,Ext.new _ _,Blk.new _ _ _⟩
theorem Blk.get3{w:World}{g:Nat}{t:TypeId}{a b c:Value}(h:Blk w g t [a,b,c]):w.cell? ⟨g,0,none⟩=some a/\w.cell? ⟨g,1,none⟩=some b/\w.cell? ⟨g,2,none⟩=some c:=⟨h.cell 0,h.cell 1,h.cell 2⟩
theorem Blk.free3{w:World}{g:Nat}{t:TypeId}{a b c:Value}(h:Blk w g t [a,b,c]):w.frozen? ⟨g,0,none⟩=false/\w.frozen? ⟨g,1,none⟩=false/\w.frozen? ⟨g,2,none⟩=false:=⟨h.frozen 0,h.frozen 1,h.frozen 2⟩
theorem Blk.later3{w:World}{g:Nat}{t:TypeId}{a b c:Value}(h:Blk w g t [a,b,c]):(∀e:Later w,e.w.cell? ⟨g,0,none⟩=some a)/\(∀e:Later w,e.w.cell? ⟨g,1,none⟩=some b)/\(∀e:Later w,e.w.cell? ⟨g,2,none⟩=some c):=⟨λe=>(h.ext e.ext).cell 0,λe=>(h.ext e.ext).cell 1,λe=>(h.ext e.ext).cell 2⟩
theorem Blk.store3{w:World}{g:Nat}{t:TypeId}{a b c:Value}(u0 u1 u2:Value)(h:Blk w g t [a,b,c]):Blk (((w.setCell ⟨g,0,none⟩ u0).setCell ⟨g,1,none⟩ u1).setCell ⟨g,2,none⟩ u2) g t [u0,u1,u2]:=by simpa using(((h.set_ 0 u0).set_ 1 u1).set_ 2 u2)
theorem eS(w:World)(b c d:Value)(t:TypeId):∃a,a=w.alloc (.cells #[b,c,d] t)/\Ext w a/\Blk a w.heap.size t [b,c,d]:=⟨_,rfl,Ext.new _ _,Blk.new _ _ _⟩
theorem Cells.get4{w:World}{b o:Nat}{a c d e:Value}(h:Cells w b o [a,c,d,e]):w.cell? ⟨b,o,none⟩=some a/\w.cell? ⟨b,o+1,none⟩=some c/\w.cell? ⟨b,o+2,none⟩=some d/\w.cell? ⟨b,o+3,none⟩=some e:=⟨h 0 _ rfl,h 1 _ rfl,h 2 _ rfl,h 3 _ rfl⟩
theorem Cells.later4{w:World}{b o:Nat}{a c d f:Value}(h:Cells w b o [a,c,d,f]):(∀e:Later w,e.w.cell? ⟨b,o,none⟩=some a)/\(∀e:Later w,e.w.cell? ⟨b,o+1,none⟩=some c)/\(∀e:Later w,e.w.cell? ⟨b,o+2,none⟩=some d)/\(∀e:Later w,e.w.cell? ⟨b,o+3,none⟩=some f):=⟨λe=>e.ext.at_ (h 0 _ rfl),λe=>e.ext.at_ (h 1 _ rfl),λe=>e.ext.at_ (h 2 _ rfl),λe=>e.ext.at_ (h 3 _ rfl)⟩
theorem Row.open4{α:Type}{R:α->List Value->Prop}{w:World}{B:Nat}{l:List α}{a:Option Addr}{k:Nat}(h:Row R w B 4 l a)(n:k<l.length):
 ∃b o d e f g,a=some ⟨b,o,none⟩/\b<B/\R l[k] [d,e,f,g]/\Cells w b (o+k*4) [d,e,f,g]/\d.oneCell'=true/\e.oneCell'=true/\f.oneCell'=true/\g.oneCell'=true:=by
 obtain⟨b,o,i,ha,j,p,m,c,q⟩:=h k n;match i,p with
 |[d,e,f,g],_=>exact⟨b,o,_,_,_,_,ha,j,q,m,c _ zS,c _ zS,c _ zS,c _ zS⟩
theorem Blk.get4{w:World}{g:Nat}{t:TypeId}{a b c d:Value}(h:Blk w g t [a,b,c,d]):w.cell? ⟨g,0,none⟩=some a/\w.cell? ⟨g,1,none⟩=some b/\w.cell? ⟨g,2,none⟩=some c/\w.cell? ⟨g,3,none⟩=some d:=⟨h.cell 0,h.cell 1,h.cell 2,h.cell 3⟩
theorem Blk.free4{w:World}{g:Nat}{t:TypeId}{a b c d:Value}(h:Blk w g t [a,b,c,d]):w.frozen? ⟨g,0,none⟩=false/\w.frozen? ⟨g,1,none⟩=false/\w.frozen? ⟨g,2,none⟩=false/\w.frozen? ⟨g,3,none⟩=false:=⟨h.frozen 0,h.frozen 1,h.frozen 2,h.frozen 3⟩
theorem Blk.later4{w:World}{g:Nat}{t:TypeId}{a b c d:Value}(h:Blk w g t [a,b,c,d]):(∀e:Later w,e.w.cell? ⟨g,0,none⟩=some a)/\(∀e:Later w,e.w.cell? ⟨g,1,none⟩=some b)/\(∀e:Later w,e.w.cell? ⟨g,2,none⟩=some c)/\(∀e:Later w,e.w.cell? ⟨g,3,none⟩=some d):=⟨λe=>(h.ext e.ext).cell 0,λe=>(h.ext e.ext).cell 1,λe=>(h.ext e.ext).cell 2,λe=>(h.ext e.ext).cell 3⟩
theorem Blk.store4{w:World}{g:Nat}{t:TypeId}{a b c d:Value}(u0 u1 u2 u3:Value)(h:Blk w g t [a,b,c,d]):Blk ((((w.setCell ⟨g,0,none⟩ u0).setCell ⟨g,1,none⟩ u1).setCell ⟨g,2,none⟩ u2).setCell ⟨g,3,none⟩ u3) g t [u0,u1,u2,u3]:=by simpa using((((h.set_ 0 u0).set_ 1 u1).set_ 2 u2).set_ 3 u3)
theorem bK(w:World)(b c d e:Value)(t:TypeId):∃a,a=w.alloc (.cells #[b,c,d,e] t)/\Ext w a/\Blk a w.heap.size t [b,c,d,e]:=⟨_,rfl,Ext.new _ _,Blk.new _ _ _⟩
theorem Cells.later5{w:World}{b o:Nat}{a c d f g:Value}(h:Cells w b o [a,c,d,f,g]):(∀e:Later w,e.w.cell? ⟨b,o,none⟩=some a)/\(∀e:Later w,e.w.cell? ⟨b,o+1,none⟩=some c)/\(∀e:Later w,e.w.cell? ⟨b,o+2,none⟩=some d)/\(∀e:Later w,e.w.cell? ⟨b,o+3,none⟩=some f)/\(∀e:Later w,e.w.cell? ⟨b,o+4,none⟩=some g):=⟨λe=>e.ext.at_ (h 0 _ rfl),λe=>e.ext.at_ (h 1 _ rfl),λe=>e.ext.at_ (h 2 _ rfl),λe=>e.ext.at_ (h 3 _ rfl),λe=>e.ext.at_ (h 4 _ rfl)⟩
theorem Cells.get6{w:World}{b o:Nat}{a c d e f g:Value}(h:Cells w b o [a,c,d,e,f,g]):w.cell? ⟨b,o,none⟩=some a/\w.cell? ⟨b,o+1,none⟩=some c/\w.cell? ⟨b,o+2,none⟩=some d/\w.cell? ⟨b,o+3,none⟩=some e/\w.cell? ⟨b,o+4,none⟩=some f/\w.cell? ⟨b,o+5,none⟩=some g:=⟨h 0 _ rfl,h 1 _ rfl,h 2 _ rfl,h 3 _ rfl,h 4 _ rfl,h 5 _ rfl⟩
theorem Cells.later6{w:World}{b o:Nat}{a c d f g i:Value}(h:Cells w b o [a,c,d,f,g,i]):(∀e:Later w,e.w.cell? ⟨b,o,none⟩=some a)/\(∀e:Later w,e.w.cell? ⟨b,o+1,none⟩=some c)/\(∀e:Later w,e.w.cell? ⟨b,o+2,none⟩=some d)/\(∀e:Later w,e.w.cell? ⟨b,o+3,none⟩=some f)/\(∀e:Later w,e.w.cell? ⟨b,o+4,none⟩=some g)/\(∀e:Later w,e.w.cell? ⟨b,o+5,none⟩=some i):=⟨λe=>e.ext.at_ (h 0 _ rfl),λe=>e.ext.at_ (h 1 _ rfl),λe=>e.ext.at_ (h 2 _ rfl),λe=>e.ext.at_ (h 3 _ rfl),λe=>e.ext.at_ (h 4 _ rfl),λe=>e.ext.at_ (h 5 _ rfl)⟩
theorem Row.open6{α:Type}{R:α->List Value->Prop}{w:World}{B:Nat}{l:List α}{a:Option Addr}{k:Nat}(h:Row R w B 6 l a)(q:k<l.length):
 ∃c o d e f g i j,a=some ⟨c,o,none⟩/\c<B/\R l[k] [d,e,f,g,i,j]/\Cells w c (o+k*6) [d,e,f,g,i,j]/\d.oneCell'=true/\e.oneCell'=true/\f.oneCell'=true/\g.oneCell'=true/\i.oneCell'=true/\j.oneCell'=true:=by
 obtain⟨c,o,m,ha,n,r,p,b,s⟩:=h k q;match m,r with
 |[d,e,f,g,i,j],_=>exact⟨c,o,_,_,_,_,_,_,ha,n,s,p,b _ zS,b _ zS,b _ zS,b _ zS,b _ zS,b _ zS⟩
theorem Blk.get6{w:World}{g:Nat}{t:TypeId}{a b c d e f:Value}(h:Blk w g t [a,b,c,d,e,f]):w.cell? ⟨g,0,none⟩=some a/\w.cell? ⟨g,1,none⟩=some b/\w.cell? ⟨g,2,none⟩=some c/\w.cell? ⟨g,3,none⟩=some d/\w.cell? ⟨g,4,none⟩=some e/\w.cell? ⟨g,5,none⟩=some f:=⟨h.cell 0,h.cell 1,h.cell 2,h.cell 3,h.cell 4,h.cell 5⟩
theorem Blk.free6{w:World}{g:Nat}{t:TypeId}{a b c d e f:Value}(h:Blk w g t [a,b,c,d,e,f]):w.frozen? ⟨g,0,none⟩=false/\w.frozen? ⟨g,1,none⟩=false/\w.frozen? ⟨g,2,none⟩=false/\w.frozen? ⟨g,3,none⟩=false/\w.frozen? ⟨g,4,none⟩=false/\w.frozen? ⟨g,5,none⟩=false:=⟨h.frozen 0,h.frozen 1,h.frozen 2,h.frozen 3,h.frozen 4,h.frozen 5⟩
theorem Blk.later6{w:World}{g:Nat}{t:TypeId}{a b c d f i:Value}(h:Blk w g t [a,b,c,d,f,i]):(∀e:Later w,e.w.cell? ⟨g,0,none⟩=some a)/\(∀e:Later w,e.w.cell? ⟨g,1,none⟩=some b)/\(∀e:Later w,e.w.cell? ⟨g,2,none⟩=some c)/\(∀e:Later w,e.w.cell? ⟨g,3,none⟩=some d)/\(∀e:Later w,e.w.cell? ⟨g,4,none⟩=some f)/\(∀e:Later w,e.w.cell? ⟨g,5,none⟩=some i):=⟨λe=>(h.ext e.ext).cell 0,λe=>(h.ext e.ext).cell 1,λe=>(h.ext e.ext).cell 2,λe=>(h.ext e.ext).cell 3,λe=>(h.ext e.ext).cell 4,λe=>(h.ext e.ext).cell 5⟩
theorem Blk.store6{w:World}{g:Nat}{t:TypeId}{a b c d e f:Value}(u0 u1 u2 u3 u4 u5:Value)(h:Blk w g t [a,b,c,d,e,f]):Blk ((((((w.setCell ⟨g,0,none⟩ u0).setCell ⟨g,1,none⟩ u1).setCell ⟨g,2,none⟩ u2).setCell ⟨g,3,none⟩ u3).setCell ⟨g,4,none⟩ u4).setCell ⟨g,5,none⟩ u5) g t [u0,u1,u2,u3,u4,u5]:=by simpa using((((((h.set_ 0 u0).set_ 1 u1).set_ 2 u2).set_ 3 u3).set_ 4 u4).set_ 5 u5)
theorem aV(w:World)(b c d e f g:Value)(t:TypeId):∃a,a=w.alloc (.cells #[b,c,d,e,f,g] t)/\Ext w a/\Blk a w.heap.size t [b,c,d,e,f,g]:=⟨_,rfl,Ext.new _ _,Blk.new _ _ _⟩
theorem Cells.get7{w:World}{b o:Nat}{a c d e f g i:Value}(h:Cells w b o [a,c,d,e,f,g,i]):w.cell? ⟨b,o,none⟩=some a/\w.cell? ⟨b,o+1,none⟩=some c/\w.cell? ⟨b,o+2,none⟩=some d/\w.cell? ⟨b,o+3,none⟩=some e/\w.cell? ⟨b,o+4,none⟩=some f/\w.cell? ⟨b,o+5,none⟩=some g/\w.cell? ⟨b,o+6,none⟩=some i:=⟨h 0 _ rfl,h 1 _ rfl,h 2 _ rfl,h 3 _ rfl,h 4 _ rfl,h 5 _ rfl,h 6 _ rfl⟩
theorem Cells.later7{w:World}{b o:Nat}{a c d f g i j:Value}(h:Cells w b o [a,c,d,f,g,i,j]):(∀e:Later w,e.w.cell? ⟨b,o,none⟩=some a)/\(∀e:Later w,e.w.cell? ⟨b,o+1,none⟩=some c)/\(∀e:Later w,e.w.cell? ⟨b,o+2,none⟩=some d)/\(∀e:Later w,e.w.cell? ⟨b,o+3,none⟩=some f)/\(∀e:Later w,e.w.cell? ⟨b,o+4,none⟩=some g)/\(∀e:Later w,e.w.cell? ⟨b,o+5,none⟩=some i)/\(∀e:Later w,e.w.cell? ⟨b,o+6,none⟩=some j):=⟨λe=>e.ext.at_ (h 0 _ rfl),λe=>e.ext.at_ (h 1 _ rfl),λe=>e.ext.at_ (h 2 _ rfl),λe=>e.ext.at_ (h 3 _ rfl),λe=>e.ext.at_ (h 4 _ rfl),λe=>e.ext.at_ (h 5 _ rfl),λe=>e.ext.at_ (h 6 _ rfl)⟩
theorem Row.open7{α:Type}{R:α->List Value->Prop}{w:World}{B:Nat}{l:List α}{a:Option Addr}{k:Nat}(h:Row R w B 7 l a)(r:k<l.length):
 ∃c o d e f g i j m,a=some ⟨c,o,none⟩/\c<B/\R l[k] [d,e,f,g,i,j,m]/\Cells w c (o+k*7) [d,e,f,g,i,j,m]/\d.oneCell'=true/\e.oneCell'=true/\f.oneCell'=true/\g.oneCell'=true/\i.oneCell'=true/\j.oneCell'=true/\m.oneCell'=true:=by
 obtain⟨c,o,n,ha,p,s,q,b,t⟩:=h k r;match n,s with
 |[d,e,f,g,i,j,m],_=>exact⟨c,o,_,_,_,_,_,_,_,ha,p,t,q,b _ zS,b _ zS,b _ zS,b _ zS,b _ zS,b _ zS,b _ zS⟩
theorem Blk.get7{w:World}{g:Nat}{t:TypeId}{a b c d e f i:Value}(h:Blk w g t [a,b,c,d,e,f,i]):w.cell? ⟨g,0,none⟩=some a/\w.cell? ⟨g,1,none⟩=some b/\w.cell? ⟨g,2,none⟩=some c/\w.cell? ⟨g,3,none⟩=some d/\w.cell? ⟨g,4,none⟩=some e/\w.cell? ⟨g,5,none⟩=some f/\w.cell? ⟨g,6,none⟩=some i:=⟨h.cell 0,h.cell 1,h.cell 2,h.cell 3,h.cell 4,h.cell 5,h.cell 6⟩
theorem Blk.free7{w:World}{g:Nat}{t:TypeId}{a b c d e f i:Value}(h:Blk w g t [a,b,c,d,e,f,i]):w.frozen? ⟨g,0,none⟩=false/\w.frozen? ⟨g,1,none⟩=false/\w.frozen? ⟨g,2,none⟩=false/\w.frozen? ⟨g,3,none⟩=false/\w.frozen? ⟨g,4,none⟩=false/\w.frozen? ⟨g,5,none⟩=false/\w.frozen? ⟨g,6,none⟩=false:=⟨h.frozen 0,h.frozen 1,h.frozen 2,h.frozen 3,h.frozen 4,h.frozen 5,h.frozen 6⟩
theorem Blk.later7{w:World}{g:Nat}{t:TypeId}{a b c d f i j:Value}(h:Blk w g t [a,b,c,d,f,i,j]):(∀e:Later w,e.w.cell? ⟨g,0,none⟩=some a)/\(∀e:Later w,e.w.cell? ⟨g,1,none⟩=some b)/\(∀e:Later w,e.w.cell? ⟨g,2,none⟩=some c)/\(∀e:Later w,e.w.cell? ⟨g,3,none⟩=some d)/\(∀e:Later w,e.w.cell? ⟨g,4,none⟩=some f)/\(∀e:Later w,e.w.cell? ⟨g,5,none⟩=some i)/\(∀e:Later w,e.w.cell? ⟨g,6,none⟩=some j):=⟨λe=>(h.ext e.ext).cell 0,λe=>(h.ext e.ext).cell 1,λe=>(h.ext e.ext).cell 2,λe=>(h.ext e.ext).cell 3,λe=>(h.ext e.ext).cell 4,λe=>(h.ext e.ext).cell 5,λe=>(h.ext e.ext).cell 6⟩
theorem Blk.store7{w:World}{g:Nat}{t:TypeId}{a b c d e f i:Value}(u0 u1 u2 u3 u4 u5 u6:Value)(h:Blk w g t [a,b,c,d,e,f,i]):Blk (((((((w.setCell ⟨g,0,none⟩ u0).setCell ⟨g,1,none⟩ u1).setCell ⟨g,2,none⟩ u2).setCell ⟨g,3,none⟩ u3).setCell ⟨g,4,none⟩ u4).setCell ⟨g,5,none⟩ u5).setCell ⟨g,6,none⟩ u6) g t [u0,u1,u2,u3,u4,u5,u6]:=by simpa using(((((((h.set_ 0 u0).set_ 1 u1).set_ 2 u2).set_ 3 u3).set_ 4 u4).set_ 5 u5).set_ 6 u6)
theorem fF(w:World)(b c d e f g h:Value)(t:TypeId):∃a,a=w.alloc (.cells #[b,c,d,e,f,g,h] t)/\Ext w a/\Blk a w.heap.size t [b,c,d,e,f,g,h]:=⟨_,rfl,Ext.new _ _,Blk.new _ _ _⟩
theorem Cells.get8{w:World}{b o:Nat}{a c d e f g i j:Value}(h:Cells w b o [a,c,d,e,f,g,i,j]):w.cell? ⟨b,o,none⟩=some a/\w.cell? ⟨b,o+1,none⟩=some c/\w.cell? ⟨b,o+2,none⟩=some d/\w.cell? ⟨b,o+3,none⟩=some e/\w.cell? ⟨b,o+4,none⟩=some f/\w.cell? ⟨b,o+5,none⟩=some g/\w.cell? ⟨b,o+6,none⟩=some i/\w.cell? ⟨b,o+7,none⟩=some j:=⟨h 0 _ rfl,h 1 _ rfl,h 2 _ rfl,h 3 _ rfl,h 4 _ rfl,h 5 _ rfl,h 6 _ rfl,h 7 _ rfl⟩
theorem Cells.later8{w:World}{b o:Nat}{a c d f g i j k:Value}(h:Cells w b o [a,c,d,f,g,i,j,k]):(∀e:Later w,e.w.cell? ⟨b,o,none⟩=some a)/\(∀e:Later w,e.w.cell? ⟨b,o+1,none⟩=some c)/\(∀e:Later w,e.w.cell? ⟨b,o+2,none⟩=some d)/\(∀e:Later w,e.w.cell? ⟨b,o+3,none⟩=some f)/\(∀e:Later w,e.w.cell? ⟨b,o+4,none⟩=some g)/\(∀e:Later w,e.w.cell? ⟨b,o+5,none⟩=some i)/\(∀e:Later w,e.w.cell? ⟨b,o+6,none⟩=some j)/\(∀e:Later w,e.w.cell? ⟨b,o+7,none⟩=some k):=⟨λe=>e.ext.at_ (h 0 _ rfl),λe=>e.ext.at_ (h 1 _ rfl),λe=>e.ext.at_ (h 2 _ rfl),λe=>e.ext.at_ (h 3 _ rfl),λe=>e.ext.at_ (h 4 _ rfl),λe=>e.ext.at_ (h 5 _ rfl),λe=>e.ext.at_ (h 6 _ rfl),λe=>e.ext.at_ (h 7 _ rfl)⟩
theorem Row.open8{α:Type}{R:α->List Value->Prop}{w:World}{B:Nat}{l:List α}{a:Option Addr}{k:Nat}(h:Row R w B 8 l a)(s:k<l.length):
 ∃c o d e f g i j m n,a=some ⟨c,o,none⟩/\c<B/\R l[k] [d,e,f,g,i,j,m,n]/\Cells w c (o+k*8) [d,e,f,g,i,j,m,n]/\d.oneCell'=true/\e.oneCell'=true/\f.oneCell'=true/\g.oneCell'=true/\i.oneCell'=true/\j.oneCell'=true/\m.oneCell'=true/\n.oneCell'=true:=by
 obtain⟨c,o,p,ha,q,t,r,b,u⟩:=h k s;match p,t with
 |[d,e,f,g,i,j,m,n],_=>exact⟨c,o,_,_,_,_,_,_,_,_,ha,q,u,r,b _ zS,b _ zS,b _ zS,b _ zS,b _ zS,b _ zS,b _ zS,b _ zS⟩
theorem Blk.get8{w:World}{g:Nat}{t:TypeId}{a b c d e f i j:Value}(h:Blk w g t [a,b,c,d,e,f,i,j]):w.cell? ⟨g,0,none⟩=some a/\w.cell? ⟨g,1,none⟩=some b/\w.cell? ⟨g,2,none⟩=some c/\w.cell? ⟨g,3,none⟩=some d/\w.cell? ⟨g,4,none⟩=some e/\w.cell? ⟨g,5,none⟩=some f/\w.cell? ⟨g,6,none⟩=some i/\w.cell? ⟨g,7,none⟩=some j:=⟨h.cell 0,h.cell 1,h.cell 2,h.cell 3,h.cell 4,h.cell 5,h.cell 6,h.cell 7⟩
theorem Blk.free8{w:World}{g:Nat}{t:TypeId}{a b c d e f i j:Value}(h:Blk w g t [a,b,c,d,e,f,i,j]):w.frozen? ⟨g,0,none⟩=false/\w.frozen? ⟨g,1,none⟩=false/\w.frozen? ⟨g,2,none⟩=false/\w.frozen? ⟨g,3,none⟩=false/\w.frozen? ⟨g,4,none⟩=false/\w.frozen? ⟨g,5,none⟩=false/\w.frozen? ⟨g,6,none⟩=false/\w.frozen? ⟨g,7,none⟩=false:=⟨h.frozen 0,h.frozen 1,h.frozen 2,h.frozen 3,h.frozen 4,h.frozen 5,h.frozen 6,h.frozen 7⟩
theorem Blk.later8{w:World}{g:Nat}{t:TypeId}{a b c d f i j k:Value}(h:Blk w g t [a,b,c,d,f,i,j,k]):(∀e:Later w,e.w.cell? ⟨g,0,none⟩=some a)/\(∀e:Later w,e.w.cell? ⟨g,1,none⟩=some b)/\(∀e:Later w,e.w.cell? ⟨g,2,none⟩=some c)/\(∀e:Later w,e.w.cell? ⟨g,3,none⟩=some d)/\(∀e:Later w,e.w.cell? ⟨g,4,none⟩=some f)/\(∀e:Later w,e.w.cell? ⟨g,5,none⟩=some i)/\(∀e:Later w,e.w.cell? ⟨g,6,none⟩=some j)/\(∀e:Later w,e.w.cell? ⟨g,7,none⟩=some k):=⟨λe=>(h.ext e.ext).cell 0,λe=>(h.ext e.ext).cell 1,λe=>(h.ext e.ext).cell 2,λe=>(h.ext e.ext).cell 3,λe=>(h.ext e.ext).cell 4,λe=>(h.ext e.ext).cell 5,λe=>(h.ext e.ext).cell 6,λe=>(h.ext e.ext).cell 7⟩
theorem Blk.store8{w:World}{g:Nat}{t:TypeId}{a b c d e f i j:Value}(u0 u1 u2 u3 u4 u5 u6 u7:Value)(h:Blk w g t [a,b,c,d,e,f,i,j]):Blk ((((((((w.setCell ⟨g,0,none⟩ u0).setCell ⟨g,1,none⟩ u1).setCell ⟨g,2,none⟩ u2).setCell ⟨g,3,none⟩ u3).setCell ⟨g,4,none⟩ u4).setCell ⟨g,5,none⟩ u5).setCell ⟨g,6,none⟩ u6).setCell ⟨g,7,none⟩ u7) g t [u0,u1,u2,u3,u4,u5,u6,u7]:=by simpa using((((((((h.set_ 0 u0).set_ 1 u1).set_ 2 u2).set_ 3 u3).set_ 4 u4).set_ 5 u5).set_ 6 u6).set_ 7 u7)
theorem de(w:World)(b c d e f g h i:Value)(t:TypeId):∃a,a=w.alloc (.cells #[b,c,d,e,f,g,h,i] t)/\Ext w a/\Blk a w.heap.size t [b,c,d,e,f,g,h,i]:=⟨_,rfl,Ext.new _ _,Blk.new _ _ _⟩
theorem Cells.get9{w:World}{b o:Nat}{a c d e f g i j k:Value}(h:Cells w b o [a,c,d,e,f,g,i,j,k]):w.cell? ⟨b,o,none⟩=some a/\w.cell? ⟨b,o+1,none⟩=some c/\w.cell? ⟨b,o+2,none⟩=some d/\w.cell? ⟨b,o+3,none⟩=some e/\w.cell? ⟨b,o+4,none⟩=some f/\w.cell? ⟨b,o+5,none⟩=some g/\w.cell? ⟨b,o+6,none⟩=some i/\w.cell? ⟨b,o+7,none⟩=some j/\w.cell? ⟨b,o+8,none⟩=some k:=⟨h 0 _ rfl,h 1 _ rfl,h 2 _ rfl,h 3 _ rfl,h 4 _ rfl,h 5 _ rfl,h 6 _ rfl,h 7 _ rfl,h 8 _ rfl⟩
theorem Cells.later9{w:World}{b o:Nat}{a c d f g i j k l:Value}(h:Cells w b o [a,c,d,f,g,i,j,k,l]):(∀e:Later w,e.w.cell? ⟨b,o,none⟩=some a)/\(∀e:Later w,e.w.cell? ⟨b,o+1,none⟩=some c)/\(∀e:Later w,e.w.cell? ⟨b,o+2,none⟩=some d)/\(∀e:Later w,e.w.cell? ⟨b,o+3,none⟩=some f)/\(∀e:Later w,e.w.cell? ⟨b,o+4,none⟩=some g)/\(∀e:Later w,e.w.cell? ⟨b,o+5,none⟩=some i)/\(∀e:Later w,e.w.cell? ⟨b,o+6,none⟩=some j)/\(∀e:Later w,e.w.cell? ⟨b,o+7,none⟩=some k)/\(∀e:Later w,e.w.cell? ⟨b,o+8,none⟩=some l):=⟨λe=>e.ext.at_ (h 0 _ rfl),λe=>e.ext.at_ (h 1 _ rfl),λe=>e.ext.at_ (h 2 _ rfl),λe=>e.ext.at_ (h 3 _ rfl),λe=>e.ext.at_ (h 4 _ rfl),λe=>e.ext.at_ (h 5 _ rfl),λe=>e.ext.at_ (h 6 _ rfl),λe=>e.ext.at_ (h 7 _ rfl),λe=>e.ext.at_ (h 8 _ rfl)⟩
theorem Row.open9{α:Type}{R:α->List Value->Prop}{w:World}{B:Nat}{l:List α}{a:Option Addr}{k:Nat}(h:Row R w B 9 l a)(t:k<l.length):
 ∃c o d e f g i j m n p,a=some ⟨c,o,none⟩/\c<B/\R l[k] [d,e,f,g,i,j,m,n,p]/\Cells w c (o+k*9) [d,e,f,g,i,j,m,n,p]/\d.oneCell'=true/\e.oneCell'=true/\f.oneCell'=true/\g.oneCell'=true/\i.oneCell'=true/\j.oneCell'=true/\m.oneCell'=true/\n.oneCell'=true/\p.oneCell'=true:=by
 obtain⟨c,o,q,ha,r,u,s,b,v⟩:=h k t;match q,u with
 |[d,e,f,g,i,j,m,n,p],_=>exact⟨c,o,_,_,_,_,_,_,_,_,_,ha,r,v,s,b _ zS,b _ zS,b _ zS,b _ zS,b _ zS,b _ zS,b _ zS,b _ zS,b _ zS⟩
theorem Blk.get9{w:World}{g:Nat}{t:TypeId}{a b c d e f i j k:Value}(h:Blk w g t [a,b,c,d,e,f,i,j,k]):w.cell? ⟨g,0,none⟩=some a/\w.cell? ⟨g,1,none⟩=some b/\w.cell? ⟨g,2,none⟩=some c/\w.cell? ⟨g,3,none⟩=some d/\w.cell? ⟨g,4,none⟩=some e/\w.cell? ⟨g,5,none⟩=some f/\w.cell? ⟨g,6,none⟩=some i/\w.cell? ⟨g,7,none⟩=some j/\w.cell? ⟨g,8,none⟩=some k:=⟨h.cell 0,h.cell 1,h.cell 2,h.cell 3,h.cell 4,h.cell 5,h.cell 6,h.cell 7,h.cell 8⟩
theorem Blk.free9{w:World}{g:Nat}{t:TypeId}{a b c d e f i j k:Value}(h:Blk w g t [a,b,c,d,e,f,i,j,k]):w.frozen? ⟨g,0,none⟩=false/\w.frozen? ⟨g,1,none⟩=false/\w.frozen? ⟨g,2,none⟩=false/\w.frozen? ⟨g,3,none⟩=false/\w.frozen? ⟨g,4,none⟩=false/\w.frozen? ⟨g,5,none⟩=false/\w.frozen? ⟨g,6,none⟩=false/\w.frozen? ⟨g,7,none⟩=false/\w.frozen? ⟨g,8,none⟩=false:=⟨h.frozen 0,h.frozen 1,h.frozen 2,h.frozen 3,h.frozen 4,h.frozen 5,h.frozen 6,h.frozen 7,h.frozen 8⟩
theorem Blk.later9{w:World}{g:Nat}{t:TypeId}{a b c d f i j k l:Value}(h:Blk w g t [a,b,c,d,f,i,j,k,l]):(∀e:Later w,e.w.cell? ⟨g,0,none⟩=some a)/\(∀e:Later w,e.w.cell? ⟨g,1,none⟩=some b)/\(∀e:Later w,e.w.cell? ⟨g,2,none⟩=some c)/\(∀e:Later w,e.w.cell? ⟨g,3,none⟩=some d)/\(∀e:Later w,e.w.cell? ⟨g,4,none⟩=some f)/\(∀e:Later w,e.w.cell? ⟨g,5,none⟩=some i)/\(∀e:Later w,e.w.cell? ⟨g,6,none⟩=some j)/\(∀e:Later w,e.w.cell? ⟨g,7,none⟩=some k)/\(∀e:Later w,e.w.cell? ⟨g,8,none⟩=some l):=⟨λe=>(h.ext e.ext).cell 0,λe=>(h.ext e.ext).cell 1,λe=>(h.ext e.ext).cell 2,λe=>(h.ext e.ext).cell 3,λe=>(h.ext e.ext).cell 4,λe=>(h.ext e.ext).cell 5,λe=>(h.ext e.ext).cell 6,λe=>(h.ext e.ext).cell 7,λe=>(h.ext e.ext).cell 8⟩
theorem Blk.store9{w:World}{g:Nat}{t:TypeId}{a b c d e f i j k:Value}(u0 u1 u2 u3 u4 u5 u6 u7 u8:Value)(h:Blk w g t [a,b,c,d,e,f,i,j,k]):Blk (((((((((w.setCell ⟨g,0,none⟩ u0).setCell ⟨g,1,none⟩ u1).setCell ⟨g,2,none⟩ u2).setCell ⟨g,3,none⟩ u3).setCell ⟨g,4,none⟩ u4).setCell ⟨g,5,none⟩ u5).setCell ⟨g,6,none⟩ u6).setCell ⟨g,7,none⟩ u7).setCell ⟨g,8,none⟩ u8) g t [u0,u1,u2,u3,u4,u5,u6,u7,u8]:=by simpa using(((((((((h.set_ 0 u0).set_ 1 u1).set_ 2 u2).set_ 3 u3).set_ 4 u4).set_ 5 u5).set_ 6 u6).set_ 7 u7).set_ 8 u8)
theorem bM(w:World)(b c d e f g h i j:Value)(t:TypeId):∃a,a=w.alloc (.cells #[b,c,d,e,f,g,h,i,j] t)/\Ext w a/\Blk a w.heap.size t [b,c,d,e,f,g,h,i,j]:=⟨_,rfl,Ext.new _ _,Blk.new _ _ _⟩
theorem eA{w a:World}{o:Obj}(h:a=w.alloc o):a.heap.size=w.heap.size+1:=by rw[h];simp
structure Enters(P:Program)(f:FuncId):Prop where
 o:∀(args:Array Value) (w:World),(callFunc f args).run P w=.ok (.enter f args) w
theorem bc{P:Program}{w:World}{a:Addr}{v:Value}{m:Mode}(h:v.oneCell'=true):(store a v m).run P w=stored P w a v m:=run_store P w a v m h
theorem dM{P:Program}{id:Nat}{Q:Exit->Act->World->Prop}{a:Act}{w W:World}{l:List Oper}(f:P.follows .mixedOrders=true)(d:Region.lexB .any l.toArray=true)(g:Ext W w)
 (h:wpQuiet P l.toArray (λb=>∃e:Later W,b=e.w) (λc=>∀b,(∃e:Later W,b=e.w)->Q .normal c b) l a):(Code.region id l.toArray true).wp P Q a w:=
 wp_region_quiet (C:=λb=>∃e:Later W,b=e.w) f d (Later.mk_ex g.drew) (by simpa using h)
noncomputable def same{α:Type}(x a:α):Bool:=@decide (x=a) (Classical.propDecidable _)
def af:=@Ext.refl
def ae:=@Later.mk_ex
def ag:=@Later.ext
def ac:=@Nat.le_refl
def ad:=@Nat.le_trans
def an:=@List.getElem_mem
def aQ:=@Nat.lt_of_lt_of_le
def y7n:=@Array.getElem?_eq_some_iff
def ea:=@List.getElem?_eq_getElem
def aA:=@Nat.zero_le
def dl:=@List.eq_nil_of_length_eq_zero
def bi:=@List.mem_cons_of_mem
def cc:=@List.mem_cons_self
def y7t:=@List.getElem?_eq_some_iff
def aE:=@Ext.new
def ax:=@Blk.new
def aq:=@And.intro
def aP:=@Later.calls
def ek:=@World.cell?_of_block
def cm:=@Sl.nil
def y8d:=@List.mem_singleton
def y8e:=@List.mem_append
def y8f:=@List.mem_map
