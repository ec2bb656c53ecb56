import Derived.Test.YtlfmlodanoolhaaGreatDoorY5
set_option linter.all false
set_option maxRecDepth 200000
set_option maxHeartbeats 32000000
namespace Go.Proofs.YtlfmlodanoolhaaGreatDoor
open Go Go.RowKit
abbrev CJ:=(Tmp->Value)->World->Prop
def chJ:List (Nat×CJ)->CJ->(Nat->Bool)->(Tmp->Value)->World->Prop
 |[],E,_,τ,w=>E τ w
 |(p,J)::r,E,L,τ,w=>match L p with|false=>J τ w/\∀a,a∈r->L a.1=false|true=>chJ r E L τ w
def nxJ:List (Nat×CJ)->CJ->CJ
 |[],E=>E
 |(_,J)::_,_=>J
def iW(a:CJ->Prop):List (Nat×CJ)->Prop
 |[]=>True
 |q::r=>a q.2/\iW a r
theorem nN{p:Nat}{g n:CJ}{j:List (Nat×CJ)}{d:Nat->Bool}{m:Tmp->Value}{w:World}(i:d p=false):∀(c:List (Nat×CJ)),(∀a,c.getLast? =some a->d a.1=true)->chJ (c++(p,g)::j) n d m w->
 g m w/\(∀a,a∈c->d a.1=true)/\∀a,a∈j->d a.1=false
 |[],_,h=>by
  rw[List.nil_append,chJ,i] at h;exact⟨h.1,λa b=>absurd b List.not_mem_nil,h.2⟩
 |(x,Jx)::c,hl,h=>by
  rw[List.cons_append,chJ] at h;cases hx:d x with
  |false=>
   rw[hx] at h;cases c with
   |nil=>have:=hl (x,Jx) rfl;rw[hx] at this;cases this
   |cons k r=>
    obtain⟨a,b⟩:∃a,(k::r).getLast? =some a:=⟨_,List.getLast?_eq_some_getLast zS⟩;have f:=hl a (by rw[List.getLast?_cons_cons];exact b);have e:=h.2 a (List.mem_append_left _ (List.mem_of_getLast? b));rw[f] at e;cases e
  |true=>
   rw[hx] at h;obtain⟨f,e,o⟩:=nN i c (λa b=>hl a (by
    cases c with
    |nil=>cases b
    |cons k r=>rw[List.getLast?_cons_cons];exact b)) h
   refine⟨f,λa b=>?_,o⟩;rcases List.mem_cons.1 b with rfl|b
   ·exact hx
   ·exact e a b
theorem oI{p:Nat}{n f:CJ}{c:List (Nat×CJ)}{b:Nat->Bool}{j:Tmp->Value}{w:World}(m:b p=true)(g:∀a,a∈c->b a.1=false)(h:nxJ c f j w):∀(d:List (Nat×CJ)),(∀a,a∈d->b a.1=true)->chJ (d++(p,n)::c) f b j w
 |[],_=>by
  rw[List.nil_append,chJ,m];cases c with
  |nil=>exact h
  |cons e r=>
   obtain⟨e,k⟩:=e;show chJ ((e,k)::r) f b j w;rw[chJ,g (e,k) (List.mem_cons_self ..)];exact⟨h,λa i=>g a (cf _ i)⟩
 |(x,Jx)::d,hl=>by
  rw[List.cons_append,chJ,hl (x,Jx) (List.mem_cons_self ..)];exact oI m g h d (λa i=>hl a (cf _ i))
theorem od{I:World->Prop}{b:CJ}{f:Nat->Bool}{a:Tmp->Value}{w:World}(e:∀a w,b a w->I w):∀(c:List (Nat×CJ)),iW (λd=>∀a w,d a w->I w) c->chJ c b f a w->I w
 |[],_,h=>e _ _ h
 |(p,d)::r,ha,h=>by
  rw[chJ] at h;split at h
  ·exact ha.1 _ _ h.1
  ·exact od e r ha.2 h
theorem fU{T:List Tmp}{g:CJ}(m:∀a b w,(∀e,e∈T->b e=a e)->g a w->g b w):∀(c:List (Nat×CJ)),iW (λh=>∀a b w,(∀e,e∈T->b e=a e)->h a w->h b w) c->jz (chJ c g) (c.map Prod.fst) T
 |[],_=>λj k a b w _ f d=>m a b w f d
 |(p,h)::r,ha=>λj k a b w i f d=>by
  rw[chJ] at d⊢;rw[i p zS];split at d
  ·exact⟨ha.1 a b w f d.1,λq n=>by rw[i q.1 (by simp;exact .inr ⟨_,n⟩)];exact d.2 q n⟩
  ·exact fU m r ha.2 j k a b w (λs o=>i s (by simp at o⊢;exact .inr o)) f d
theorem gS{I:World->Prop}{b:CJ}{c:List (Nat×CJ)}{e:Nat->Bool}{a:Tmp->Value}{w:World}(h:chJ c b e a w)(f:∀a w,b a w->I w)(ha:iW (λd=>∀a w,d a w->I w) c):I w:=od f c ha h
theorem gy{a:CJ}{b:Tmp->Value}{w:World}:∀(c:List (Nat×CJ)),nxJ c a b w->chJ c a (λ_=>false) b w
 |[],h=>h
 |(p,J)::r,h=>⟨h,λ_ _=>rfl⟩
theorem gb{a:CJ}{b:Nat->Bool}{d:Tmp->Value}{w:World}:∀(c:List (Nat×CJ)),(c.all λe=>b e.1)=true->chJ c a b d w->a d w
 |[],_,h=>h
 |(p,J)::r,hl,h=>by
  simp only[List.all_cons,Bool.and_eq_true] at hl;rw[chJ,hl.1] at h;exact gb r hl.2 h
section
variable {P : Program} {a0 : Act} {F : Nat → Value → World → Prop} {Pn : List PanicEntry → World → Prop} {l : List Oper}
theorem StepI.chain{c:List (Nat×CJ)}{q:CJ}(i:Nat){p:Nat}{f:CJ}{o:Oper}(E:c[i]? =some (p,f))(u:(match(c.take i).getLast? with|none=>true|some b=>o.after.any λe=>Region.binds .any e && e.on==b.1)=true)(t:((c.take i++c.drop (i+1)).all λb=>b.1 !=p)=true)
 (h:∀(a:Act) (w:World),a.tmps.size=a0.tmps.size->f (tau a) w->eb F l a w o.after.toList->(∀k:Tmp,(∀I:Nat,(l[I]?).bind Oper.dst≠some k)->a.tmps.getD k undef=a0.tmps.getD k undef)->
   o.wp P a w (λn m=>∃v,n=a.put o.dst v/\F p v m/\nxJ (c.drop (i+1)) q (tau (a.put o.dst v)) m) (fw Pn a)):StepI P a0 F (chJ c q) Pn l p o:=by
 have s:c=c.take i++(p,f)::c.drop (i+1):=by
  obtain⟨hi,j⟩:=y2c.1 E;rw[<-j,<-List.drop_eq_getElem_cons hi,List.take_append_drop]
 intro J a w D B H C G r;rw[s] at r;obtain⟨x,y,z⟩:=nN D (c.take i) (λb d=>by
  rw[d] at u;obtain⟨e,j,g⟩:=Array.any_eq_true'.1 u;simp only[Bool.and_eq_true,beq_iff_eq] at g;rw[<-g.2];exact B e j g.1) r
 refine Oper.wp_mono ?_ (h a w H x C G);rintro n m ⟨v,rfl,hF,A⟩;refine⟨v,rfl,hF,?_⟩;simp only[List.all_append,Bool.and_eq_true,List.all_eq_true,bne_iff_ne,ne_eq] at t;rw[s];refine oI zS (λb d=>?_) A _ (λb d=>?_)
 ·have:=t.2 b d;simp[z b d,this]
 ·simp[y b d]
end
end Go.Proofs.YtlfmlodanoolhaaGreatDoor
