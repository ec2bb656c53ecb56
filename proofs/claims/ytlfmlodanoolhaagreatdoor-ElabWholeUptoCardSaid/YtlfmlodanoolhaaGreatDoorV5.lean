import Derived.Test.YtlfmlodanoolhaaGreatDoorV4
set_option linter.all false
set_option maxRecDepth 200000
set_option maxHeartbeats 0
namespace Go.Proofs.YtlfmlodanoolhaaGreatDoor
open Go Go.RowKit
section
variable {P : Program} {W : World} {a0 : Act} {F : Nat → Value → World → Prop} {l : List Oper}
def GuardsSay(F:Nat->Value->World->Prop)(a:Nat->Bool):List Oper->Nat->Prop
 |[],_=>True
 |o::r,i=>(match o.guard with
  |some (j,b)=>(match a i with|true=>∀v w,F j v w->v=.bool b|false=>∀v w,F j v w->v≠.bool b)
  |none=>a i=true)/\GuardsSay F a r (i+1)
theorem GuardsSay.get{a:Nat->Bool}:∀{l:List Oper} {k:Nat},GuardsSay F a l k->∀{i:Nat} {o:Oper},l[i]? =some o->(match o.guard with
 |some (j,b)=>(match a (k+i) with|true=>∀v w,F j v w->v=.bool b|false=>∀v w,F j v w->v≠.bool b)
 |none=>a (k+i)=true)
 |[],_,_,_,_,ho=>by simp at ho
 |x::r,k,h,0,o,ho=>by simp at ho;subst ho;exact h.1
 |x::r,k,h,i+1,o,ho=>by
  have:=GuardsSay.get h.2 (i:=i) (by simpa using ho);rwa[show k+1+i=k+(i+1) by omega] at this
def StepsRun(P:Program)(W:World)(a0:Act)(F:Nat->Value->World->Prop)(l:List Oper)(a:Nat->Bool):List Oper->Nat->Prop
 |[],_=>True
 |o::r,i=>(match a i with|true=>kw P W a0 F l i o|false=>∀w,F i undef w)/\StepsRun P W a0 F l a r (i+1)
theorem StepsRun.get{a:Nat->Bool}:∀(r:List Oper) (k:Nat),StepsRun P W a0 F l a r k->∀(j:Nat) (o:Oper),r[j]? =some o->(match a (k+j) with|true=>kw P W a0 F l (k+j) o|false=>∀w,F (k+j) undef w)
 |[],_,_,_,_,hj=>by simp at hj
 |x::r,k,h,0,o,hj=>by simp at hj;subst hj;exact h.1
 |x::r,k,h,j+1,o,hj=>by
  have:=StepsRun.get r (k+1) h.2 j o (by simpa using hj);rwa[show k+1+j=k+(j+1) by omega] at this
theorem mz{A:Act}{l:List Oper}{j:Nat}{d:Tmp}(c:(l[j]?).bind Oper.dst=some d):yielded l.toArray A.tmps j=(match A.tmps.getD d undef with|.bool b=>some b|_=>none)\/A.tmps.size<=d:=by
 rcases Nat.lt_or_ge d A.tmps.size with a|a
 ·left
  unfold yielded;simp only[List.getElem?_toArray];rw[c];simp[Array.getD_eq_getD_getElem?,Array.getElem?_eq_getElem a];try (split<;>simp_all)
 ·exact .inr a
theorem oL{A:Act}{w:World}{listed:Nat->Bool}{o:Oper}{i n j:Nat}{b:Bool}(T:FactsOkG l n)(y:l[i]? =some o)(f:o.guard=some (j,b))(m:∀v w,F j v w->v≠.bool b)(x:A.tmps.size=n)
 (h:∀(j:Nat) (d:Tmp),(l[j]?).bind Oper.dst=some d->listed j=true->F j (A.tmps.getD d undef) w) (k:∀e∈o.after,Region.binds .any e=true->listed e.on=true):
 Region.wanted o (yielded l.toArray A.tmps)=false:=by
 obtain⟨⟨e,u,g,rfl⟩,d,a⟩:=T.guard i o j b y f;have z:=m _ _ (h e.on d a (k e u g));have p:=T.lt e.on d a;rcases mz (A:=A) a with c|c
 ·unfold Region.wanted;rw[f];simp only[c];generalize A.tmps.getD d undef=v at z;cases v<;>simp_all
 ·exact absurd (aQ p (ad (Nat.le_of_eq x.symm) c)) (Nat.lt_irrefl _)
theorem Cc{Q:Exit->Act->World->Prop}(K:Nat->Bool)(V:∀a v w L,F a v w->Ext w L->F a v L)(T:FactsOkG l a0.tmps.size)(a3:GuardsSay F K l 0)(a1:StepsRun P W a0 F l K l 0)
 (Y:∀A w,Known W a0 F l (λj=>decide (j<l.length)) A w->Q .normal A w):
 ∀(f:Nat) (listed:Array Bool) (A:Act) (w:World),listed.size=l.length->(f=0->Region.ready .any l.toArray listed=[])->left listed.toList<=f->Known W a0 F l (λj=>listed.getD j false) A w->
  wpAny P .any l.toArray Q f listed A w:=by
 have Z:=T.order;have fin:∀(listed:Array Bool) (A:Act) (w:World),listed.size=l.length->Region.ready .any l.toArray listed=[]->Known W a0 F l (λj=>listed.getD j false) A w->Q .normal A w:=by
  intro listed A w k H b;have X:∀n a,a<n->a<l.length->listed.getD a true=true:=by
   intro n;induction n with
   |zero=>intro a hi;omega
   |succ n ih=>
    intro a b2 hi;cases E:listed.getD a true with
    |true=>rfl
    |false=>
     have:a∈Region.ready .any l.toArray listed:=mem_ready.2 ⟨E,l[a],by simp[List.getElem?_eq_getElem hi],λe B p=>by
      have U:=Z a l[a] (ea hi) e B p;have:=ih e.on zO zO;have i:e.on<listed.size:=by omega
      simpa [i] using this⟩
     rw[H] at this;cases this
  refine Y A w ⟨b.ext,b.size,b.defers,λj d C E=>b.done j d C ?_,b.rest⟩;have D:j<l.length:=by simpa using E
  have:=X (j+1) j zO D;have i:j<listed.size:=by omega
  simpa [i] using this
 intro f;induction f with
 |zero=>
  intro listed A w k m _ b;exact⟨m rfl,fin listed A w k (m rfl) b⟩
 |succ f ih=>
  intro listed A w k _ b0 b;refine⟨λH=>fin listed A w k H b,λa hi=>?_⟩;obtain⟨m,o,a6,y⟩:=mem_ready.1 hi;have h:l[a]? =some o:=by simpa using a6
  have b1:a<l.length:=(y7t.1 h).1;have N:left (listed.setIfInBounds a true).toList<=f:=by
   have i:a<listed.size:=by omega
   have a4:listed.toList[a]? =some false:=by
    simp[i] at m;simp[i,m]
   have:=fL listed.toList a a4;rw[show(listed.setIfInBounds a true).toList=listed.toList.set a true by simp];omega
  have O:f=0->Region.ready .any l.toArray (listed.setIfInBounds a true)=[]:=by
   intro a2;subst a2;rw[List.eq_nil_iff_forall_not_mem];intro j C;obtain⟨S,b3,x,_⟩:=mem_ready.1 C;have D:j<l.length:=by
    have:=(y7n.1 x).1;simpa using this
   have i:j<(listed.setIfInBounds a true).size:=by simpa [k] using D
   have:false∈(listed.setIfInBounds a true).toList:=by
    simp only[Array.getD_eq_getD_getElem?,Array.getElem?_eq_getElem i,Option.getD_some] at S;rw[<-S];exact Array.mem_toList_iff.2 (Array.getElem_mem _)
   have:=gg _ this;omega
  unfold wpOp;simp only[List.getElem?_toArray,h];have c:=a3.get h;have u:=StepsRun.get l 0 a1 a o h;rw[Nat.zero_add] at c u;cases hrun:K a with
  |true=>
   rw[hrun] at u c;have I:Region.wanted o (yielded l.toArray A.tmps)=true:=by
    cases hgd:o.guard with
    |none=>unfold Region.wanted;rw[hgd]
    |some g=>
     obtain⟨j,M⟩:=g;rw[hgd] at c;obtain⟨⟨e,a5,p,rfl⟩,d,z⟩:=T.guard a o j M h hgd;have a7:=c _ _ (b.done e.on d z (y e a5 p));have U:=T.lt e.on d z;rcases mz (A:=A) z with x|x
     ·unfold Region.wanted;rw[hgd];simp only[x,a7];simp
     ·exact absurd (aQ U (ad (Nat.le_of_eq b.size.symm) x)) (Nat.lt_irrefl _)
   rw[if_pos I];refine .inl (Oper.wp_mono ?_ (Oper.wp_noWay (u A w b.ext (gn b.done o.after.toList (λe B p=>y e (by simpa using B) p)) b.rest)));rintro a9 L ⟨v,rfl,a8,hF⟩;exact ih _ _ _ (by simpa using k) O N (b.stepG V T h a8 hF)
  |false=>
   rw[hrun] at u c;have I:Region.wanted o (yielded l.toArray A.tmps)=false:=by
    cases hgd:o.guard with
    |none=>rw[hgd] at c;cases c
    |some g=>
     obtain⟨j,M⟩:=g;rw[hgd] at c;exact oL T h hgd c b.size b.done y
   rw[if_neg (by rw[I];decide)];exact ih _ _ _ (by simpa using k) O N (b.stepG V T h (af w) (u w))
theorem nl{id:Nat}{Q:Exit->Act->World->Prop}{w:World}(F:Nat->Value->World->Prop)(a:Nat->Bool)(n:P.follows .mixedOrders=true)(i:fq l a0.tmps.size=true)(m:GuardsSay F a l 0)(p:Ext W w)(o:∀e v w g,F e v w->Ext w g->F e v g)
 (k:StepsRun P W a0 F l a l 0) (j:∀b w,Known W a0 F l (λf=>decide (f<l.length)) b w->Q .normal b w):(Code.region id l.toArray true).wp P Q a0 w:=by
 refine wp_region_any n ?_;simp only[List.size_toArray];refine Cc a o (gY i) m k j l.length _ a0 _ zS (λh=>?_) ?_ ⟨p.drew,rfl,rfl,λf d _ c=>?_,λt _=>rfl⟩
 ·have:l=[]:=dl h;subst this;rfl
 ·rw[Array.toList_replicate,eZ];exact ac _
 ·rw[eD] at c;cases c
end
structure Goes(R:World->World->Prop):Prop where
 refl:∀w,R w w
 trans:∀a b c,R a b->R b c->R a c
 drew:∀a b,R a b->R a b.drew
theorem bo:Goes Ext:=⟨af,λ_ _ _=>Ext.trans,λ_ _ a=>a.drew⟩
section
variable {P : Program} {R : World → World → Prop} {W : World} {a0 : Act} {F : Nat → Value → World → Prop} {l : List Oper}
structure KnownR(R:World->World->Prop)(W:World)(a0:Act)(F:Nat->Value->World->Prop)(l:List Oper)(listed:Nat->Bool)(A:Act)(w:World):Prop where
 rel:R W w
 size:A.tmps.size=a0.tmps.size
 defers:A.defers=a0.defers
 done:∀(j:Nat) (d:Tmp),(l[j]?).bind Oper.dst=some d->listed j=true->F j (A.tmps.getD d undef) w
 rest:∀t:Tmp,(∀j:Nat,(l[j]?).bind Oper.dst≠some t)->A.tmps.getD t undef=a0.tmps.getD t undef
def fO(Pn:List PanicEntry->World->Prop)(a:Act):Exit->Act->World->Prop
 |.panic ch,A,w=>A=a/\Pn ch w
 |_,_,_=>False
theorem Oper.wp_panicOnly{o:Oper}{a:Act}{w:World}{d:Act->World->Prop}{Pn:List PanicEntry->World->Prop}{Q:Exit->Act->World->Prop}(g:∀f b,Pn f b->Q (.panic f) a b)(h:o.wp P a w d (fO Pn a)):o.wp P a w d Q:=by
 unfold Oper.wp at*;generalize (execOp a.eval o).run P w=r at*;cases r with
 |ok n b=>
  cases n<;>simp only[Oper.upon] at h⊢<;>
   first
    |exact h
    |exact Calls.mono h (λe j c=>by cases e<;>first|exact c|exact g _ _ c.2|(obtain⟨_,_,i⟩:=c;exact i.elim))
    |exact h.elim
 |halt y b=>cases y<;>simp only[Oper.upon] at h⊢<;>first|exact g _ _ h.2|exact h|exact h.elim
def nu(P:Program)(R:World->World->Prop)(W:World)(a0:Act)(F:Nat->Value->World->Prop)(Pn:List PanicEntry->World->Prop)(l:List Oper)(i:Nat)(o:Oper):Prop:=
 ∀(a:Act) (w:World),R W w->eh F l a w o.after.toList->(∀t:Tmp,(∀d:Nat,(l[d]?).bind Oper.dst≠some t)->a.tmps.getD t undef=a0.tmps.getD t undef)->
  o.wp P a w (λc b=>∃v,c=a.put o.dst v/\R w b/\F i v b) (fO Pn a)
def StepsR(P:Program)(R:World->World->Prop)(W:World)(a0:Act)(F:Nat->Value->World->Prop)(Pn:List PanicEntry->World->Prop)(l:List Oper)(a:Nat->Bool):List Oper->Nat->Prop
 |[],_=>True
 |o::r,i=>(match a i with|true=>nu P R W a0 F Pn l i o|false=>∀w,F i undef w)/\StepsR P R W a0 F Pn l a r (i+1)
theorem StepsR.get{Pn:List PanicEntry->World->Prop}{a:Nat->Bool}:∀(r:List Oper) (k:Nat),StepsR P R W a0 F Pn l a r k->∀(j:Nat) (o:Oper),r[j]? =some o->(match a (k+j) with|true=>nu P R W a0 F Pn l (k+j) o|false=>∀w,F (k+j) undef w)
 |[],_,_,_,_,hj=>by simp at hj
 |x::r,k,h,0,o,hj=>by simp at hj;subst hj;exact h.1
 |x::r,k,h,j+1,o,hj=>by
  have:=StepsR.get r (k+1) h.2 j o (by simpa using hj);rwa[show k+1+j=k+(j+1) by omega] at this
theorem KnownR.step(u:Goes R)(y:∀i v w a,F i v w->R w a->F i v a)(T:FactsOkG l a0.tmps.size){listed:Array Bool}{A:Act}{w:World}(h:KnownR R W a0 F l (λj=>listed.getD j false) A w)
 {i:Nat} {o:Oper} (x:l[i]? =some o) {v:Value} {a:World} (n:R w a) (hF:F i v a):KnownR R W a0 F l (λj=>(listed.setIfInBounds i true).getD j false) (A.put o.dst v) a:=by
 have e:(l[i]?).bind Oper.dst=o.dst:=by rw[x];rfl
 have z:(A.put o.dst v).tmps.size=a0.tmps.size:=by
  cases hdd:o.dst<;>simp[Act.put,h.size]
 have p:(A.put o.dst v).defers=a0.defers:=by
  cases hdd:o.dst<;>simp[Act.put,h.defers]
 have m:∀t,o.dst≠some t->(A.put o.dst v).tmps.getD t undef=A.tmps.getD t undef:=by
  intro t f;cases hdd:o.dst with
  |none=>rfl
  |some d=>rw[eU,if_neg (λb=>f (by rw[hdd,b.1]))]
 refine⟨u.trans _ _ _ h.rel n,z,p,λj d c k=>?_,λt f=>?_⟩
 ·by_cases g:i=j
  ·subst g;rw[e] at c;rw[c,eU,if_pos ⟨rfl,by rw[h.size];exact T.lt i d (by rw[e];exact c)⟩];exact hF
  ·rw[getD_set_ne false g] at k;rw[m d (λb=>g (T.apart i j d (by rw[e];exact b) c))];exact y _ _ _ _ (h.done j d c k) n
 ·rw[m t (λb=>f i (by rw[e];exact b))];exact h.rest t f
theorem Cd{Q:Exit->Act->World->Prop}{Pn:List PanicEntry->World->Prop}(N:Nat->Bool)(E:Goes R)(Y:∀a v w y,F a v w->R w y->F a v y)(T:FactsOkG l a0.tmps.size)(a6:GuardsSay F N l 0)(a4:StepsR P R W a0 F Pn l N l 0)
 (a3:∀A z w,A.defers=a0.defers->Pn z w->Q (.panic z) A w)
 (a1:∀A w,KnownR R W a0 F l (λj=>decide (j<l.length)) A w->Q .normal A w):
 ∀(f:Nat) (listed:Array Bool) (A:Act) (w:World),listed.size=l.length->(f=0->Region.ready .any l.toArray listed=[])->left listed.toList<=f->KnownR R W a0 F l (λj=>listed.getD j false) A w->
  wpAny P .any l.toArray Q f listed A w:=by
 have a2:=T.order;have fin:∀(listed:Array Bool) (A:Act) (w:World),listed.size=l.length->Region.ready .any l.toArray listed=[]->KnownR R W a0 F l (λj=>listed.getD j false) A w->Q .normal A w:=by
  intro listed A w k L b;have Z:∀n a,a<n->a<l.length->listed.getD a true=true:=by
   intro n;induction n with
   |zero=>intro a hi;omega
   |succ n ih=>
    intro a b6 hi;cases K:listed.getD a true with
    |true=>rfl
    |false=>
     have:a∈Region.ready .any l.toArray listed:=mem_ready.2 ⟨K,l[a],by simp[List.getElem?_eq_getElem hi],λe D p=>by
      have X:=a2 a l[a] (ea hi) e D p;have:=ih e.on zO zO;have i:e.on<listed.size:=by omega
      simpa [i] using this⟩
     rw[L] at this;cases this
  refine a1 A w ⟨b.rel,b.size,b.defers,λj d H K=>b.done j d H ?_,b.rest⟩;have I:j<l.length:=by simpa using K
  have:=Z (j+1) j zO I;have i:j<listed.size:=by omega
  simpa [i] using this
 intro f;induction f with
 |zero=>
  intro listed A w k m _ b;exact⟨m rfl,fin listed A w k (m rfl) b⟩
 |succ f ih=>
  intro listed A w k _ b4 b;refine⟨λL=>fin listed A w k L b,λa hi=>?_⟩;obtain⟨m,o,a9,B⟩:=mem_ready.1 hi;have h:l[a]? =some o:=by simpa using a9
  have b5:a<l.length:=(y7t.1 h).1;have S:left (listed.setIfInBounds a true).toList<=f:=by
   have i:a<listed.size:=by omega
   have a7:listed.toList[a]? =some false:=by
    simp[i] at m;simp[i,m]
   have:=fL listed.toList a a7;rw[show(listed.setIfInBounds a true).toList=listed.toList.set a true by simp];omega
  have U:f=0->Region.ready .any l.toArray (listed.setIfInBounds a true)=[]:=by
   intro a5;subst a5;rw[List.eq_nil_iff_forall_not_mem];intro j H;obtain⟨V,b7,x,_⟩:=mem_ready.1 H;have I:j<l.length:=by
    have:=(y7n.1 x).1;simpa using this
   have i:j<(listed.setIfInBounds a true).size:=by simpa [k] using I
   have:false∈(listed.setIfInBounds a true).toList:=by
    simp only[Array.getD_eq_getD_getElem?,Array.getElem?_eq_getElem i,Option.getD_some] at V;rw[<-V];exact Array.mem_toList_iff.2 (Array.getElem_mem _)
   have:=gg _ this;omega
  unfold wpOp;simp only[List.getElem?_toArray,h];have c:=a6.get h;have u:=StepsR.get l 0 a4 a o h;rw[Nat.zero_add] at c u;cases hrun:N a with
  |true=>
   rw[hrun] at u c;have M:Region.wanted o (yielded l.toArray A.tmps)=true:=by
    cases hgd:o.guard with
    |none=>unfold Region.wanted;rw[hgd]
    |some g=>
     obtain⟨j,O⟩:=g;rw[hgd] at c;obtain⟨⟨e,a8,p,rfl⟩,d,C⟩:=T.guard a o j O h hgd;have b1:=c _ _ (b.done e.on d C (B e a8 p));have X:=T.lt e.on d C;rcases mz (A:=A) C with x|x
     ·unfold Region.wanted;rw[hgd];simp only[x,b1];simp
     ·exact absurd (aQ X (ad (Nat.le_of_eq b.size.symm) x)) (Nat.lt_irrefl _)
   rw[if_pos M];refine .inl (Oper.wp_mono ?_ (Oper.wp_panicOnly (λz y b0=>a3 A z y b.defers b0) (u A w b.rel (gn b.done o.after.toList (λe D p=>B e (by simpa using D) p)) b.rest)));rintro b3 y ⟨v,rfl,b2,hF⟩;exact ih _ _ _ (by simpa using k) U S (b.step E Y T h b2 hF)
  |false=>
   rw[hrun] at u c;have M:Region.wanted o (yielded l.toArray A.tmps)=false:=by
    cases hgd:o.guard with
    |none=>rw[hgd] at c;cases c
    |some g=>
     obtain⟨j,O⟩:=g;rw[hgd] at c;exact oL T h hgd c b.size b.done B
   rw[if_neg (by rw[M];decide)];exact ih _ _ _ (by simpa using k) U S (b.step E Y T h (E.refl w) (u w))
def gG(P:Program)(ops:Array Oper)(b:List Oper)(Q:Exit->Act->World->Prop):Exit->Act->World->Prop
 |.normal,a,w=>wpList P ops Q b a w
 |e,a,w=>Q e a w
def ns(P:Program)(o:Oper)(b:Act->World->Prop)(Q:Exit->Act->World->Prop)(a:Act)(w:World):Prop:=o.wp P a w b Q\/(o.asks P a w/\LetsOut Q)
def lL(P:Program)(o:Oper)(Q:Exit->Act->World->Prop):Exit->Act->World->Prop
 |.normal,a,w=>ns P o (λa w=>Q .normal a w) Q a w
 |e,a,w=>Q e a w
theorem Oper.wp_exits{x:Oper}{a:Act}{w:World}{f:Act->World->Prop}{Q b:Exit->Act->World->Prop}(c:∀e a w,e≠.normal->Q e a w->b e a w)(h:x.wp P a w f Q):x.wp P a w f b:=by
 have g:LetsOut Q->LetsOut b:=λ⟨a0,j,i⟩=>⟨a0,j,c _ _ _ zS i⟩
 unfold Oper.wp at*;generalize (execOp a.eval x).run P w=r at*;cases r with
 |ok n w'=>
  cases n<;>simp only[Oper.upon] at h⊢<;>
   first
    |exact h
    |exact Calls.mono h (λe k d=>by cases e<;>first|exact d|exact c _ _ _ zS d|exact g d)
    |exact h.elim
 |halt y w'=>cases y<;>simp only[Oper.upon] at h⊢<;>first|exact c _ _ _ zS h|exact h
def Closed(l:List Oper)(listed:Array Bool):Prop:=∀(a:Nat) (x:Oper),l[a]? =some x->listed.getD a false=true->∀e∈x.after,Region.binds .any e=true->listed.getD e.on false=true
def nV(l:List Oper)(o:Oper):List Nat:=(List.range l.length).reverse.foldl (λa b=>if(o.after.any λe=>Region.binds .any e && e.on==b)||a.any (λc=>match l[c]? with
 |some x=>x.after.any λe=>Region.binds .any e && e.on==b
 |none=>false) then b::a else a) []
theorem pn{listed:Array Bool}{o:Oper}(m:Closed l listed)(n:∀e∈o.after,Region.binds .any e=true->listed.getD e.on false=true):∀(h b:List Nat),(∀i,i∈b->listed.getD i false=true)->
 ∀i,i∈h.foldl (λb i=>if(o.after.any λe=>Region.binds .any e && e.on==i)||b.any (λg=>match l[g]? with
  |some x=>x.after.any λe=>Region.binds .any e && e.on==i
  |none=>false) then i::b else b) b->listed.getD i false=true
 |[],b,ha,i,hi=>ha i hi
 |a::h,b,ha,i,hi=>by
  rw[List.foldl_cons] at hi;refine pn m n h _ ?_ i hi;intro p f;split at f
  ·rename_i d
   rcases List.mem_cons.1 f with rfl|f
   ·rw[Bool.or_eq_true] at d;rcases d with d|d
    ·obtain⟨e,j,c⟩:=Array.any_eq_true'.1 d;simp only[Bool.and_eq_true,beq_iff_eq] at c;rw[<-c.2];exact n e j c.1
    ·obtain⟨g,u,k⟩:=List.any_eq_true.1 d;split at k
     ·rename_i x v
      obtain⟨e,j,c⟩:=Array.any_eq_true'.1 k;simp only[Bool.and_eq_true,beq_iff_eq] at c;rw[<-c.2];exact m g x v (ha g u) e j c.1
     ·cases k
   ·exact ha p f
  ·exact ha p f
def nh(S:List Nat)(l:List Oper)(o:Oper):Bool:=
 o.guard.isNone && (List.range l.length).all (λa=>S.contains a||(nV l o).contains a) && o.after.all (λe=>!Region.binds .any e||decide (e.on<l.length)) &&
  (List.range l.length).all (λa=>match l[a]? with
    |some x=>x.after.all (λe=>!Region.binds .any e||decide (e.on<a)) && (match x.guard with|none=>true|some (j,_)=>decide (j<l.length))
    |none=>true)
structure TailS(S:List Nat)(l:List Oper)(o:Oper):Prop where
 guard:o.guard=none
 waits:∀i,i<l.length->i∈S\/i∈nV l o
 last:∀e∈o.after,Region.binds .any e=true->e.on<l.length
 order:∀(i:Nat) (x:Oper),l[i]? =some x->∀e∈x.after,Region.binds .any e=true->e.on<i
 guards:∀(i:Nat) (x:Oper),l[i]? =some x->∀j b,x.guard=some (j,b)->j<l.length
theorem Bm{S:List Nat}{o:Oper}(h:nh S l o=true):TailS S l o:=by
 simp only[nh,Bool.and_eq_true,List.all_eq_true,List.mem_range,Array.all_eq_true_iff_forall_mem,Bool.or_eq_true,Bool.not_eq_true',decide_eq_true_eq] at h;obtain⟨⟨⟨g,i⟩,j⟩,f⟩:=h;have lt:∀{a:Nat} {x:Oper},l[a]? =some x->a<l.length:=λhi=>(y7t.1 hi).1
 refine⟨by simpa using g,λa hi=>?_,λe d b=>?_,λa x c e d b=>?_,λa x c n m k=>?_⟩
 ·rcases i a hi with h|h
  ·exact .inl (by simpa using h)
  ·exact .inr (by simpa using h)
 ·rcases j e d with h|h
  ·rw[h] at b;cases b
  ·exact h
 ·have:=f a (lt c);simp only[c,Bool.and_eq_true,Array.all_eq_true_iff_forall_mem,Bool.or_eq_true,Bool.not_eq_true',decide_eq_true_eq] at this;rcases this.1 e d with h|h
  ·rw[h] at b;cases b
  ·exact h
 ·have:=f a (lt c);simp only[c,Bool.and_eq_true,k,decide_eq_true_eq] at this;exact this.2
theorem kR{S:List Nat}{o:Oper}(T:TailS S l o){listed:Array Bool}(g:listed.size=l.length){i:Nat}(hi:i<l.length):
 i∈Region.ready .any (l++[o]).toArray (listed.push false)↔i∈Region.ready .any l.toArray listed:=by
 rw[mem_ready,mem_ready,dL true zO,hO hi];constructor
 ·rintro⟨d,x,c,f⟩;refine⟨d,x,c,λe b a=>?_⟩;have:=T.order i x (by simpa using c) e b a;rw[<-dL false zO];exact f e b a
 ·rintro⟨d,x,c,f⟩;refine⟨d,x,c,λe b a=>?_⟩;have:=T.order i x (by simpa using c) e b a;rw[dL false zO];exact f e b a
theorem oP{S:List Nat}{o:Oper}(T:TailS S l o){listed:Array Bool}(i:listed.size=l.length)(h:Region.ready .any l.toArray listed=[]):∀n a,a<n->a<l.length->listed.getD a true=true:=by
 intro n;induction n with
 |zero=>intro a hi;omega
 |succ n ih=>
  intro a f hi;cases hl:listed.getD a true with
  |true=>rfl
  |false=>
   have:a∈Region.ready .any l.toArray listed:=mem_ready.2 ⟨hl,l[a],by simp[List.getElem?_eq_getElem hi],λe c b=>by
    have g:=T.order a l[a] (ea hi) e c b;have:=ih e.on zO zO;have d:e.on<listed.size:=by omega
    simpa [d] using this⟩
   rw[h] at this;cases this
theorem mE{S:List Nat}{o:Oper}(T:TailS S l o){listed:Array Bool}(j:listed.size=l.length)(n:Closed l listed)(k:∀a,a∈S->listed.getD a false=true):
 l.length∈Region.ready .any (l++[o]).toArray (listed.push false)↔Region.ready .any l.toArray listed=[]:=by
 constructor
 ·intro b;obtain⟨_,x,u,m⟩:=mem_ready.1 b;have v:x=o:=by simpa using u.symm
  subst v;rw[List.eq_nil_iff_forall_not_mem];intro a hi;obtain⟨i,y,w,_⟩:=mem_ready.1 hi;have f:a<l.length:=by
   have:=(y7n.1 w).1;simpa using this
  have p:∀e∈x.after,Region.binds .any e=true->listed.getD e.on false=true:=λe d c=>by
   have:=m e d c;have f:=T.last e d c;rwa[dL false zO] at this
  have g:listed.getD a false=true:=by
   rcases T.waits a f with b|b
   ·exact k a b
   ·exact pn n p _ [] (λa hi=>nomatch hi) a b
  have h:a<listed.size:=by omega
  simp[h] at i g;rw[i] at g;cases g
 ·intro b;refine mem_ready.2 ⟨?_,o,zS,λe d c=>?_⟩
  ·rw[<-j];simp
  ·have f:=T.last e d c;have:=oP T j b (e.on+1) e.on zO f;rw[dL false zO];have h:e.on<listed.size:=by omega
   simpa [h] using this
theorem Closed.set{S:List Nat}{o:Oper}{listed:Array Bool}(p:Closed l listed)(z:listed.size=l.length){i:Nat}(hi:i∈Region.ready .any l.toArray listed):Closed l (listed.setIfInBounds i true):=by
 obtain⟨y,m,v,n⟩:=mem_ready.1 hi;intro j x h g e c b;have k:listed.getD e.on false=true:=by
  by_cases f:i=j
  ·subst f;have u:m=x:=by
    have:l[i]? =some m:=by simpa using v
    rw[h] at this;injection this with this;exact this.symm
   subst u;exact n e c b
  ·rw[getD_set_ne false f] at g;exact p j x h g e c b
 by_cases d:i=e.on
 ·subst d;have w:e.on<listed.size:=by
   rcases Nat.lt_or_ge e.on listed.size with a|a
   ·exact a
   ·simp[Array.getElem?_eq_none a] at k
  simp[w]
 ·rw[getD_set_ne false d];exact k
theorem Br{S:List Nat}{o:Oper}(T:TailS S l o){Q:Exit->Act->World->Prop}:∀(h:Nat) (listed:Array Bool) (a:Act) (w:World),listed.size=l.length->Closed l listed->(∀b,b∈S->listed.getD b false=true)->
 wpAny P .any l.toArray (lL P o Q) h listed a w->wpAny P .any (l++[o]).toArray Q (h+1) (listed.push false) a w:=by
 have C:∀(h:Nat) (listed:Array Bool) (a:Act) (w:World),listed.size=l.length->Region.ready .any l.toArray listed=[]->ns P o (λa w=>Q .normal a w) Q a w->
  wpOp P (l++[o]).toArray Q l.length (wpAny P .any (l++[o]).toArray Q h ((listed.push false).setIfInBounds l.length true)) a w:=by
  intro h listed a w c n f;have I:Region.ready .any (l++[o]).toArray ((listed.push false).setIfInBounds l.length true)=[]:=by
   rw[List.eq_nil_iff_forall_not_mem];intro b hi;obtain⟨i,Z,K,Y⟩:=mem_ready.1 hi;have j:=ft hi;simp only[List.size_toArray,List.length_append,List.length_cons,List.length_nil] at j;by_cases k:b=l.length
   ·subst k;simp[c] at i
   ·rw[getD_set_ne true (Ne.symm k),dL true zO] at i;have:=oP T c n (b+1) b zO zO;rw[i] at this;cases this
  unfold wpOp;simp only[List.getElem?_toArray,List.getElem?_append_right (Nat.le_refl _),Nat.sub_self,List.getElem?_cons_zero];rw[if_pos (by simp[Region.wanted,T.guard])];rcases f with f|f
  ·refine .inl (Oper.wp_mono (λB L m=>?_) f);cases h with
   |zero=>exact⟨I,m⟩
   |succ h=>exact⟨λ_=>m,λb hi=>by rw[I] at hi;cases hi⟩
  ·exact .inr f
 intro h;induction h with
 |zero=>
  intro listed a w c u p f;refine⟨λi=>?_,λb hi=>?_⟩
  ·have:=(mE T c u p).2 f.1;rw[i] at this;cases this
  ·have j:=ft hi;simp only[List.size_toArray,List.length_append,List.length_cons,List.length_nil] at j;by_cases k:b=l.length
   ·subst k;exact C 0 listed a w c f.1 f.2
   ·have:=(kR T c zO).1 hi;rw[f.1] at this;cases this
 |succ h ih=>
  intro listed a w c u p f;refine⟨λi=>?_,λb hi=>?_⟩
  ·have n:Region.ready .any l.toArray listed=[]:=by
    rw[List.eq_nil_iff_forall_not_mem];intro b hi;have j:=ft hi;have:=(kR T c (by simpa using j)).2 hi;rw[i] at this;cases this
   have:=(mE T c u p).2 n;rw[i] at this;cases this
  ·have j:=ft hi;simp only[List.size_toArray,List.length_append,List.length_cons,List.length_nil] at j;by_cases k:b=l.length
   ·subst k;have n:=(mE T c u p).1 hi;exact C (h+1) listed a w c n (f.1 n)
   ·have x:b<l.length:=by omega
    have H:=(kR T c x).1 hi;have d:=f.2 b H;have U:(listed.push false).setIfInBounds b true=(listed.setIfInBounds b true).push false:=by
     apply Array.ext_getElem?;intro A;simp only[Array.getElem?_setIfInBounds,Array.getElem?_push,Array.size_setIfInBounds,Array.size_push];by_cases d:b=A
     ·subst d;rw[if_pos rfl,if_pos zO,if_neg zO,if_pos rfl,if_pos zO]
     ·rw[if_neg d,if_neg d]
    have E:=Closed.set (S:=S) (o:=o) u c H;have D:∀v,v∈S->(listed.setIfInBounds b true).getD v false=true:=λv y=>by
     have:=p v y;by_cases e:b=v
     ·subst e;have V:b<listed.size:=by omega
      simp[V]
     ·rw[getD_set_ne false e];exact this
    rw[U];unfold wpOp at d⊢;rw[hO x];simp only[List.getElem?_toArray,List.getElem?_eq_getElem x] at d⊢;have K:Region.wanted l[b] (yielded (l++[o]).toArray a.tmps)=Region.wanted l[b] (yielded l.toArray a.tmps):=by
     unfold Region.wanted;cases hg:l[b].guard with
     |none=>rfl
     |some g=>
      obtain⟨A,M⟩:=g;have N:=T.guards b l[b] (ea x) A M hg;simp only[yielded,hO N]
    rw[K];split
    ·rename_i z
     rw[if_pos z] at d;rcases d with d|⟨d,a0,X,m⟩
     ·exact .inl (Oper.wp_mono (λB L y=>ih _ B L (by simpa using c) E D y) (Oper.wp_exits (Q:=lL P o Q) (λe a w O m=>by cases e<;>first|exact m|exact absurd rfl O) d))
     ·exact .inr ⟨d,a0,X,m⟩
    ·rename_i z
     rw[if_neg z] at d;exact ih _ _ _ (by simpa using c) E D d
def hS(S:List Nat):List Oper->List Oper->Bool
 |_,[]=>true
 |l,o::r=>nh S l o && hS S (l++[o]) r
theorem oM{Q i:Exit->Act->World->Prop}(f:∀e a w,Q e a w->i e a w){ops:Array Oper}:∀(c:Nat) (listed:Array Bool) (a:Act) (w:World),wpAny P .any ops Q c listed a w->wpAny P .any ops i c listed a w:=by
 intro c;induction c with
 |zero=>intro listed a w d;exact⟨d.1,f _ _ _ d.2⟩
 |succ c ih=>
  intro listed a w d;refine⟨λk=>f _ _ _ (d.1 k),λn hi=>?_⟩;have b:=d.2 n hi;unfold wpOp at b⊢;split at b
  ·exact ih _ _ _ b
  ·rename_i o v
   split at b
   ·rename_i h
    rw[if_pos h];rcases b with b|⟨b,a0,u,g⟩
    ·exact .inl (Oper.wp_mono (λj p m=>ih _ j p m) (Oper.wp_exits (λe a w _ g=>f e a w g) b))
    ·exact .inr ⟨b,a0,u,f _ _ _ g⟩
   ·rename_i h
    rw[if_neg h];exact ih _ _ _ b
theorem pd{S:List Nat}{ops:Array Oper}{Q:Exit->Act->World->Prop}:∀(f l:List Oper),hS S l f=true->∀(c:Nat) (listed:Array Bool) (a:Act) (w:World),listed.size=l.length->Closed l listed->(∀B,B∈S->listed.getD B false=true)->
 wpAny P .any l.toArray (gG P ops f Q) c listed a w->wpAny P .any (l++f).toArray Q (c+f.length) (listed++Array.replicate f.length false) a w:=by
 intro f;induction f with
 |nil=>
  intro l _ c listed a w j _ _ d;have:(listed++Array.replicate (List.length ([]:List Oper)) false)=listed:=by simp
  rw[this,List.append_nil];exact oM (λe a w b=>by cases e<;>exact b) _ _ _ _ d
 |cons o r ih=>
  intro l p c listed a w j y u d;simp only[hS,Bool.and_eq_true] at p;have n:=Bm p.1;have H:wpAny P .any l.toArray (lL P o (gG P ops r Q)) c listed a w:=by
   refine oM (λe a w b=>?_) _ _ _ _ d
   cases e<;>first
    |exact b
    |(have b:wpList P ops Q (o::r) a w:=b
      unfold wpList at b;rw[if_pos (by simp[Region.wanted,n.guard])] at b;rcases b with b|⟨b,a0,U,h⟩
      ·exact .inl (Oper.wp_exits (λe a w N b=>by cases e<;>first|exact b|exact absurd rfl N) b)
      ·exact .inr ⟨b,a0,U,h⟩)
  have O:(listed.push false).size=(l++[o]).length:=by simp[j]
  have K:Closed (l++[o]) (listed.push false):=by
   intro m x k h e z v;rcases Nat.lt_or_ge m l.length with A|A
   ·rw[List.getElem?_append_left A] at k;rw[dL false zO] at h;have g:=y m x k h e z v;have V:=n.order m x k e z v;rw[dL false zO];exact g
   ·have L:m=l.length:=by
     have:=(y7t.1 k).1;simp at this;omega
    subst L;rw[<-j] at h;simp at h
  have I:∀i,i∈S->(listed.push false).getD i false=true:=λi M=>by
   have g:=u i M;have T:i<listed.size:=by
    rcases Nat.lt_or_ge i listed.size with d|d
    ·exact d
    ·simp[Array.getElem?_eq_none d] at g
   rw[dL false T];exact g
  have g:=ih (l++[o]) p.2 (c+1) (listed.push false) a w O K I (Br n c listed a w j y u H);have C:(l++[o])++r=l++o::r:=by simp
  have D:c+1+r.length=c+(o::r).length:=by simp;omega
  have E:listed.push false++Array.replicate r.length false=listed++Array.replicate (o::r).length false:=by
   apply Array.ext';simp[List.replicate_succ]
  rwa[C,D,E] at g
def hM(l:List Oper)(listed:Array Bool):Bool:=(List.range l.length).all λa=>match l[a]? with
 |some x=>!(listed.getD a false)||x.after.all λe=>!Region.binds .any e||listed.getD e.on false
 |none=>true
theorem ph{listed:Array Bool}(h:hM l listed=true):Closed l listed:=by
 simp only[hM,List.all_eq_true,List.mem_range] at h;intro f x b d e c a;have:=h f (y7t.1 b).1;simp only[b,d,Bool.not_true,Bool.false_or,Array.all_eq_true_iff_forall_mem,Bool.or_eq_true,Bool.not_eq_true'] at this;rcases this e c with h|h
 ·rw[h] at a;cases a
 ·exact h
theorem ni{Q:Exit->Act->World->Prop}{w:World}{n:Nat}{m:Array Bool}(k:Nat)(S:List Nat)(listed:Array Bool)(R:World->World->Prop)(F:Nat->Value->World->Prop)(Pn:List PanicEntry->World->Prop)(i:Nat->Bool)(N:Goes R)(u:fq (l.take k) a0.tmps.size=true)(K:hS S (l.take k) (l.drop k)=true)
 (j:listed.size=(l.take k).length) (L:hM (l.take k) listed=true) (H:S.all (λe=>listed.getD e false)=true) (T:n=left listed.toList+(l.drop k).length) (B:m=listed++Array.replicate (l.drop k).length false) (V:left listed.toList=0->Region.ready .any (l.take k).toArray listed=[])
 (M:GuardsSay F i (l.take k) 0) (Y:R W w) (X:∀e v w o,F e v w->R w o->F e v o)
 (E:StepsR P R W a0 F Pn (l.take k) i (l.take k) 0) (I:(List.range listed.size).all (λa=>!(listed.getD a false)||S.contains a)=true) (x:∀(a:Nat),a∈S->∀(d:Tmp),((l.take k)[a]?).bind Oper.dst=some d->F a (a0.tmps.getD d undef) w) (C:∀b c w,b.defers=a0.defers->Pn c w->Q (.panic c) b w)
 (z:∀b w,KnownR R W a0 F (l.take k) (λa=>decide (a<(l.take k).length)) b w->wpList P l.toArray Q (l.drop k) b w):wpAny P .any l.toArray Q n m a0 w:=by
 have h:l=l.take k++l.drop k:=(List.take_append_drop k l).symm;have U:(l.take k++l.drop k).toArray=l.toArray:=by rw[<-h]
 have A:∀b w,KnownR R W a0 F (l.take k) (λa=>decide (a<(l.take k).length)) b w->gG P l.toArray (l.drop k) Q .normal b w:=λb w f=>z b w f
 have D:∀b c w,b.defers=a0.defers->Pn c w->gG P l.toArray (l.drop k) Q (.panic c) b w:=λb c w g p=>C b c w g p
 have y:∀(a:Nat) (d:Tmp),((l.take k)[a]?).bind Oper.dst=some d->listed.getD a false=true->F a (a0.tmps.getD d undef) w:=λa d O h=>by
  have Z:a<listed.size:=by
   rcases Nat.lt_or_ge a listed.size with f|f
   ·exact f
   ·simp[Array.getElem?_eq_none f] at h
  have g:=List.all_eq_true.1 I a (List.mem_range.2 Z);rw[h] at g;exact x a (by simpa using g) d O
 have a1:=pd (P:=P) (ops:=l.toArray) (Q:=Q) (l.drop k) (l.take k) K (left listed.toList) listed a0 w j (ph L) (λe hi=>List.all_eq_true.1 H e hi)
  (Cd i N X (gY u) M E D A (left listed.toList) listed a0 w j V (ac _) ⟨Y,rfl,rfl,y,λt _=>rfl⟩)
 rwa[U,<-T,<-B] at a1
theorem bD{id:Nat}{Q:Exit->Act->World->Prop}{w:World}(k:Nat)(R:World->World->Prop)(F:Nat->Value->World->Prop)(Pn:List PanicEntry->World->Prop)(c:Nat->Bool)(y:P.follows .mixedOrders=true)(f:Goes R)(j:fq (l.take k) a0.tmps.size=true)(p:hS [] (l.take k) (l.drop k)=true)
 (u:GuardsSay F c (l.take k) 0) (A:R W w) (z:∀g v w h,F g v w->R w h->F g v h)
 (o:StepsR P R W a0 F Pn (l.take k) c (l.take k) 0) (n:∀a d w,a.defers=a0.defers->Pn d w->Q (.panic d) a w)
 (m:∀a w,KnownR R W a0 F (l.take k) (λb=>decide (b<(l.take k).length)) a w->wpList P l.toArray Q (l.drop k) a w):(Code.region id l.toArray true).wp P Q a0 w:=by
 refine wp_region_any y ?_;have e:l.toArray.size=(l.take k).length+(l.drop k).length:=by
  rw[<-List.length_append,List.take_append_drop];simp
 refine ni k [] (Array.replicate (l.take k).length false) R F Pn c f j p zS ?_ rfl ?_ ?_ ?_ u (f.drew _ _ A) z o ?_ (λb x=>nomatch x) n m
 ·simp only[hM,List.all_eq_true,List.mem_range];intro b _;split
  ·rw[eD];rfl
  ·rfl
 ·rw[Array.toList_replicate,eZ];exact e
 ·rw[e];apply Array.ext';simp
 ·rw[Array.toList_replicate,eZ];intro i;have:l.take k=[]:=dl i;rw[this];rfl
 ·simp only[List.all_eq_true,List.mem_range];intro b _;rw[eD];rfl
theorem pf{ops:Array Oper}{o:Oper}{a:Act}{v:Value}(t:Tmp)(b:o.guard=none)(c:o.op=.move (.tmp t))(d:a.tmps.getD t undef=v):Yields P ops o v a:=by
 subst d;refine .inl ⟨by simp[Region.wanted,b],λw=>?_⟩;simp[execOp,c,go_sem]
end
def ng(l:List Oper)(s q t:Nat):Bool:=
 (match l[s]? with|some x=>x.dst.isNone && x.after.any (λe=>Region.binds .any e && e.on==q)|none=>false) && ((l[q]?).bind Oper.dst)==some t
structure StoreOk(l:List Oper)(s q t:Nat):Prop where
 dst:∀x,l[s]? =some x->x.dst=none
 waits:∀x,l[s]? =some x->∃e∈x.after,Region.binds .any e=true/\e.on=q
 temp:(l[q]?).bind Oper.dst=some t
theorem Ca{l:List Oper}{s q t:Nat}(h:ng l s q t=true):StoreOk l s q t:=by
 simp only[ng,Bool.and_eq_true,beq_iff_eq] at h;obtain⟨a,d⟩:=h;refine⟨λx c=>?_,λx c=>?_,d⟩
 ·simp only[c,Bool.and_eq_true,Option.isNone_iff_eq_none] at a;exact a.1
 ·simp only[c,Bool.and_eq_true] at a;obtain⟨e,f,b⟩:=Array.any_eq_true'.1 a.2;simp only[Bool.and_eq_true,beq_iff_eq] at b;exact⟨e,f,b.1,b.2⟩
section
variable {P : Program} {W : World} {a0 : Act} {F : Nat → Value → World → Prop} {G : Value → World → Prop} {l : List Oper} {s q t : Nat}
structure KnownS(W:World)(a0:Act)(F:Nat->Value->World->Prop)(G:Value->World->Prop)(l:List Oper)(s q t:Nat)(listed:Nat->Bool)(A:Act)(w:World):Prop extends Known W a0 F l listed A w where
 eff:listed s=true->listed q=true/\G (A.tmps.getD t undef) w
def pC(P:Program)(W:World)(a0:Act)(F:Nat->Value->World->Prop)(G:Value->World->Prop)(l:List Oper)(s t:Nat)(i:Nat)(o:Oper):Prop:=
 ∀(a:Act) (w:World),Ext W w->eh F l a w o.after.toList->(∀t:Tmp,(∀c:Nat,(l[c]?).bind Oper.dst≠some t)->a.tmps.getD t undef=a0.tmps.getD t undef)->
  o.wp P a w (λd b=>if i=s then d=a/\Ext W b/\(∀c e,F c e w->F c e b)/\G (a.tmps.getD t undef) b else∃v,d=a.put o.dst v/\Ext w b/\F i v b) kZ
def StepsOkS(P:Program)(W:World)(a0:Act)(F:Nat->Value->World->Prop)(G:Value->World->Prop)(l:List Oper)(s t:Nat):List Oper->Nat->Prop
 |[],_=>True
 |o::r,i=>pC P W a0 F G l s t i o/\StepsOkS P W a0 F G l s t r (i+1)
theorem StepsOkS.get:∀(r:List Oper) (k:Nat),StepsOkS P W a0 F G l s t r k->∀(j:Nat) (o:Oper),r[j]? =some o->pC P W a0 F G l s t (k+j) o
 |[],_,_,_,_,hj=>by simp at hj
 |x::r,k,h,0,o,hj=>by simp at hj;subst hj;exact h.1
 |x::r,k,h,j+1,o,hj=>by
  have:=StepsOkS.get r (k+1) h.2 j o (by simpa using hj);rwa[show k+1+j=k+(j+1) by omega] at this
theorem KnownS.step(B:∀i v w a,F i v w->Ext w a->F i v a)(u:∀v w a,G v w->Ext w a->G v a)(T:FactsOkG l a0.tmps.size)(n:StoreOk l s q t){listed:Array Bool}{A:Act}{w:World}(y:listed.size=l.length)(h:KnownS W a0 F G l s q t (λj=>listed.getD j false) A w)
 {i:Nat} {o:Oper} (e:l[i]? =some o) (x:i≠s) (f:listed.getD i true=false) {v:Value} {a:World} (m:Ext w a) (hF:F i v a):KnownS W a0 F G l s q t (λj=>(listed.setIfInBounds i true).getD j false) (A.put o.dst v) a:=by
 refine⟨h.toKnown.stepG B T e m hF,λk=>?_⟩;rw[getD_set_ne false x] at k;obtain⟨b,p⟩:=h.eff k;have g:i≠q:=by
  rintro rfl;have C:i<listed.size:=by rw[y];exact(y7t.1 e).1
  simp[C] at f b;rw[b] at f;cases f
 refine⟨by rw[getD_set_ne false g];exact b,?_⟩;have z:o.dst≠some t:=λc=>g (T.apart i q t (by rw[e];exact c) n.temp)
 have:(A.put o.dst v).tmps.getD t undef=A.tmps.getD t undef:=by
  cases hdd:o.dst with
  |none=>rfl
  |some d=>rw[eU,if_neg (λc=>z (by rw[hdd,c.1]))]
 rw[this];exact u _ _ _ p m
theorem KnownS.store(T:FactsOkG l a0.tmps.size)(i:StoreOk l s q t)(n:s≠q){listed:Array Bool}{A:Act}{w:World}(h:KnownS W a0 F G l s q t (λj=>listed.getD j false) A w)
 {o:Oper} (f:l[s]? =some o) (m:listed.getD q false=true) {a:World} (p:Ext W a) (hF:∀j g,F j g w->F j g a) (k:G (A.tmps.getD t undef) a):KnownS W a0 F G l s q t (λj=>(listed.setIfInBounds s true).getD j false) A a:=by
 refine⟨⟨p,h.size,h.defers,λj d b e=>?_,h.rest⟩,λ_=>⟨by rw[getD_set_ne false n];exact m,k⟩⟩;by_cases c:s=j
 ·subst c;rw[f,Option.bind_some,i.dst o f] at b;cases b
 ·rw[getD_set_ne false c] at e;exact hF _ _ (h.done j d b e)
theorem Ce{Q:Exit->Act->World->Prop}(a7:∀a v w k,F a v w->Ext w k->F a v k)(a3:∀v w k,G v w->Ext w k->G v k)(T:FactsOkG l a0.tmps.size)(u:StoreOk l s q t)(a6:s≠q)(a1:GuardsMet F l)(Y:StepsOkS P W a0 F G l s t l 0)
 (U:∀A w,KnownS W a0 F G l s q t (λj=>decide (j<l.length)) A w->Q .normal A w):
 ∀(c:Nat) (listed:Array Bool) (A:Act) (w:World),listed.size=l.length->(c=0->Region.ready .any l.toArray listed=[])->left listed.toList<=c->KnownS W a0 F G l s q t (λj=>listed.getD j false) A w->
  wpAny P .any l.toArray Q c listed A w:=by
 have X:=T.order;have fin:∀(listed:Array Bool) (A:Act) (w:World),listed.size=l.length->Region.ready .any l.toArray listed=[]->KnownS W a0 F G l s q t (λj=>listed.getD j false) A w->Q .normal A w:=by
  intro listed A w f H b;have S:∀n a,a<n->a<l.length->listed.getD a true=true:=by
   intro n;induction n with
   |zero=>intro a hi;omega
   |succ n ih=>
    intro a b2 hi;cases D:listed.getD a true with
    |true=>rfl
    |false=>
     have:a∈Region.ready .any l.toArray listed:=mem_ready.2 ⟨D,l[a],by simp[List.getElem?_eq_getElem hi],λe p m=>by
      have b3:=X a l[a] (ea hi) e p m;have:=ih e.on zO zO;have g:e.on<listed.size:=by omega
      simpa [g] using this⟩
     rw[H] at this;cases this
  have K:∀j,j<l.length->listed.getD j false=true:=by
   intro j C;have:=S (j+1) j zO C;have g:j<listed.size:=by omega
   simpa [g] using this
  refine U A w ⟨⟨b.ext,b.size,b.defers,λj d B D=>b.done j d B (K j (by simpa using D)),b.rest⟩,λa5=>?_⟩;have a4:q<l.length:=by
   obtain⟨o,E,-⟩:=Option.bind_eq_some_iff.1 u.temp;exact(y7t.1 E).1
  exact⟨by simpa using a4,(b.eff (K s (by simpa using a5))).2⟩
 intro c;induction c with
 |zero=>
  intro listed A w f i _ b;exact⟨i rfl,fin listed A w f (i rfl) b⟩
 |succ c ih=>
  intro listed A w f _ b0 b;refine⟨λH=>fin listed A w f H b,λa hi=>?_⟩;obtain⟨i,o,E,y⟩:=mem_ready.1 hi;have h:l[a]? =some o:=by simpa using E
  have b1:a<l.length:=(y7t.1 h).1;have L:left (listed.setIfInBounds a true).toList<=c:=by
   have g:a<listed.size:=by omega
   have a2:listed.toList[a]? =some false:=by
    simp[g] at i;simp[g,i]
   have:=fL listed.toList a a2;rw[show(listed.setIfInBounds a true).toList=listed.toList.set a true by simp];omega
  have M:c=0->Region.ready .any l.toArray (listed.setIfInBounds a true)=[]:=by
   intro Z;subst Z;rw[List.eq_nil_iff_forall_not_mem];intro j B;obtain⟨N,b4,a8,_⟩:=mem_ready.1 B;have C:j<l.length:=by
    have:=(y7n.1 a8).1;simpa using this
   have g:j<(listed.setIfInBounds a true).size:=by simpa [f] using C
   have:false∈(listed.setIfInBounds a true).toList:=by
    simp only[Array.getD_eq_getD_getElem?,Array.getElem?_eq_getElem g,Option.getD_some] at N;rw[<-N];exact Array.mem_toList_iff.2 (Array.getElem_mem _)
   have:=gg _ this;omega
  unfold wpOp;simp only[List.getElem?_toArray,h];rw[if_pos (lV T a1 h b.size b.done y)];have O:=StepsOkS.get l 0 Y a o h;rw[Nat.zero_add] at O;refine .inl (Oper.wp_mono ?_ (Oper.wp_noWay (O A w b.ext (gn b.done o.after.toList (λe p m=>y e (by simpa using p) m)) b.rest)));intro a9 k x;by_cases z:a=s
  ·subst z;rw[if_pos rfl] at x;obtain⟨rfl,I,hF,V⟩:=x;obtain⟨e,p,m,rfl⟩:=u.waits o h;exact ih _ _ _ (by simpa using f) M L (b.store T u a6 h (y e p m) I hF V)
  ·rw[if_neg z] at x;obtain⟨v,rfl,I,hF⟩:=x;exact ih _ _ _ (by simpa using f) M L (b.step a7 a3 T u f h z i I hF)
theorem np{id:Nat}{Q:Exit->Act->World->Prop}{w:World}(F:Nat->Value->World->Prop)(G:Value->World->Prop)(s q t:Nat)(p:P.follows .mixedOrders=true)(i:fq l a0.tmps.size=true)(j:ng l s q t=true)(x:s≠q)(u:s<l.length)(n:GuardsMet F l)(z:Ext W w)
 (y:∀f v w c,F f v w->Ext w c->F f v c) (o:∀v w c,G v w->Ext w c->G v c)
 (m:StepsOkS P W a0 F G l s t l 0) (k:∀a w,Known W a0 F l (λg=>decide (g<l.length)) a w->G (a.tmps.getD t undef) w->Q .normal a w):(Code.region id l.toArray true).wp P Q a0 w:=by
 refine wp_region_any p ?_;simp only[List.size_toArray];refine Ce y o (gY i) (Ca j) x n m (λa w e=>k a w e.toKnown (e.eff (by simpa using u)).2) l.length _ a0 _ zS (λh=>?_) ?_ ⟨⟨z.drew,rfl,rfl,λg d _ b=>?_,λt _=>rfl⟩,λb=>?_⟩
 ·have:l=[]:=dl h;subst this;rfl
 ·rw[Array.toList_replicate,eZ];exact ac _
 ·rw[eD] at b;cases b
 ·rw[eD] at b;cases b
end
theorem KnownR.fin{R:World->World->Prop}{W:World}{a0:Act}{F:Nat->Value->World->Prop}{l:List Oper}{listed:Nat->Bool}{A:Act}{w:World}(h:KnownR R W a0 F l listed A w){n:Nat}(c:a0.tmps.size=n):
 ∃a:Nat->Value,A={tmps:=((List.range n).map a).toArray,defers:=a0.defers}/\R W w/\(∀(b:Nat) (t:Tmp),(l[b]?).bind Oper.dst=some t->listed b=true->F b (a t) w)/\(∀t:Tmp,(l.all λo=>o.dst !=some t)=true->a t=a0.tmps.getD t undef):=
 ⟨λt=>A.tmps.getD t undef,ey (h.size.trans c) h.defers,h.rel,h.done,λt d=>ah h.rest t d⟩
section
variable {P : Program} {W : World} {a0 : Act} {F : Nat → Value → World → Prop} {J : (Nat → Bool) → (Tmp → Value) → World → Prop} {l : List Oper}
def tau(A:Act):Tmp->Value:=λt=>A.tmps.getD t undef
theorem jJ{A:Act}{d:Option Tmp}{v:Value}{t:Tmp}(h:d≠some t):tau (A.put d v) t=tau A t:=by
 unfold tau;cases d with
 |none=>rfl
 |some d=>rw[eU,if_neg (λa=>h (by rw[a.1]))]
theorem dX{A:Act}{d:Tmp}{v:Value}(h:d<A.tmps.size):tau (A.put (some d) v) d=v:=by
 unfold tau;rw[eU,if_pos ⟨rfl,h⟩]
theorem An{listed:Array Bool}{i:Nat}(hi:i<listed.size):(λj=>(listed.setIfInBounds i true).getD j false)=λj=>(λj=>listed.getD j false) j||j==i:=by
 funext j
 by_cases a:i=j
 ·subst a;simp[hi]
 ·rw[getD_set_ne false a];have:(j==i)=false:=by simpa using λe:j=i=>a e.symm
  simp only[this,Bool.or_false]
end
section
variable {P : Program} {a0 : Act} {F : Nat → Value → World → Prop} {J : (Nat → Bool) → (Tmp → Value) → World → Prop} {Pn : List PanicEntry → World → Prop} {l : List Oper}
def StepI(P:Program)(a0:Act)(F:Nat->Value->World->Prop)(J:(Nat->Bool)->(Tmp->Value)->World->Prop)(Pn:List PanicEntry->World->Prop)(l:List Oper)(i:Nat)(o:Oper):Prop:=
 ∀(b:Nat->Bool) (a:Act) (w:World),b i=false->(∀e∈o.after,Region.binds .any e=true->b e.on=true)->a.tmps.size=a0.tmps.size->eh F l a w o.after.toList->(∀t:Tmp,(∀c:Nat,(l[c]?).bind Oper.dst≠some t)->a.tmps.getD t undef=a0.tmps.getD t undef)->J b (tau a) w->
  o.wp P a w (λd f=>∃v,d=a.put o.dst v/\F i v f/\J (λc=>b c||c==i) (tau d) f) (fO Pn a)
def StepsI(P:Program)(a0:Act)(F:Nat->Value->World->Prop)(J:(Nat->Bool)->(Tmp->Value)->World->Prop)(Pn:List PanicEntry->World->Prop)(l:List Oper):List Oper->Nat->Prop
 |[],_=>True
 |o::r,i=>StepI P a0 F J Pn l i o/\StepsI P a0 F J Pn l r (i+1)
theorem StepsI.get:∀(r:List Oper) (k:Nat),StepsI P a0 F J Pn l r k->∀(j:Nat) (o:Oper),r[j]? =some o->StepI P a0 F J Pn l (k+j) o
 |[],_,_,_,_,hj=>by simp at hj
 |x::r,k,h,0,o,hj=>by simp at hj;subst hj;exact h.1
 |x::r,k,h,j+1,o,hj=>by
  have:=StepsI.get r (k+1) h.2 j o (by simpa using hj);rwa[show k+1+j=k+(j+1) by omega] at this
def ku(J:(Nat->Bool)->(Tmp->Value)->World->Prop)(S:List Nat)(T:List Tmp):Prop:=
 ∀(a b:Nat->Bool) (c d:Tmp->Value) (w:World),(∀s,s∈S->b s=a s)->(∀t,t∈T->d t=c t)->J a c w->J b d w
theorem StepI.plain{S:List Nat}{T:List Tmp}{I:World->Prop}{i:Nat}{o:Oper}(n:ku J S T)(k:∀c z w,J c z w->I w)(hi:decide (i∈S)=false)(g:(match o.dst with|some d=>decide (d∈T)|none=>false)=false)
 (h:∀(a:Act) (w:World),I w->eh F l a w o.after.toList->(∀t:Tmp,(∀y:Nat,(l[y]?).bind Oper.dst≠some t)->a.tmps.getD t undef=a0.tmps.getD t undef)->o.wp P a w (λb j=>∃v,b=a.put o.dst v/\j=w/\F i v w) (fO Pn a)):StepI P a0 F J Pn l i o:=by
 intro c a w B A C m p f;refine Oper.wp_mono ?_ (h a w (k _ _ _ f) m p);rintro b j ⟨v,rfl,rfl,hF⟩;refine⟨v,rfl,hF,n _ _ _ _ _ (λs u=>?_) (λt x=>jJ (λe=>?_)) f⟩
 ·have:s≠i:=by rintro rfl;exact absurd u (of_decide_eq_false hi)
  simp[this]
 ·rw[e] at g;exact absurd x (of_decide_eq_false g)
structure KnownI(a0:Act)(F:Nat->Value->World->Prop)(J:(Nat->Bool)->(Tmp->Value)->World->Prop)(l:List Oper)(listed:Nat->Bool)(A:Act)(w:World):Prop where
 size:A.tmps.size=a0.tmps.size
 defers:A.defers=a0.defers
 done:∀(j:Nat) (d:Tmp),(l[j]?).bind Oper.dst=some d->listed j=true->F j (A.tmps.getD d undef) w
 rest:∀t:Tmp,(∀j:Nat,(l[j]?).bind Oper.dst≠some t)->A.tmps.getD t undef=a0.tmps.getD t undef
 claim:J listed (tau A) w
theorem KnownI.step(z:∀i v w b,F i v w->F i v b)(T:FactsOkG l a0.tmps.size){listed:Array Bool}{A:Act}{w:World}(y:listed.size=l.length)(h:KnownI a0 F J l (λj=>listed.getD j false) A w)
 {i:Nat} {o:Oper} (m:l[i]? =some o) {v:Value} {b:World} (hF:F i v b) (p:J (λj=>listed.getD j false||j==i) (tau (A.put o.dst v)) b):KnownI a0 F J l (λj=>(listed.setIfInBounds i true).getD j false) (A.put o.dst v) b:=by
 have c:(l[i]?).bind Oper.dst=o.dst:=by rw[m];rfl
 have x:i<listed.size:=by rw[y];exact(y7t.1 m).1
 have B:(A.put o.dst v).tmps.size=a0.tmps.size:=by
  cases hdd:o.dst<;>simp[Act.put,h.size]
 have u:(A.put o.dst v).defers=a0.defers:=by
  cases hdd:o.dst<;>simp[Act.put,h.defers]
 have n:∀t,o.dst≠some t->(A.put o.dst v).tmps.getD t undef=A.tmps.getD t undef:=λt e=>jJ e
 refine⟨B,u,λj d a k=>?_,λt e=>?_,?_⟩
 ·by_cases g:i=j
  ·subst g;rw[c] at a;rw[a,eU,if_pos ⟨rfl,by rw[h.size];exact T.lt i d (by rw[c];exact a)⟩];exact hF
  ·rw[getD_set_ne false g] at k;rw[n d (λf=>g (T.apart i j d (by rw[c];exact f) a))];exact z _ _ _ _ (h.done j d a k)
 ·rw[n t (λf=>e i (by rw[c];exact f))];exact h.rest t e
 ·rw[An x];exact p
theorem pu{Q:Exit->Act->World->Prop}(a2:∀a v w p,F a v w->F a v p)(T:FactsOkG l a0.tmps.size)(U:GuardsMet F l)(M:StepsI P a0 F J Pn l l 0)(L:∀A k w,A.defers=a0.defers->Pn k w->Q (.panic k) A w)
 (H:∀A w,KnownI a0 F J l (λj=>decide (j<l.length)) A w->Q .normal A w):
 ∀(c:Nat) (listed:Array Bool) (A:Act) (w:World),listed.size=l.length->(c=0->Region.ready .any l.toArray listed=[])->left listed.toList<=c->KnownI a0 F J l (λj=>listed.getD j false) A w->
  wpAny P .any l.toArray Q c listed A w:=by
 have K:=T.order;have fin:∀(listed:Array Bool) (A:Act) (w:World),listed.size=l.length->Region.ready .any l.toArray listed=[]->KnownI a0 F J l (λj=>listed.getD j false) A w->Q .normal A w:=by
  intro listed A w f z b;have D:∀n a,a<n->a<l.length->listed.getD a true=true:=by
   intro n;induction n with
   |zero=>intro a hi;omega
   |succ n ih=>
    intro a a7 hi;cases hl:listed.getD a true with
    |true=>rfl
    |false=>
     have:a∈Region.ready .any l.toArray listed:=mem_ready.2 ⟨hl,l[a],by simp[List.getElem?_eq_getElem hi],λe y x=>by
      have a8:=K a l[a] (ea hi) e y x;have:=ih e.on zO zO;have g:e.on<listed.size:=by omega
      simpa [g] using this⟩
     rw[z] at this;cases this
  have E:(λj=>listed.getD j false)=λj=>decide (j<l.length):=by
   funext j
   rcases Nat.lt_or_ge j l.length with h|h
   ·have:=D (j+1) j zO h;have g:j<listed.size:=by omega
    simpa [g,h] using this
   ·have g:¬j<listed.size:=by omega
    have:¬j<l.length:=by omega
    simp[Array.getElem?_eq_none (by omega:listed.size<=j),this]
  rw[E] at b;exact H A w b
 intro c;induction c with
 |zero=>
  intro listed A w f d _ b;exact⟨d rfl,fin listed A w f (d rfl) b⟩
 |succ c ih=>
  intro listed A w f _ a5 b;refine⟨λz=>fin listed A w f z b,λa hi=>?_⟩;obtain⟨d,o,Z,u⟩:=mem_ready.1 hi;have i:l[a]? =some o:=by simpa using Z
  have a6:a<l.length:=(y7t.1 i).1;have m:a<listed.size:=by omega
  have Y:listed.getD a false=false:=by
   simp[m] at d;simp[m,d]
  have N:left (listed.setIfInBounds a true).toList<=c:=by
   have V:listed.toList[a]? =some false:=by
    simp[m] at d;simp[m,d]
   have:=fL listed.toList a V;rw[show(listed.setIfInBounds a true).toList=listed.toList.set a true by simp];omega
  have S:c=0->Region.ready .any l.toArray (listed.setIfInBounds a true)=[]:=by
   intro O;subst O;rw[List.eq_nil_iff_forall_not_mem];intro j X;obtain⟨B,a9,a3,_⟩:=mem_ready.1 X;have h:j<l.length:=by
    have:=(y7n.1 a3).1;simpa using this
   have g:j<(listed.setIfInBounds a true).size:=by simpa [f] using h
   have:false∈(listed.setIfInBounds a true).toList:=by
    simp only[Array.getD_eq_getD_getElem?,Array.getElem?_eq_getElem g,Option.getD_some] at B;rw[<-B];exact Array.mem_toList_iff.2 (Array.getElem_mem _)
   have:=gg _ this;omega
  unfold wpOp;simp only[List.getElem?_toArray,i];rw[if_pos (lV T U i b.size b.done u)];have C:=StepsI.get l 0 M a o i;rw[Nat.zero_add] at C;refine .inl (Oper.wp_mono ?_ (Oper.wp_panicOnly (λk p a1=>L A k p b.defers a1) (C (λj=>listed.getD j false) A w Y u b.size (gn b.done o.after.toList (λe y x=>u e (by simpa using y) x)) b.rest b.claim)));rintro a4 p ⟨v,rfl,hF,I⟩;exact ih _ _ _ (by simpa using f) S N (b.step a2 T f i hF I)
theorem KnownI.fin{listed:Nat->Bool}{A:Act}{w:World}(h:KnownI a0 F J l listed A w){n:Nat}(c:a0.tmps.size=n):
 ∃a:Nat->Value,A={tmps:=((List.range n).map a).toArray,defers:=a0.defers}/\(∀(b:Nat) (t:Tmp),(l[b]?).bind Oper.dst=some t->listed b=true->F b (a t) w)/\(∀t:Tmp,(l.all λo=>o.dst !=some t)=true->a t=a0.tmps.getD t undef)/\J listed a w:=
 ⟨λt=>A.tmps.getD t undef,ey (h.size.trans c) h.defers,h.done,λt d=>ah h.rest t d,h.claim⟩
theorem eO{id:Nat}{Q:Exit->Act->World->Prop}{w:World}(k:Nat)(F:Nat->Value->World->Prop)(J:(Nat->Bool)->(Tmp->Value)->World->Prop)(Pn:List PanicEntry->World->Prop)(H:P.follows .mixedOrders=true)(K:∀g v w L,F g v w->F g v L)(p:fq (l.take k) a0.tmps.size=true)(B:hS [] (l.take k) (l.drop k)=true)
 (E:GuardsMet F (l.take k)) (h0:J (λ_=>false) (tau a0) w.drew)
 (A:StepsI P a0 F J Pn (l.take k) (l.take k) 0) (y:∀a c w,a.defers=a0.defers->Pn c w->Q (.panic c) a w)
 (u:∀a w,KnownI a0 F J (l.take k) (λb=>decide (b<(l.take k).length)) a w->wpList P l.toArray Q (l.drop k) a w):(Code.region id l.toArray true).wp P Q a0 w:=by
 refine wp_region_any H ?_;have e:l=l.take k++l.drop k:=(List.take_append_drop k l).symm;have I:(l.take k++l.drop k).toArray=l.toArray:=by rw[<-e]
 have i:l.toArray.size=(l.take k).length+(l.drop k).length:=by
  rw[<-List.length_append,List.take_append_drop];simp
 have x:∀a w,KnownI a0 F J (l.take k) (λb=>decide (b<(l.take k).length)) a w->gG P l.toArray (l.drop k) Q .normal a w:=λa w f=>u a w f
 have z:∀a c w,a.defers=a0.defers->Pn c w->gG P l.toArray (l.drop k) Q (.panic c) a w:=λa c w n o=>y a c w n o
 have D:(λb=>(Array.replicate (l.take k).length false).getD b false)=λ_=>false:=by
  funext b
  exact eD ..
 have C:hM (l.take k) (Array.replicate (l.take k).length false)=true:=by
  simp only[hM,List.all_eq_true,List.mem_range];intro b _;split
  ·rw[eD];rfl
  ·rfl
 have h:=pd (P:=P) (ops:=l.toArray) (Q:=Q) (l.drop k) (l.take k) B (left (Array.replicate (l.take k).length false).toList) (Array.replicate (l.take k).length false) a0 w.drew zS (ph C) (λg hi=>nomatch hi)
  (pu K (gY p) E A z x (left (Array.replicate (l.take k).length false).toList) _ a0 w.drew zS (by
    rw[Array.toList_replicate,eZ];intro f;have:l.take k=[]:=dl f;rw[this];rfl) (ac _) ⟨rfl,rfl,(λb d _ e=>by rw[eD] at e;cases e),(λt _=>rfl),(by rw[D];exact h0)⟩)
 rw[I] at h;have j:left (Array.replicate (l.take k).length false).toList+(l.drop k).length=l.toArray.size:=by rw[Array.toList_replicate,eZ];exact i.symm
 have m:Array.replicate (l.take k).length false++Array.replicate (l.drop k).length false=Array.replicate l.toArray.size false:=by
  rw[i];apply Array.ext';simp
 rw[j,m] at h;exact h
def phJ(p:Nat)(d:Tmp)(a:World->Prop)(b:Value->World->Prop)(c:Nat->Bool)(e:Tmp->Value)(w:World):Prop:=match c p with|false=>a w|true=>b (e d) w
theorem gP{p:Nat}{d:Tmp}{b:World->Prop}{c:Value->World->Prop}:ku (phJ p d b c) [p] [d]:=λg h i j w e f a=>by
 unfold phJ at a⊢;rw[e p zS,f d zS];exact a
theorem hR{p:Nat}{d:Tmp}{a:World->Prop}{b:Value->World->Prop}{I:World->Prop}(h0:∀w,a w->I w)(e:∀v w,b v w->I w)(c:Nat->Bool)(f:Tmp->Value)(w:World)(h:phJ p d a b c f w):I w:=by
 unfold phJ at h;split at h
 ·exact h0 _ h
 ·exact e _ _ h
theorem StepI.turn{p:Nat}{d:Tmp}{f:World->Prop}{g:Value->World->Prop}{o:Oper}(n:o.dst=some d)(j:decide (d<a0.tmps.size)=true)
 (h:∀(a:Act) (w:World),f w->eh F l a w o.after.toList->(∀t:Tmp,(∀y:Nat,(l[y]?).bind Oper.dst≠some t)->a.tmps.getD t undef=a0.tmps.getD t undef)->o.wp P a w (λe c=>∃v,e=a.put o.dst v/\F p v c/\g v c) (fO Pn a)):StepI P a0 F (phJ p d f g) Pn l p o:=by
 intro z a w m A x k u b;unfold phJ at b;rw[m] at b;refine Oper.wp_mono ?_ (h a w b k u);rintro e c ⟨v,rfl,hF,i⟩;refine⟨v,rfl,hF,?_⟩;unfold phJ;simp only[beq_self_eq_true,Bool.or_true];rw[n,dX (by rw[x];exact of_decide_eq_true j)];exact i
end
section
variable {P : Program} {l r : List Oper} {Q : Exit → Act → World → Prop}
def nf(l r:List Oper):Bool:=
 r.all (λo=>(List.range l.length).all λa=>o.after.any λe=>Region.binds .any e && e.on==a) &&
  (List.range l.length).all (λa=>match l[a]? with
    |some x=>x.after.all (λe=>!Region.binds .any e||decide (e.on<a)) && (match x.guard with|none=>true|some (j,_)=>decide (j<l.length))
    |none=>true)
structure StageT(l r:List Oper):Prop where
 waits:∀o,o∈r->∀i,i<l.length->∃e∈o.after,Region.binds .any e=true/\e.on=i
 order:∀(i:Nat) (x:Oper),l[i]? =some x->∀e∈x.after,Region.binds .any e=true->e.on<i
 guards:∀(i:Nat) (x:Oper),l[i]? =some x->∀j b,x.guard=some (j,b)->j<l.length
theorem Bl(h:nf l r=true):StageT l r:=by
 simp only[nf,Bool.and_eq_true,List.all_eq_true,List.mem_range] at h;obtain⟨g,f⟩:=h;have lt:∀{a:Nat} {x:Oper},l[a]? =some x->a<l.length:=λhi=>(y7t.1 hi).1
 refine⟨λo j a hi=>?_,λa x c e d b=>?_,λa x c m k i=>?_⟩
 ·obtain⟨e,d,b⟩:=Array.any_eq_true'.1 (g o j a hi);simp only[Bool.and_eq_true,beq_iff_eq] at b;exact⟨e,d,b.1,b.2⟩
 ·have:=f a (lt c);simp only[c,Bool.and_eq_true,Array.all_eq_true_iff_forall_mem,Bool.or_eq_true,Bool.not_eq_true',decide_eq_true_eq] at this;rcases this.1 e d with h|h
  ·rw[h] at b;cases b
  ·exact h
 ·have:=f a (lt c);simp only[c,Bool.and_eq_true,i,decide_eq_true_eq] at this;exact this.2
def ic(P:Program)(l r:List Oper)(Q:Exit->Act->World->Prop):Exit->Act->World->Prop
 |.normal,a,w=>wpAny P .any (l++r).toArray Q r.length (Array.replicate l.length true++Array.replicate r.length false) a w
 |e,a,w=>Q e a w
theorem mM{i:Nat}(hi:i<l.length):(l++r).toArray[i]? =l.toArray[i]? :=by
 simp[List.getElem?_append_left hi]
theorem kk{listed:Array Bool}{n i:Nat}(b:Bool)(hi:i<listed.size):(listed++Array.replicate n false).getD i b=listed.getD i b:=by
 simp[Array.getElem?_append_left hi,Array.getElem?_eq_getElem hi,Array.size_append]
theorem rG:∀(a:List Bool),left a=0->a=List.replicate a.length true
 |[],_=>rfl
 |b::r,h=>by
  cases b with
  |false=>simp[left] at h
  |true=>simp only[left] at h;rw[List.length_cons,List.replicate_succ,<-rG r (by simpa using h)]
theorem oZ(T:StageT l r){listed:Array Bool}(g:listed.size=l.length){i:Nat}(hi:i<l.length):
 i∈Region.ready .any (l++r).toArray (listed++Array.replicate r.length false)↔i∈Region.ready .any l.toArray listed:=by
 rw[mem_ready,mem_ready,kk true zO,mM hi];constructor
 ·rintro⟨d,x,c,f⟩;refine⟨d,x,c,λe b a=>?_⟩;have:=T.order i x (by simpa using c) e b a;rw[<-kk false zO];exact f e b a
 ·rintro⟨d,x,c,f⟩;refine⟨d,x,c,λe b a=>?_⟩;have:=T.order i x (by simpa using c) e b a;rw[kk false zO];exact f e b a
theorem yT(T:StageT l r){listed:Array Bool}(i:listed.size=l.length)(h:Region.ready .any l.toArray listed=[]):∀n a,a<n->a<l.length->listed.getD a true=true:=by
 intro n;induction n with
 |zero=>intro a hi;omega
 |succ n ih=>
  intro a f hi;cases hl:listed.getD a true with
  |true=>rfl
  |false=>
   have:a∈Region.ready .any l.toArray listed:=mem_ready.2 ⟨hl,l[a],by simp[List.getElem?_eq_getElem hi],λe c b=>by
    have g:=T.order a l[a] (ea hi) e c b;have:=ih e.on zO zO;have d:e.on<listed.size:=by omega
    simpa [d] using this⟩
   rw[h] at this;cases this
theorem rF{listed:Array Bool}(h:∀a,a<listed.size->listed.getD a true=true):left listed.toList=0:=by
 rcases Nat.eq_zero_or_pos (left listed.toList) with d|d
 ·exact d
 ·exfalso;have:∀c:List Bool,0<left c->false∈c:=by
   intro c;induction c with
   |nil=>intro h;simp[left] at h
   |cons b r ih=>
    intro h;cases b with
    |false=>exact cc ..
    |true=>exact bi _ (ih (by simpa [left] using h))
  obtain⟨a,hi,e⟩:=List.mem_iff_getElem.1 (this _ d);have f:a<listed.size:=by simpa using hi
  have:=h a f;simp[f] at this;simp at e;rw[e] at this;cases this
theorem Bq(T:StageT l r):∀(d:Nat) (listed:Array Bool) (a:Act) (w:World),listed.size=l.length->left listed.toList=d->
 wpAny P .any l.toArray (ic P l r Q) d listed a w->wpAny P .any (l++r).toArray Q (d+r.length) (listed++Array.replicate r.length false) a w:=by
 intro d;induction d with
 |zero=>
  intro listed a w f A k;have e:listed=Array.replicate l.length true:=by
   apply Array.ext';rw[rG _ A,Array.toList_replicate,Array.length_toList,f]
  rw[e,Nat.zero_add];exact k.2
 |succ d ih=>
  intro listed a w f A k;rw[show d+1+r.length=(d+r.length)+1 by omega];refine⟨λh=>?_,λb hi=>?_⟩
  ·exfalso;have S:Region.ready .any l.toArray listed=[]:=by
    rw[List.eq_nil_iff_forall_not_mem];intro b hi;have L:=ft hi;have:=(oZ T f (by simpa using L)).2 hi;rw[h] at this;cases this
   have:=rF (listed:=listed) (λb hi=>yT T f S (b+1) b zO zO);omega
  ·by_cases i:b<l.length
   ·have z:=(oZ T f i).1 hi;obtain⟨h,-,-,-⟩:=mem_ready.1 z;have c:=k.2 b z;have p:b<listed.size:=by omega
    have U:(listed++Array.replicate r.length false).setIfInBounds b true=(listed.setIfInBounds b true)++Array.replicate r.length false:=by
     apply Array.ext';simp[List.set_append,p]
    have y:left (listed.setIfInBounds b true).toList=d:=by
     have I:listed.toList[b]? =some false:=by
      simp[p] at h;simp[p,h]
     have:=fL listed.toList b I;rw[show(listed.setIfInBounds b true).toList=listed.toList.set b true by simp];omega
    rw[U];unfold wpOp at c⊢;rw[mM i];simp only[List.getElem?_toArray,List.getElem?_eq_getElem i] at c⊢;have o:Region.wanted l[b] (yielded (l++r).toArray a.tmps)=Region.wanted l[b] (yielded l.toArray a.tmps):=by
     unfold Region.wanted;cases hg:l[b].guard with
     |none=>rfl
     |some g=>
      obtain⟨u,C⟩:=g;have j:=T.guards b l[b] (ea i) u C hg;simp only[yielded,mM j]
    rw[o];split
    ·rename_i n
     rw[if_pos n] at c;rcases c with c|⟨c,a0,X,m⟩
     ·exact .inl (Oper.wp_mono (λB V K=>ih _ B V (by simpa using f) y K) (Oper.wp_exits (Q:=ic P l r Q) (λe a w N m=>by cases e<;>first|exact m|exact absurd rfl N) c))
     ·exact .inr ⟨c,a0,X,m⟩
    ·rename_i n
     rw[if_neg n] at c;exact ih _ _ _ (by simpa using f) y c
   ·exfalso;obtain⟨h,v,o,D⟩:=mem_ready.1 hi;have M:v∈r:=by
     have c:(l++r)[b]? =some v:=by simpa using o
     rw[List.getElem?_append_right zO] at c;exact List.mem_of_getElem? c
    have:=rF (listed:=listed) (λu j=>by
     obtain⟨e,H,E,O⟩:=T.waits v M u zO;have x:=D e H E;rw[O,kk false j] at x;simpa [j] using x)
    omega
end
section
variable {P : Program} {a0 : Act} {F : Nat → Value → World → Prop} {J : (Nat → Bool) → (Tmp → Value) → World → Prop} {Pn : List PanicEntry → World → Prop} {l : List Oper}
theorem pv{id:Nat}{Q:Exit->Act->World->Prop}{w:World}(k:Nat)(F:Nat->Value->World->Prop)(J:(Nat->Bool)->(Tmp->Value)->World->Prop)(Pn:List PanicEntry->World->Prop)(E:P.follows .mixedOrders=true)(H:∀i v w I,F i v w->F i v I)(p:fq (l.take k) a0.tmps.size=true)(B:nf (l.take k) (l.drop k)=true)
 (D:GuardsMet F (l.take k)) (h0:J (λ_=>false) (tau a0) w.drew)
 (A:StepsI P a0 F J Pn (l.take k) (l.take k) 0) (y:∀a b w,a.defers=a0.defers->Pn b w->Q (.panic b) a w)
 (u:∀a w,KnownI a0 F J (l.take k) (λc=>decide (c<(l.take k).length)) a w->wpAny P .any l.toArray Q (l.drop k).length (Array.replicate (l.take k).length true++Array.replicate (l.drop k).length false) a w):(Code.region id l.toArray true).wp P Q a0 w:=by
 refine wp_region_any E ?_;have e:l.take k++l.drop k=l:=List.take_append_drop k l;have h:l.toArray.size=(l.take k).length+(l.drop k).length:=by
  rw[<-List.length_append,List.take_append_drop];simp
 have x:∀a w,KnownI a0 F J (l.take k) (λc=>decide (c<(l.take k).length)) a w->ic P (l.take k) (l.drop k) Q .normal a w:=λa w f=>by
  unfold ic;rw[e];exact u a w f
 have z:∀a b w,a.defers=a0.defers->Pn b w->ic P (l.take k) (l.drop k) Q (.panic b) a w:=λa b w n o=>y a b w n o
 have C:(λc=>(Array.replicate (l.take k).length false).getD c false)=λ_=>false:=by
  funext c
  exact eD ..
 have g:=Bq (P:=P) (Q:=Q) (Bl B) (left (Array.replicate (l.take k).length false).toList) (Array.replicate (l.take k).length false) a0 w.drew zS rfl
  (pu H (gY p) D A z x (left (Array.replicate (l.take k).length false).toList) _ a0 w.drew zS (by
    rw[Array.toList_replicate,eZ];intro f;have:l.take k=[]:=dl f;rw[this];rfl) (ac _) ⟨rfl,rfl,(λc d _ e=>by rw[eD] at e;cases e),(λt _=>rfl),(by rw[C];exact h0)⟩)
 rw[e] at g;have j:left (Array.replicate (l.take k).length false).toList+(l.drop k).length=l.toArray.size:=by rw[Array.toList_replicate,eZ];exact h.symm
 have m:Array.replicate (l.take k).length false++Array.replicate (l.drop k).length false=Array.replicate l.toArray.size false:=by
  rw[h];apply Array.ext';simp
 rw[j,m] at g;exact g
def gw(p:Nat)(d:Tmp)(c:World->Prop)(e:Value->World->Prop)(q:Nat)(g:Tmp)(f:Value->World->Prop)(a:Nat->Bool)(b:Tmp->Value)(w:World):Prop:=phJ p d c e a b w/\(match a q with|false=>True|true=>f (b g) w)
theorem oD{p q:Nat}{d a:Tmp}{h:World->Prop}{i j:Value->World->Prop}:ku (gw p d h i q a j) [p,q] [d,a]:=λk m n o w c e b=>by
 unfold gw at b⊢;refine⟨gP k m n o w (λs f=>c s (by simp at f;simp[f])) (λt g=>e t (by simp at g;simp[g])) b.1,?_⟩;rw[c q zS,e a zS];exact b.2
theorem qR{p q:Nat}{d g:Tmp}{a:World->Prop}{b f:Value->World->Prop}{I:World->Prop}(h0:∀w,a w->I w)(i:∀v w,b v w->I w)(c:Nat->Bool)(e:Tmp->Value)(w:World)(h:gw p d a b q g f c e w):I w:=hR h0 i c e w h.1
theorem StepI.turn2{p q:Nat}{d k:Tmp}{i:World->Prop}{j f:Value->World->Prop}{o:Oper}(n:o.dst=some d)(z:decide (d<a0.tmps.size)=true)(E:decide (q=p)=false)(B:decide (d=k)=false)
 (h:∀(a:Act) (w:World),i w->eh F l a w o.after.toList->(∀t:Tmp,(∀L:Nat,(l[L]?).bind Oper.dst≠some t)->a.tmps.getD t undef=a0.tmps.getD t undef)->o.wp P a w (λg c=>∃v,g=a.put o.dst v/\F p v c/\j v c/\∀u,f u w->f u c) (fO Pn a)):StepI P a0 F (gw p d i j q k f) Pn l p o:=by
 intro M a w C N K A I b;obtain⟨b,m⟩:=b;unfold phJ at b;rw[C] at b;refine Oper.wp_mono ?_ (h a w b A I);rintro g c ⟨v,rfl,hF,x,y⟩;refine⟨v,rfl,hF,?_,?_⟩
 ·unfold phJ;simp only[beq_self_eq_true,Bool.or_true];rw[n,dX (by rw[K];exact of_decide_eq_true z)];exact x
 ·have D:(q==p)=false:=by simpa using of_decide_eq_false E
  simp only[D,Bool.or_false];rw[jJ (by rw[n];intro e;injection e with e;exact of_decide_eq_false B e)];split
  ·trivial
  ·rename_i H
   rw[H] at m;exact y _ m
theorem StepI.lay2{p q:Nat}{d i:Tmp}{f:World->Prop}{g n:Value->World->Prop}{o:Oper}(u:o.dst=some i)(z:decide (i<a0.tmps.size)=true)(D:decide (p=q)=false)(B:decide (i=d)=false)(I:∀w b,f w->Ext w b->f b)(K:∀j w b,g j w->Ext w b->g j b)
 (h:∀(c:Act) (w:World),(f w\/∃j,g j w)->eh F l c w o.after.toList->(∀t:Tmp,(∀L:Nat,(l[L]?).bind Oper.dst≠some t)->c.tmps.getD t undef=a0.tmps.getD t undef)->o.wp P c w (λm b=>∃v,m=c.put o.dst v/\F q v b/\Ext w b/\n v b) (fO Pn c)):StepI P a0 F (gw p d f g q i n) Pn l q o:=by
 intro M c w O N H A E a;obtain⟨a,-⟩:=a;refine Oper.wp_mono ?_ (h c w ?_ A E)
 ·rintro m b ⟨v,rfl,hF,x,y⟩;refine⟨v,rfl,hF,?_,?_⟩
  ·unfold phJ at a⊢;have C:(p==q)=false:=by simpa using of_decide_eq_false D
   simp only[C,Bool.or_false];rw[jJ (by rw[u];intro e;injection e with e;exact of_decide_eq_false B e)];split
   ·rename_i k
    rw[k] at a;exact I _ _ a x
   ·rename_i k
    rw[k] at a;exact K _ _ _ a x
  ·simp only[beq_self_eq_true,Bool.or_true];rw[u,dX (by rw[H];exact of_decide_eq_true z)];exact y
 ·unfold phJ at a;split at a
  ·exact .inl a
  ·exact .inr ⟨_,a⟩
theorem rZ{ops:Array Oper}{Q:Exit->Act->World->Prop}{i j:Nat}{listed:Array Bool}{a:Act}{w:World}(h:Region.ready .any ops listed=[i,j])(hi:Region.ready .any ops (listed.setIfInBounds i true)=[j])(A:Region.ready .any ops (listed.setIfInBounds j true)=[i])
 (z:Region.ready .any ops ((listed.setIfInBounds i true).setIfInBounds j true)=[]) (B:Region.ready .any ops ((listed.setIfInBounds j true).setIfInBounds i true)=[])
 (v:wpOp P ops Q i (λb c=>wpOp P ops Q j (λf k=>Q .normal f k) b c) a w) (h2:wpOp P ops Q j (λb c=>wpOp P ops Q i (λf k=>Q .normal f k) b c) a w):wpAny P .any ops Q 2 listed a w:=by
 have o:∀{x m:Nat} (n:Array Bool),Region.ready .any ops n=[m]->Region.ready .any ops (n.setIfInBounds m true)=[]->∀a w,wpOp P ops Q m (λf k=>Q .normal f k) a w->wpAny P .any ops Q 1 n a w:=λ{x m} n p y a w d=>
  ⟨(λg=>by rw[p] at g;cases g),(λu e=>by
    rw[p] at e;obtain rfl:u=m:=by simpa using e
    exact wpOp_mono (λb c d=>⟨y,d⟩) d)⟩
 refine⟨(λg=>by rw[h] at g;cases g),(λu e=>?_)⟩;rw[h] at e;simp only[List.mem_cons,List.not_mem_nil,or_false] at e;rcases e with rfl|rfl
 ·exact wpOp_mono (λb c d=>o (x:=0) _ hi z b c d) v
 ·exact wpOp_mono (λb c d=>o (x:=0) _ A B b c d) h2
end
abbrev CJ:=(Tmp->Value)->World->Prop
def chJ:List (Nat×CJ)->CJ->(Nat->Bool)->(Tmp->Value)->World->Prop
 |[],E,_,τ,w=>E τ w
 |(p,J)::r,E,L,τ,w=>match L p with|false=>J τ w/\∀q,q∈r->L q.1=false|true=>chJ r E L τ w
def nxJ:List (Nat×CJ)->CJ->CJ
 |[],E=>E
 |(_,J)::_,_=>J
def jB(a:CJ->Prop):List (Nat×CJ)->Prop
 |[]=>True
 |q::r=>a q.2/\jB a r
theorem nJ{p:Nat}{J i:CJ}{post:List (Nat×CJ)}{b:Nat->Bool}{g:Tmp->Value}{w:World}(e:b p=false):∀(pre:List (Nat×CJ)),(∀q,pre.getLast? =some q->b q.1=true)->chJ (pre++(p,J)::post) i b g w->
 J g w/\(∀q,q∈pre->b q.1=true)/\∀q,q∈post->b q.1=false
 |[],_,h=>by
  rw[List.nil_append,chJ,e] at h;exact⟨h.1,λq a=>absurd a List.not_mem_nil,h.2⟩
 |(x,Jx)::pre,hl,h=>by
  rw[List.cons_append,chJ] at h;cases hx:b x with
  |false=>
   rw[hx] at h;cases pre with
   |nil=>have:=hl (x,Jx) rfl;rw[hx] at this;cases this
   |cons f r=>
    obtain⟨q,a⟩:∃q,(f::r).getLast? =some q:=⟨_,List.getLast?_eq_some_getLast zS⟩;have d:=hl q (by rw[List.getLast?_cons_cons];exact a);have c:=h.2 q (List.mem_append_left _ (List.mem_of_getLast? a));rw[d] at c;cases c
  |true=>
   rw[hx] at h;obtain⟨d,c,j⟩:=nJ e pre (λq a=>hl q (by
    cases pre with
    |nil=>cases a
    |cons f r=>rw[List.getLast?_cons_cons];exact a)) h
   refine⟨d,λq a=>?_,j⟩;rcases List.mem_cons.1 a with rfl|a
   ·exact hx
   ·exact c q a
theorem qn{p:Nat}{J c:CJ}{post:List (Nat×CJ)}{a:Nat->Bool}{f:Tmp->Value}{w:World}(i:a p=true)(d:∀q,q∈post->a q.1=false)(h:nxJ post c f w):∀(pre:List (Nat×CJ)),(∀q,q∈pre->a q.1=true)->chJ (pre++(p,J)::post) c a f w
 |[],_=>by
  rw[List.nil_append,chJ,i];cases post with
  |nil=>exact h
  |cons b r=>
   obtain⟨b,g⟩:=b;show chJ ((b,g)::r) c a f w;rw[chJ,d (b,g) (List.mem_cons_self ..)];exact⟨h,λq e=>d q (bi _ e)⟩
 |(x,Jx)::pre,hl=>by
  rw[List.cons_append,chJ,hl (x,Jx) (List.mem_cons_self ..)];exact qn i d h pre (λq e=>hl q (bi _ e))
theorem pI{I:World->Prop}{b:CJ}{e:Nat->Bool}{a:Tmp->Value}{w:World}(d:∀a w,b a w->I w):∀(c:List (Nat×CJ)),jB (λJ=>∀a w,J a w->I w) c->chJ c b e a w->I w
 |[],_,h=>d _ _ h
 |(p,J)::r,ha,h=>by
  rw[chJ] at h;split at h
  ·exact ha.1 _ _ h.1
  ·exact pI d r ha.2 h
theorem gi{T:List Tmp}{e:CJ}(j:∀a b w,(∀t,t∈T->b t=a t)->e a w->e b w):∀(f:List (Nat×CJ)),jB (λJ=>∀a b w,(∀t,t∈T->b t=a t)->J a w->J b w) f->ku (chJ f e) (f.map Prod.fst) T
 |[],_=>λh i a b w _ d c=>j a b w d c
 |(p,J)::r,ha=>λh i a b w g d c=>by
  rw[chJ] at c⊢;rw[g p zS];split at c
  ·exact⟨ha.1 a b w d c.1,λq k=>by rw[g q.1 (by simp;exact .inr ⟨_,k⟩)];exact c.2 q k⟩
  ·exact gi j r ha.2 h i a b w (λs m=>g s (by simp at m⊢;exact .inr m)) d c
theorem hK{I:World->Prop}{c:CJ}{b:List (Nat×CJ)}{d:Nat->Bool}{a:Tmp->Value}{w:World}(h:chJ b c d a w)(e:∀a w,c a w->I w)(ha:jB (λJ=>∀a w,J a w->I w) b):I w:=pI e b ha h
theorem gI{a:CJ}{c:Tmp->Value}{w:World}:∀(b:List (Nat×CJ)),nxJ b a c w->chJ b a (λ_=>false) c w
 |[],h=>h
 |(p,J)::r,h=>⟨h,λ_ _=>rfl⟩
theorem gz{a:CJ}{b:Nat->Bool}{d:Tmp->Value}{w:World}:∀(c:List (Nat×CJ)),(c.all λq=>b q.1)=true->chJ c a b d w->a d w
 |[],_,h=>h
 |(p,J)::r,hl,h=>by
  simp only[List.all_cons,Bool.and_eq_true] at hl;rw[chJ,hl.1] at h;exact gz r hl.2 h
section
variable {P : Program} {a0 : Act} {F : Nat → Value → World → Prop} {Pn : List PanicEntry → World → Prop} {l : List Oper}
theorem StepI.chain{b:List (Nat×CJ)}{k:CJ}(i:Nat){p:Nat}{J:CJ}{o:Oper}(H:b[i]? =some (p,J))(x:(match(b.take i).getLast? with|none=>true|some q=>o.after.any λe=>Region.binds .any e && e.on==q.1)=true)(u:((b.take i++b.drop (i+1)).all λq=>q.1 !=p)=true)
 (h:∀(a:Act) (w:World),a.tmps.size=a0.tmps.size->J (tau a) w->eh F l a w o.after.toList->(∀t:Tmp,(∀L:Nat,(l[L]?).bind Oper.dst≠some t)->a.tmps.getD t undef=a0.tmps.getD t undef)->
   o.wp P a w (λj g=>∃v,j=a.put o.dst v/\F p v g/\nxJ (b.drop (i+1)) k (tau (a.put o.dst v)) g) (fO Pn a)):StepI P a0 F (chJ b k) Pn l p o:=by
 have n:b=b.take i++(p,J)::b.drop (i+1):=by
  obtain⟨hi,f⟩:=y7t.1 H;rw[<-f,<-List.drop_eq_getElem_cons hi,List.take_append_drop]
 intro M a w E C K D I m;rw[n] at m;obtain⟨y,z,A⟩:=nJ E (b.take i) (λq c=>by
  rw[c] at x;obtain⟨e,f,d⟩:=Array.any_eq_true'.1 x;simp only[Bool.and_eq_true,beq_iff_eq] at d;rw[<-d.2];exact C e f d.1) m
 refine Oper.wp_mono ?_ (h a w K y D I);rintro j g ⟨v,rfl,hF,B⟩;refine⟨v,rfl,hF,?_⟩;simp only[List.all_append,Bool.and_eq_true,List.all_eq_true,bne_iff_ne,ne_eq] at u;rw[n];refine qn zS (λq c=>?_) B _ (λq c=>?_)
 ·have:=u.2 q c;simp[A q c,this]
 ·simp[z q c]
end
