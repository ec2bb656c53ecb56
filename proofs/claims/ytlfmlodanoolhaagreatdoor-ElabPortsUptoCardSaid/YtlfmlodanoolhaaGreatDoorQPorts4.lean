import Derived.Test.YtlfmlodanoolhaaGreatDoorQ52
set_option linter.all false
set_option maxRecDepth 200000
set_option maxHeartbeats 0
namespace Go.Proofs.YtlfmlodanoolhaaGreatDoor
section
open Go Go.RowKit
def NZ{α:Type}(a:Rs α):Prop:=a≠.error 0
theorem NZ.ok{α:Type}(a:α):NZ (.ok a:Rs α):=λb=>by cases b
theorem NZ.err{α:Type}{e:Int}(h:e≠0):NZ (.error e:Rs α):=λa=>by injection a with a;exact h a
theorem NZ.bind{α d:Type}{c:Rs α}{f:α->Rs d}(h:NZ c)(g:∀b,c=.ok b->NZ (f b)):NZ (c>>=f):=by
 cases c with
 |error e=>
  intro a;have a:(.error e:Rs d)=.error 0:=a;injection a with a;exact h (by rw[a])
 |ok b=>exact g b rfl
theorem fB{p:Prop}{inst:Decidable p}{e:Int}(a:e≠0):NZ (@aQ p inst e):=by
 unfold aQ;split
 ·exact .ok _
 ·exact .err a
theorem nZ(b:Int×Int):NZ (ofK b):=by
 unfold ofK;split
 ·exact .ok _
 ·rename_i a;exact .err a
theorem eP(s:Sc)(x:X):NZ (aJ s x):=nZ _
theorem jT(s:Sc)(x:X):NZ (co s x):=nZ _
theorem nY(s:Sc)(x:X):NZ (eK s x):=by
 unfold eK;split
 ·exact .ok _
 ·rename_i a;exact .err a
theorem ew(n:Int)(m:Mk):NZ (aX n m):=by
 unfold aX;split
 ·exact .ok _
 ·exact .err zD
theorem lZ(a:ByteArray)(w k i:Int)(s:Sc)(m:Mk):NZ (cJ a w k i s m):=by
 unfold cJ;split
 ·exact .ok _
 ·exact .err zD
theorem ks(a:Bool)(l:List DT)(m:Mk):NZ (ce a l m):=by
 unfold ce;split
 ·exact .ok _
 ·exact .err zD
theorem rh(s:Sc)(a:ByteArray):NZ (dt s a):=by
 unfold dt;split
 ·exact .ok _
 ·exact .err zD
theorem nh(a:List Sg)(s:Sc)(x:X):NZ (bX a s x):=by
 unfold bX;refine(rh s _).bind λb _=>?_
 dsimp only;split
 ·exact(fB zD).bind λ_ _=>.ok _
 ·exact(eP _ _).bind λ_ _=>(eP _ _).bind λ_ _=>(fB zD).bind λ_ _=>.ok _
theorem sr(b:List Sg)(s:Sc)(a:Bool)(x:X):NZ (cK b s a x):=by
 unfold cK;exact(fB zD).bind λ_ _=>(nh _ _ _).bind λ_ _=>(fB zD).bind λ_ _=>.ok _
theorem jS:∀(b:List (Rs (DE×Int))) (n:Int),(∀a,a∈b->NZ a)->NZ (cH b n)
 |[],_,_=>.ok _
 |a::rs,n,h=>by
  rw[cH];exact(h a (bT ..)).bind λe _=>(jS rs _ λd c=>h d (bj _ c)).bind λ_ _=>.ok _
theorem jR(a:DE×Int):NZ (dh a):=by
 unfold dh;split
 ·exact .ok _
 ·exact .err zD
theorem qi{g:List Sg}{s:Sc}{x:X}{a:List (Rs (DE×Int))}(h:∀b,b∈a->NZ b)(d:x.op=9->2<=a.length):NZ (dp g s x a):=by
 unfold dp;split
 ·exact .ok _
 split
 ·split
  ·exact .ok _
  ·exact(nh _ _ _).bind λ_ _=>.ok _
 split
 ·exact(nh _ _ _).bind λ_ _=>.ok _
 split
 ·exact(rh _ _).bind λ_ _=>(jS _ _ h).bind λ_ _=>jR _
 split
 ·rename_i c
  have f:NZ (a.getD 1 (.error 0)):=by
   have:=d c;rw[List.getD_eq_getElem?_getD,List.getElem?_eq_getElem zO];exact h _ (am _)
  exact(eP _ _).bind λ_ _=>(fB zD).bind λ_ _=>f.bind λ_ _=>jR _
 split
 ·exact(jT _ _).bind λ_ _=>(jS _ _ λb e=>h b (List.mem_of_mem_drop e)).bind λ_ _=>jR _
 ·exact(jS _ _ h).bind λ_ _=>jR _
theorem qk(g:List Sg)(s:Sc):∀x,MayX x->NZ (aC g s x):=by
 intro x;induction x using X.ind with
 |h x ih=>
  intro d;obtain⟨⟨e,-⟩,c⟩:=MayX_iff.1 d;rw[dK];refine qi (λj f=>?_) λi=>?_
  ·obtain⟨b,a,rfl⟩:=y9c.1 f;exact ih b a (c b a)
  ·rw[List.length_map];unfold eh at e;omega
theorem qn(c:List Sg)(s:Sc):NZ (aC c s (.mk 0 ⟨#[]⟩ 0 0 0 [])):=by
 rw[dK];exact qi (λd b=>by cases b) λa=>absurd a (by show¬(0:Int)=9;decide)
theorem ji(a:List Sg)(s:Sc){l:List X}(h:en l)(i:Nat):NZ (aC a s (xAt l i)):=by
 unfold xAt;rw[List.getD_eq_getElem?_getD];by_cases hi:i<l.length
 ·rw[List.getElem?_eq_getElem hi];exact qk _ _ _ (h _ (am _))
 ·rw[List.getElem?_eq_none zO];exact qn _ _
theorem ja{s:Sc}{x:X}(h:∀a,NZ (aC a s x))(m:Mk):NZ (aF s x m):=by
 unfold aF;exact(h _).bind λ_ _=>(ew _ _).bind λ_ _=>.ok _
theorem sq{s:Sc}{a:Bool}{c x:X}(h:∀b,NZ (aC b s x))(m:Mk):NZ (cI s a c x m):=by
 unfold cI;exact(ew _ _).bind λ_ _=>(sr _ _ _ _).bind λ_ _=>(ja h _).bind λ_ _=>.ok _
theorem jr{α:Type}:∀(fs:List (Mk->Rs (α×Mk))) (m:Mk),(∀a,a∈fs->∀m,NZ (a m))->NZ (bD fs m)
 |[],_,_=>.ok _
 |a::fs,m,h=>by
  rw[bD];exact(h a (bT ..) m).bind λd _=>(jr fs _ λc b=>h c (bj _ b)).bind λ_ _=>.ok _
theorem qo{body:Int->Mk->Rs (List DT×Mk)}(h:∀v m,NZ (body v m)):∀(n:Nat) (v:Int) (m:Mk),NZ (eT body n v m)
 |0,_,_=>.ok _
 |n+1,v,m=>by
  rw[eT];exact(ew _ _).bind λ_ _=>(h _ _).bind λ_ _=>(qo h n _ _).bind λ_ _=>.ok _
theorem wV(s:Sc)(x:X)(m:Mk):NZ (ev s x m):=by
 unfold ev;exact(nY _ _).bind λ_ _=>(ew _ _).bind λ_ _=>.ok _
def StX(x:S):Prop:=MayS x\/∃a,MayArm a x
theorem StX.parts{x:S}(h:StX x):en x.x/\∀b,b∈x.l->StX b:=by
 rcases h with h|⟨g,h⟩
 ·obtain⟨c,-,d⟩:=MayS_iff.1 h;refine⟨c,λb a=>?_⟩;rcases d with⟨-,-,-,e⟩|⟨-,-,-,-,-,ha⟩|⟨-,-,ha⟩|⟨-,-,ha⟩|⟨-,-,ha⟩
  ·rw[List.eq_nil_of_length_eq_zero e] at a;cases a
  ·exact .inl (ha b a)
  ·obtain⟨f,hi,rfl⟩:=List.getElem_of_mem a;exact .inr ⟨_,ha.2 f hi⟩
  ·exact .inl (ha b a)
  ·exact .inl (ha b a)
 ·obtain⟨-,-,-,c,d⟩:=MayArm_iff.1 h;exact⟨c,λb a=>.inl (d b a)⟩
theorem uM(g:Bool):∀x,StX x->(∀s m,NZ (aL g x s m))/\∀s m,NZ (cF g x s m):=by
 intro x;induction x using S.ind with
 |h x ih=>
  intro t;obtain⟨n,p⟩:=t.parts;have k:∀a,a∈x.l.map (aL g)->∀s m,NZ (a s m):=λa b=>by obtain⟨f,d,rfl⟩:=y9c.1 b;exact(ih f d (p f d)).1
  have ha:∀a,a∈x.l.map (cF g)->∀s m,NZ (a s m):=λa b=>by obtain⟨f,d,rfl⟩:=y9c.1 b;exact(ih f d (p f d)).2
  have j:∀{o:List (Sc->Mk->Rs (DT×Mk))} (s:Sc) (m:Mk),(∀a,a∈o->∀s m,NZ (a s m))->NZ (bD (o.map λa=>a s) m):=λs m q=>jr _ _ λa b m=>by obtain⟨i,c,rfl⟩:=y9c.1 b;exact q i c s m
  refine⟨λs m=>?_,λs m=>?_⟩
  ·rw[fw];unfold eU;split
   ·exact sq (λe=>ji e s n 1) m
   refine(ew _ _).bind λu _=>?_
   split
   ·exact(j s _ k).bind λ_ _=>.ok _
   split
   ·exact(eP _ _).bind λ_ _=>(eP _ _).bind λ_ _=>(qo (λv m=>j _ m k) _ _ _).bind λ_ _=>.ok _
   split
   ·exact(ja (λe=>ji e s n 0) _).bind λ_ _=>(j s _ ha).bind λ_ _=>.ok _
   split
   ·refine(ja (λe=>ji e s n 0) _).bind λ_ _=>(jr _ _ λa b m=>?_).bind λ_ _=>.ok _
    obtain⟨⟨w,i⟩,r,rfl⟩:=y9c.1 b;have c:=k i (List.of_mem_zip r).2;dsimp only;split
    ·unfold gh;exact(ew _ _).bind λ_ _=>(c _ _).bind λ_ _=>.ok _
    ·exact c _ _
   ·exact .ok _
  ·rw[kL];unfold jG;exact(ew _ _).bind λ_ _=>(jr _ _ λa b m=>by obtain⟨i,c,rfl⟩:=y9c.1 b;exact wV _ _ _).bind λ_ _=>(j s _ k).bind λ_ _=>.ok _
theorem wW(a:Bool)(s:Sc){l:List S}(h:dT l)(m:Mk):NZ (bE a s l m):=
 jr _ _ λe c m=>by obtain⟨b,d,rfl⟩:=y9c.1 c;exact(uM a b (.inl (h b d))).1 s m
theorem ri{body:Int->Mk->Rs Mk}(h:∀v m,NZ (body v m)):∀(n:Nat) (v:Int) (m:Mk),NZ (fg body n v m)
 |0,_,_=>.ok _
 |n+1,v,m=>by
  rw[fg];exact(ew _ _).bind λ_ _=>(h _ _).bind λ_ _=>ri h n _ _
theorem iZ{inst:Itm->Sc->Mk->Rs Mk}:∀(l:List Itm),(∀a,a∈l->∀s m,NZ (aE inst a s m))->∀s m,NZ (bf inst l s m)
 |[],_,s,m=>by rw[bf];exact .ok _
 |a::r,h,s,m=>by
  rw[bf];exact(ew _ _).bind λ_ _=>(h a (bT ..) _ _).bind λ_ _=>iZ r (λc b=>h c (bj _ b)) _ _
theorem qm{inst:Itm->Sc->Mk->Rs Mk}(Q:Itm->Prop)(r:∀t a,Q t->a∈t.l->Q a)(q:∀t a,Q t->a∈t.els->Q a)(u:∀t,Q t->MayI t->t.op=7->∀s m,NZ (inst t s m)):∀t,Q t->MayI t->∀s m,NZ (aE inst t s m):=by
 intro t;induction t using Itm.ind with
 |h t ih1 ih2=>
  intro d j s m;obtain⟨-,e,o,n,k,-⟩:=MayI_iff.1 j;have c:=iZ t.l λa b=>ih1 a b (r t a d b) (n a b)
  have g:=iZ t.els λa b=>ih2 a b (q t a d b) (k a b)
  have i:=u t d j;clear ih1 ih2 n k;obtain⟨op,y,of,x,A,l,els,z,w⟩:=t;simp only[Itm.op,Itm.l,Itm.els,Itm.x,Itm.s] at c g i e o;rw[aE];split
  ·exact(eP _ _).bind λ_ _=>.ok _
  split
  ·exact(jT _ _).bind λ_ _=>lZ _ _ _ _ _ _
  split
  ·exact(jT _ _).bind λ_ _=>(nY _ _).bind λ_ _=>lZ _ _ _ _ _ _
  split
  ·exact(sq (λf=>ji f s e 1) m).bind λ_ _=>(ks _ _ _).bind λ_ _=>.ok _
  split
  ·exact(wW _ s o m).bind λ_ _=>(ks _ _ _).bind λ_ _=>.ok _
  split
  ·exact(ja (λf=>ji f s e 0) m).bind λ_ _=>.ok _
  split
  ·rename_i p;exact(i p s m).bind λ_ _=>.ok _
  split
  ·refine(eP _ _).bind λv _=>?_
   split
   ·exact c s m
   ·exact g s m
  split
  ·exact(eP _ _).bind λ_ _=>(eP _ _).bind λ_ _=>(ri (λv m=>(c _ _).bind λ_ _=>.ok _) _ _ _).bind λ_ _=>.ok _
  ·exact .ok _
theorem lM{α:Type}{d:ByteArray->Prop}{e:Int}(a:e≠0){val:X->Rs α}(c:∀x,NZ (val x)):∀(l:List Bnd) (o:ByteArray->Option α),NZ (bZ d e val l o)
 |[],_=>.ok _
 |b::r,o=>by
  rw[bZ];exact(fB a).bind λ_ _=>(c _).bind λ_ _=>lM a c r _
theorem lY{aB:ByteArray->Option Int}:∀(l:List Bnd) (s:Sc),NZ (cp aB l s)
 |[],_=>.ok _
 |p::r,s=>by
  rw[cp];split
  ·exact(NZ.ok _).bind λ_ _=>lY r _
  ·exact(eP _ _).bind λ_ _=>lY r _
theorem rj{kind:Prt->Int}:∀(l:List Prt) (s:Sc) (m:Mk),NZ (cm kind l s m)
 |[],_,_=>.ok _
 |p::r,s,m=>by
  rw[cm];exact(jT _ _).bind λ_ _=>(lZ _ _ _ _ _ _).bind λ_ _=>rj r _ _
theorem ql(of:Mdl)(aB:ByteArray->Option Int)(a:ByteArray)(kind:Prt->Int)(m:Mk):NZ (dF of aB a kind m):=by
 unfold dF;exact(lY _ _).bind λ_ _=>rj _ _ _
theorem mY{s b:Sc}{a:ByteArray->Option X}(h:∀c x,a c=some x->MayX x):∀(l:List Prt) (m:Mk),NZ (cq s b a l m)
 |[],_=>.ok _
 |p::r,m=>by
  rw[cq];split
  ·exact mY h r m
  ·refine(ew _ _).bind λd _=>?_
   dsimp only;refine(ja (λe=>?_) _).bind λ_ _=>(ks _ _ _).bind λ_ _=>mY h r _
   cases he:a p.name with
   |none=>exact qn _ _
   |some x=>exact qk _ _ _ (h _ _ he)
theorem ni{s:Sc}{b:ByteArray->Option Int}{a:ByteArray->Option X}:∀(l:List Prt) (m:Mk),NZ (cd s b a l m)
 |[],_=>.ok _
 |p::r,m=>by
  rw[cd];split
  ·exact(ew _ _).bind λ_ _=>(sr _ _ _ _).bind λ_ _=>(ew _ _).bind λ_ _=>(ks _ _ _).bind λ_ _=>ni r _
  ·exact ni r m
theorem qj{a:ByteArray->Option X}:∀(l:List Prt),NZ (dq a l)
 |[]=>.ok _
 |p::r=>by
  rw[dq];exact(fB zD).bind λ_ _=>qj r
theorem qJ{h:ByteArray->Prop}{e:Int}:∀{l:List Bnd},(∀f,f∈l->MayX f.x)->∀(o d:ByteArray->Option X),(∀c v,o c=some v->MayX v)->bZ h e (λx=>.ok x) l o=.ok d->∀c v,d c=some v->MayX v
 |[],_,o,d,ho,a=>by injection a with a;rw[<-a];exact ho
 |f::l,hl,o,d,ho,a=>by
  rw[bZ] at a;obtain⟨m,-,a⟩:=ak a;obtain⟨v,g,a⟩:=ak a;injection g with g;refine qJ (λi j=>hl i (bj _ j)) _ d (λc k b=>?_) a;unfold ay at b;split at b
  ·injection b with b;rw[<-b,<-g];exact hl f (bT ..)
  ·exact ho c k b
theorem wU{f:List Mdl}(w:∀h,h∈f->df h):∀(k:Nat) (l:List Itm),RkM f k (cc l)->(∀a,a∈l->MayI a)->∀s h,NZ (bf (ci f k) l s h):=by
 intro k;induction k with
 |zero=>
  intro l m j;exact iZ l λa g=>qm (λa=>RkM f 0 (ofI a)) (λa e b d=>b.sub λs c=>ofI_mem.2 (.inr (.inl (ofIs_mem.2 ⟨e,d,c⟩)))) (λa e b d=>b.sub λs c=>ofI_mem.2 (.inr (.inr (ofIs_mem.2 ⟨e,d,c⟩)))) (λa b _ i=>absurd (ofI_mem.2 (.inl ⟨i,rfl⟩)) (b a.of)) a (m.sub λs c=>ofIs_mem.2 ⟨a,g,c⟩) (j a g)
 |succ k ih=>
  intro l m j;refine iZ l λa g=>qm (λa=>RkM f (k+1) (ofI a)) (λa e b d=>b.sub λs c=>ofI_mem.2 (.inr (.inl (ofIs_mem.2 ⟨e,d,c⟩)))) (λa e b d=>b.sub λs c=>ofI_mem.2 (.inr (.inr (ofIs_mem.2 ⟨e,d,c⟩)))) (λa b v i s h=>?_) a (m.sub λs c=>ofIs_mem.2 ⟨a,g,c⟩) (j a g)
  obtain⟨of,o,q⟩:=b a.of (ofI_mem.2 (.inl ⟨i,rfl⟩));obtain⟨-,-,-,-,-,-,r⟩:=MayI_iff.1 v;rw[ci,o];simp only[Option.getD_some];refine(lM zD (λx=>eP _ _) _ _).bind λaB _=>(lM zD (λx=>.ok _) _ _).bind λA u=>(qj _).bind λ_ _=>(ql _ _ _ _ _).bind λn _=>(mY (λz x y=>?_) _ _).bind λ_ _=>(ih of.items q ((w of (fZ o).1).2.2.2) _ _).bind λ_ _=>ni _ _
  exact qJ (λp t=>(r p t).2) _ _ (λ_ _ n=>by cases n) u z x y
theorem qp(of:Mdl):∀(l:List (ByteArray×Int)) (o:ByteArray->Option Int),NZ (cG of l o)
 |[],_=>.ok _
 |p::r,o=>by
  rw[cG];exact(fB zD).bind λ_ _=>(fB zD).bind λ_ _=>qp of r _
theorem ud(f:List Mdl)(g:ByteArray)(ps:List (ByteArray×Int)):NZ (bN f g ps):=by
 unfold bN;split
 ·rename_i d;exact .err d
 rename_i a
 have a:cy f=0:=Decidable.of_not_not a;split
 ·exact .err zD
 rename_i of e
 have b:=km a;have c:=(fZ e).1;exact(qp _ _ _).bind λ_ _=>(ql _ _ _ _ _).bind λ_ _=>(wU b f.length of.items (qw a c) (b of c).2.2.2 _ _).bind λ_ _=>.ok _
end
section
open Go Go.RowKit
theorem mr(k:Int):∀(n:List Sg) (m:Nat),(∀a,a∈n->a.kind≠k)->bu k m n=[]
 |[],_,_=>rfl
 |a::r,m,h=>by
  show(if a.kind=k then(m:Int)::bu k (m+1) r else bu k (m+1) r)=[];rw[if_neg (h a (List.mem_cons_self ..)),mr k r _ λc b=>h c (List.mem_cons_of_mem _ b)]
theorem sf:∀(n:List Sg) (m:Nat),(∀a,a∈n->a.kind=1\/a.kind=2)->(bu 1 m n).length+(bu 2 m n).length=n.length
 |[],_,_=>rfl
 |a::r,m,h=>by
  have d:=sf r (m+1) λc b=>h c (bj _ b)
  show(if a.kind=1 then(m:Int)::bu 1 (m+1) r else bu 1 (m+1) r).length+(if a.kind=2 then(m:Int)::bu 2 (m+1) r else bu 2 (m+1) r).length=_;rcases h a (bT ..) with e|e
  ·rw[if_pos e,if_neg zO,List.length_cons,List.length_cons];omega
  ·rw[if_neg zO,if_pos e,List.length_cons,List.length_cons];omega
def knP(p:Prt):Int:=if p.o=true then 2 else 1
structure PrtOk(of:Mdl)(l:List Sg):Prop where
 le:of.ports.length<=l.length
 max:l.length<=512
 at_:∀i (h:i<l.length) (hp:i<of.ports.length),l[i].name=of.ports[i].name/\l[i].kind=knP of.ports[i]
 rest:∀i (h:i<l.length),of.ports.length<=i->l[i].kind=3\/l[i].kind=4
 nd:(l.map Sg.name).Nodup
 cnt:(bu 1 0 l).length+(bu 2 0 l).length=of.ports.length
theorem PrtOk.of{of:Mdl}{d:Dsn}(h:DsnOk of d):PrtOk of d.sigs:=by
 obtain⟨⟨x,w,v⟩,⟨c,n,g,l,i⟩,t,-⟩:=h;have r:c.length=of.ports.length:=by have:=congrArg List.length l;rwa[List.length_map,List.length_map] at this
 have k:∀a (h:a<c.length) (j:a<of.ports.length),c[a].name=of.ports[a].name/\c[a].kind=knP of.ports[a]:=λa h j=>by
  have e:(c.map (λb=>(b.name,b.kind)))[a]? =(of.ports.map (λc=>(c.name,if c.o=true then(2:Int) else 1)))[a]? :=by rw[l]
  rw[List.getElem?_map,List.getElem?_map,List.getElem?_eq_getElem h,List.getElem?_eq_getElem j] at e;simp only[Option.map_some] at e;injection e with e;injection e with m p;exact⟨m,p⟩
 have q:∀b,b∈c->b.kind=1\/b.kind=2:=λb f=>by
  obtain⟨a,hi,rfl⟩:=List.getElem_of_mem f;rw[(k a hi zO).2];unfold knP;split
  ·exact .inr rfl
  ·exact .inl rfl
 have s:d.sigs.length<=512:=v.nsg;refine⟨?_,s,λa h u=>?_,λa h hi=>?_,t,?_⟩
 ·rw[g,List.length_append];omega
 ·have e:d.sigs[a]=c[a]'zO:=by simp only[g];rw[List.getElem_append_left]
  rw[e];exact k a zO u
 ·have e:d.sigs[a]∈n:=by
   simp only[g];rw[List.getElem_append_right zO];exact am _
  exact i _ e
 ·rw[g,jy,jy,mr 1 n _ (λb f=>by have:=i b f;omega),mr 2 n _ (λb f=>by have:=i b f;omega),List.append_nil,List.append_nil,sf c 0 q,r]
theorem PrtOk.find{of:Mdl}{l:List Sg}(h:PrtOk of l){k:Nat}(g:k<of.ports.length){i:Int}{b:Bool}(n:FindG l of.ports[k].name i b):b=true/\i=k:=by
 have c:k<l.length:=aP g h.le;have e:=(h.at_ k c g).1;rcases n with⟨f,j,o,hi,m,a⟩|⟨f,hi,a⟩
 ·refine⟨f,?_⟩;have p:=List.pairwise_iff_getElem.1 h.nd;rcases Nat.lt_trichotomy j k with d|rfl|d
  ·exact absurd (by rw[List.getElem_map,List.getElem_map,m,e]) (p j k (by rw[List.length_map];exact o) (by rw[List.length_map];exact c) d)
  ·exact hi
  ·exact absurd e (a k c d)
 ·exact absurd e (a _ (am _))
theorem Ag{f:List Mdl}{a:ByteArray}{ps:List (ByteArray×Int)}(h:(aY f a ps).2=0):∃of,bd f a=some of/\PrtOk of (aY f a ps).1.sigs:=by
 unfold aY at h⊢;cases he:bN f a ps with
 |error e=>
  rw[he] at h;exact absurd (by rw[he,show e=0 from h]) (ud f a ps)
 |ok d=>
  obtain⟨b,of,g,c⟩:=qa (λb=>km b) he;exact⟨of,g,.of c⟩
end
section
open Go Go.RowKit Go.Proofs.Tryz
attribute [local go_sem] aW
theorem nq{w:World}{B:Nat}{x:Mdl}{a b c d:Value}(h:RM w B x [a,b,c,d]):a.oneCell'=true/\b.oneCell'=true/\c.oneCell'=true/\d.oneCell'=true:=by
 obtain⟨i,j,k,e,f,g,hi⟩:=h;simp only[List.cons.injEq,and_true] at e;obtain⟨rfl,rfl,rfl,rfl⟩:=e;exact⟨rfl,f.oneCell,g.oneCell,hi.oneCell⟩
theorem tf{w:World}{B:Nat}{l:List Prt}{v:Value}(h:Sl (RP w B) w B 8 l v):∃c d,v=.slice c l.length d/\∀a (f:a<l.length),∃b o,c=some ⟨b,o,none⟩/\w.cell? ⟨b,o+a*8,none⟩=some (.string l[a].name)/\w.cell? ⟨b,o+a*8+1,none⟩=some (.bool l[a].o):=by
 obtain⟨c,d,rfl,-,g⟩:=h;refine⟨c,d,rfl,λa f=>?_⟩;obtain⟨b,o,j,ha,-,-,e,-,i,rfl,-⟩:=g a f;exact⟨b,o,ha,by simpa using e 0 _ rfl,e 1 _ rfl⟩
theorem varG(w:World)(d e f g:Value):∃a b:World,w.alloc (.cells #[.string ⟨#[]⟩,.int .i64 0,.int .i64 0,.int .u64 0] 57)=a/\(a.cell? ⟨w.heap.size,0,none⟩=some (.string ⟨#[]⟩)/\a.cell? ⟨w.heap.size,1,none⟩=some (.int .i64 0)/\a.cell? ⟨w.heap.size,2,none⟩=some (.int .i64 0)/\a.cell? ⟨w.heap.size,3,none⟩=some (.int .u64 0))/\
 (a.frozen? ⟨w.heap.size,0,none⟩=false/\a.frozen? ⟨w.heap.size,1,none⟩=false/\a.frozen? ⟨w.heap.size,2,none⟩=false/\a.frozen? ⟨w.heap.size,3,none⟩=false)/\
 (((a.setCell ⟨w.heap.size,0,none⟩ d).setCell ⟨w.heap.size,1,none⟩ e).setCell ⟨w.heap.size,2,none⟩ f).setCell ⟨w.heap.size,3,none⟩ g=b/\Blk b w.heap.size 57 [d,e,f,g]/\Ext w b:=by
 obtain⟨a,h,i,c⟩:=bM w (.string ⟨#[]⟩) (.int .i64 0) (.int .i64 0) (.int .u64 0) 57;refine⟨a,_,h.symm,c.get4,c.free4,rfl,c.store4 d e f g,?_⟩;exact(((i.setCell (ac _) _).setCell (ac _) _).setCell (ac _) _).setCell (ac _) _
theorem og{w:World}{B:Nat}{l:List Int}{v:Value}(h:Sl RZ w B 1 l v):∃a b,v=.slice a l.length b/\True:=by
 obtain⟨a,b,rfl,-⟩:=h;exact⟨a,b,rfl,trivial⟩
def prK(c d:Nat)(vals:List Value)(i:Nat)(v:Value)(w:World):Prop:=if i=3 then∃a b,v=.slice a c b else if i=6 then∃a b,v=.slice a d b else v=vals.getD i undef
theorem ly{c d:Nat}{vals:List Value}{a:Option Addr}{b:Nat}{w:World}:prK c d vals 3 (.slice a c b) w:=by unfold prK;exact⟨a,b,rfl⟩
theorem lz{d c:Nat}{vals:List Value}{a:Option Addr}{b:Nat}{w:World}:prK d c vals 6 (.slice a c b) w:=by unfold prK;exact⟨a,b,rfl⟩
theorem uV{a b:Nat}{vals:List Value}{i:Nat}{v:Value}{w c:World}(h:prK a b vals i v w)(d:Ext w c):prK a b vals i v c:=h
theorem vM(B:Nat)(f:List Mdl)(r3:Option Addr)(r4:Nat)(n7:ByteArray)(ps:List (ByteArray×Int))(v3:Option Addr)(v4:Nat)(w:World)(y2:Tabs w)(z5:TabP w)(y1:Sl (RM w B) w B 4 f (.slice r3 f.length r4))(y0:Sl RNm w B 2 ps (.slice v3 ps.length v4))(m7:B<=w.heap.size)
 (z4:aa ar f<=10000000) (z6:∀z8,z8∈f->VM z8) (J5:ps.length<=10000000):
 Calls Tryz.prog 7 #[.agg #[.slice r3 f.length r4],.string n7,.slice v3 ps.length v4] w λe r5=>e=.returned (.bool true)/\Ext w r5:=by
 have s0:=Hd y1;have B0:=Hd y0;have x0:=Hd y2;have x1:=Hd z5;have B1:=Hd z6;have w9:=Hd z4;have z0:f.length<=10000000:=by have:=aw ar f fX;omega
 have A7:=Hd z0;obtain⟨B3,y3,z7,y4⟩:=aI w (.slice r3 f.length r4) 24;have D9:=y3.symm;have p6:=Hd z7;have w2:=Hd y4;clear y1 y0 y2 z5 z6 y3 z7 y4 z0 z4
 go_in
 go_wp2_with fail
 go_at_call 11;refine(so B3 (x0.o.ext p6.o) (TabP.ext x1.o p6.o)).mono ?_;rintro _ H3 ⟨rfl,t8⟩;have s1:=Hd (p6.o.trans t8);have r7:=Hd (w2.o.ext t8);have n8:=r7.o.get1;clear t8 D9;go_wp2_with fail
 go_at_call 13;refine(qM B f H3 _ (s0.o.extRM s1.o m7) (ad m7 s1.o.size) (by have:=w9.o;omega)).mono ?_;rintro _ H4 ⟨rfl,t9⟩;have g6:=Hd (s1.o.trans t9);have r8:=Hd (r7.o.ext t9);clear t9 n8 w2 r7 p6;have n8:=r8.o.get1;by_cases s9:iI (aa ar f) (ai bH f)
 case neg=>
  rw[yes_no.2 s9];go_wp2_with fail
  go_ret;exact⟨rfl,g6.o⟩
 rw[yes_iff.2 s9];clear s9;by_cases D7:(20:Int)<(ps.length:Int)
 ·go_wp2_with fail
  go_ret;exact⟨rfl,g6.o⟩
 have J2:decide ((20:Int)<(ps.length:Int))=false:=decide_eq_false D7;go_wp2_with fail
 go_at_call 15;refine(kb B f r3 r4 n7 ps v3 v4 H4 (x0.o.ext g6.o) (TabP.ext x1.o g6.o) (s0.o.extRM g6.o m7) (B0.o.keep (λg5 f8=>g6.o.cell zO) (ac _) (λ_ _ _ g=>g)) (ad m7 g6.o.size) w9.o B1.o zO).mono ?_;rintro _ H2 ⟨w1,r2,q9,r0,q0,q1,rfl,t7,v0⟩;obtain⟨d,c⟩:∃d,d=(aY f n7 ps).1:=⟨_,rfl⟩;obtain⟨n9,s8⟩:∃n9,n9=(aY f n7 ps).2:=⟨_,rfl⟩;obtain⟨q2,t0⟩:∃q2,q2=bd f n7:=⟨_,rfl⟩;have w5:=Hd (show n9=0->∃of,q2=some of/\PrtOk of d.sigs from λg=>by rw[c,t0];exact Ag (by rw[<-s8];exact g));rw[<-c] at t7⊢;rw[<-s8];clear c s8;obtain⟨I0,B4,E0,⟨C3,C4,g8⟩,⟨C8,C9,D0⟩,E1,y5,q6⟩:=ge H2 (.slice w1 d.sigs.length r2) (.slice q9 d.procs.length r0) (.slice q0 d.chks.length q1);have p7:=Hd (g6.o.trans (v0.trans q6));have w6:=Hd (t7.ext q6);have A2:=Hd (r8.o.ext (v0.trans q6));have w3:=Hd y5;clear t7 v0 q6 y5 n8 r8;have n8:=A2.o.get1;go_wp2_with fail
 go_at_call 12;refine(sA B f n7 B4 _ (s0.o.extRM p7.o m7) (ad m7 p7.o.size) (by have:=A7.o;omega)).mono ?_;rintro _ r6 ⟨n1,n2,n3,n4,rfl,o1,o2⟩;rw[<-t0] at o1⊢;clear t0;obtain⟨of,q4⟩:∃of,of=q2.getD fh:=⟨_,rfl⟩;rw[<-q4] at o1;obtain⟨J6,J7,J8,J9⟩:=nq o1;obtain⟨I1,Wf,E2,⟨C6,s3,s4,x9⟩,⟨D1,D2,D3,D4⟩,E3,y6,o3,-⟩:=jH r6 n1 n2 n3 n4;have x4:=Hd (p7.o.trans (o2.trans o3));have w7:=Hd (o1.keep (λg5 f8=>o3.cell (by have:=p7.o.size;have:=o2.size;omega)) (ac _));have p5:=Hd (w6.o.ext (o2.trans o3));have p2:=Hd (w3.o.ext (o2.trans o3));have p3:=Hd y6;clear o1 o2 y6 o3 E0 C3 C4 g8 C8 C9 D0 E1 n8 w6 w3;by_cases h0:n9=0
 case neg=>
  have J3:decide (n9=0)=false:=decide_eq_false h0;go_wp2_with fail
  go_ret;exact⟨rfl,x4.o⟩
 subst h0;have z2:=w5.o;obtain⟨F2,rfl,m9⟩:=z2 rfl;replace q4:of=F2:=q4;subst q4;obtain⟨K2,K3,K4,y8,-,z1,-⟩:=w7.o;simp only[List.cons.injEq,and_true] at y8;obtain⟨rfl,rfl,rfl,rfl⟩:=y8;obtain⟨G2,v8,rfl,z3⟩:=tf z1;have r9:=Hd z3;have h2:=Hd m9;have J0:decide ((d.sigs.length:Int)<(of.ports.length:Int))=false:=decide_eq_false (by have:=m9.le;omega);have J1:decide ((512:Int)<(d.sigs.length:Int))=false:=decide_eq_false (by have:=m9.max;omega);have J4:d.sigs.length<=512:=m9.max;have F1:of.ports.length<=d.sigs.length:=m9.le;obtain⟨K0,K1,E9,n0⟩:=eS p5.o.sig;injection E9 with E6 E7 E8;subst E6 E8;have A6:=Hd n0;have op:=p5.o.one.2.1;have v1:=p5.o.one.2.2;have w8:=Hd p5.o.sig;obtain⟨g9,h3,h4⟩:=p2.o.get3;obtain⟨q,r,s,t⟩:=p3.o.get4;clear E7 z3 m9 z1 n0 w5 w7 z2;go_wp2_with fail
 go_loopw [12] (λg4 wr=>∃j:Nat,j<=d.sigs.length/\g4=.int .i64 j/\Ext Wf wr) (λg4 _=>d.sigs.length - (intOf g4).toNat)
 case atStart=>exact⟨0,aA _,rfl,af _⟩
 case round=>
  obtain⟨j,m8,rfl,l⟩:=hrel;have m6:=Hd l;clear E2 C6 s3 s4 x9 D1 D2 D3 D4 E3 g9 h3 h4 q r s t;obtain⟨g9,h3,h4⟩:=(p2.o.ext l).get3;obtain⟨q,r,s,t⟩:=(p3.o.ext l).get4;by_cases t2:j<d.sigs.length
  ·obtain⟨x6,o,rfl,-,s5⟩:=A6.o j t2;obtain⟨p,h0⟩:∃p,p=d.sigs[j]:=⟨_,rfl⟩;rw[<-h0] at s5;obtain⟨m3,m4,m5,n6⟩:=(show Cells wr x6 (o+j*4) [.string p.name,.int .i64 p.w,.int .i64 p.kind,.int .u64 p.init] from s5.ext l).get4;obtain⟨I2,x3,E4,⟨C0,C1,C2,x5⟩,⟨h,D5,D6,D8⟩,E5,s6,q5⟩:=varG wr (.string p.name) (.int .i64 p.w) (.int .i64 p.kind) (.int .u64 p.init);have g7:=Hd (m6.o.trans q5);obtain⟨H7,H8,A1,H9⟩:=s6.get4;have w4:=Hd s6;have H5:=q5.at_ g9;have H6:=q5.at_ s;have p8:=Hd (p3.o.ext g7.o);have s2:=Hd (p2.o.ext g7.o);clear s5 l s6 q5 q r t h3 h4;by_cases t1:j<of.ports.length
   case neg=>
    have y9:=h2.o.rest j t2 zO;rw[<-h0] at y9;have s3:¬p.kind=1:=by omega
    have s4:¬p.kind=2:=by omega
    have x9:(p.kind==1)=false:=beq_eq_false_iff_ne.2 s3;have I6:(p.kind==2)=false:=beq_eq_false_iff_ne.2 s4;have C7:of.ports.length<=j:=by omega
    clear y9 h0;go_wp2_with fail
    go_roundw;case rel=>exact⟨j+1,zO,zN,g7.o⟩
    case measure=>simp[intOf];omega
   have C7:decide ((of.ports.length:Int)<=(j:Int))=false:=decide_eq_false zO;obtain⟨g8,n5,rfl,t5,t6⟩:=r9.o j t1;obtain⟨q3,o0⟩:=h2.o.at_ j t2 t1;rw[<-h0] at q3 o0;have A5:=Hd (λg4 x7 (g:FindG d.sigs p.name g4 x7)=>h2.o.find t1 (i:=g4) (b:=x7) (by rw[<-q3];exact g));rw[<-q3] at t5;obtain⟨g5,f8⟩:∃g5,g5=of.ports[j]:=⟨_,rfl⟩;rw[<-f8] at t6 o0;have z9:=g7.o.at_ t6;have x2:=Hd (g7.o.at_ t5);rw[o0] at A1;have A3:=Hd (show Blk x3 wr.heap.size 57 [.string p.name,.int .i64 p.w,.int .i64 (knP g5),.int .u64 p.init] by rw[<-o0];exact w4.o);obtain⟨p9,s7⟩:∃p9,p9=g5.o:=⟨_,rfl⟩;rw[<-s7] at z9;have p4:=Hd (show(if p9=true then(2:Int) else 1)=knP g5 by rw[s7];rfl);clear q3 o0 h0 f8 t5 t6 s7 w4 h2 r9;cases p9
   all_goals
    go_wp2_with fail
    clear E4 C0 C1 C2 x5 h D5 D6 D8 E5 H7 H8 A1 H9 H5 H6 z9 m3 m4 m5 n6 g9;obtain⟨g9,h3,h4⟩:=s2.o.later3;obtain⟨n1,n2,n3,n4⟩:=p8.o.later4;have v2:=cellAt x2.o;have p1:=Hd (w8.o.extG g7.o (ac _));have h1:=Hd g7.o.size;refine bK 13 (W:=x3) (Ext) (eqG [.agg #[.slice (some ⟨x6,o,none⟩) d.sigs.length r2,.slice q9 d.procs.length r0,.slice q0 d.chks.length q1],.pointer (some ⟨r6.heap.size,2,none⟩),.slice (some ⟨g8,n5,none⟩) of.ports.length v8,.int .i64 j,.pointer (some ⟨g8,n5+j*8,none⟩),.pointer (some ⟨g8,n5+j*8,none⟩),.string p.name,.tuple #[.int .i64 j,.bool true],.tuple #[.int .i64 j,.bool true],.int .i64 j,.bool true,.int .i64 j,.bool true]) (λ_ _=>False) (λ_=>true) zK (bq) zK zK ?_ (af _) (λg4 v w r5 g l=>dX g l) ?_ (λu x8 w c f8=>f8.elim) ?_
    ·exact⟨rfl,rfl,rfl,rfl,rfl,rfl,rfl,rfl,rfl,rfl,rfl,rfl,rfl,trivial⟩
    ·refine⟨?_,?_,?_,?_,?_,?_,?_,?_,?_,?_,?_,?_,?_,trivial⟩;rotate_left 7
     ·intro u f7 m c h;obtain⟨k,rfl⟩:=ae m;have m3:=ab c 0 92 zK rfl;simp[eqG] at m3;have r1:=ab c 6 98 zK rfl;simp[eqG] at r1;clear c h;go_simp;refine(rS _ d.sigs p.name k.w _ _ _ (p1.o.extG k.ext h1.o) op v1 (ad h1.o k.ext.size) zO).mono ?_;rintro _ A0 ⟨I8,I7,rfl,F0,l⟩;obtain⟨rfl,rfl⟩:=A5.o _ _ F0;go_simp;first|exact⟨_,rfl,l,rfl⟩|exact⟨l,rfl⟩|exact⟨_,rfl,rfl⟩|exact l
     all_goals
      intro u f7 m c h;obtain⟨k,rfl⟩:=ae m;try (have o7:=ab c 7 99 zD rfl;simp[eqG] at o7)
      try (have o8:=ab c 8 91 zD rfl;simp[eqG] at o8)
      try (have o9:=ab c 9 100 zD rfl;simp[eqG] at o9)
      try (have o4:=ab c 10 101 zD rfl;simp[eqG] at o4)
      try (have m4:=ab c 1 93 zD rfl;simp[eqG] at m4)
      try (have m5:=ab c 2 94 zD rfl;simp[eqG] at m5)
      try (have n6:=ab c 3 95 zD rfl;simp[eqG] at n6)
      try (have o5:=ab c 4 96 zD rfl;simp[eqG] at o5)
      try (have o6:=ab c 5 97 zD rfl;simp[eqG] at o6)
      have w0:=ag h 8 zK;simp at w0;have p0:=ag h 10 zK;simp at p0;have v9:=ag h 12 zK;simp at v9;clear c h;exact zA
    ·intro u f7 m8;obtain⟨f,rfl,m,g3,a⟩:=m8.fin (n:=140) rfl;obtain⟨k,rfl⟩:=ae m;have q:=a 0 zK;have r:=a 1 zK;have s:=a 2 zK;have t:=a 3 zK;have a1:=a 4 zK;have b2:=a 5 zK;have g2:=a 6 zK;have d3:=a 7 zK;have e4:=a 8 zK;have f5:=a 9 zK;have x:=a 10 zK;have y:=a 11 zK;have z:=a 12 zK;have A:=a 13 zK;have C:=a 14 zK;have D:=a 17 zK;have E:=a 18 zK;have F:=a 19 zK;have G:=a 20 zK;have H:=a 21 zK;have I:=a 22 zK;have J:=a 23 zK;have K:=a 24 zK;have L:=a 25 zK;have M:=a 26 zK;have N:=a 27 zK;have O:=a 28 zK;have P:=a 29 zK;have Q:=a 30 zK;have R:=a 31 zK;have S:=a 32 zK;have T:=a 33 zK;have U:=a 34 zK;have V:=a 35 zK;have X:=a 36 zK;have Y:=a 37 zK;have Z:=a 38 zK;have a0:=a 39 zK;have a2:=a 40 zK;have a3:=a 41 zK;have a4:=a 42 zK;have a5:=a 43 zK;have a6:=a 44 zK;have a7:=a 45 zK;have a8:=a 46 zK;have a9:=a 47 zK;have b0:=a 48 zK;have b1:=a 49 zK;have b3:=a 50 zK;have b4:=a 51 zK;have b5:=a 52 zK;have b6:=a 53 zK;have b7:=a 54 zK;have b8:=a 55 zK;have b9:=a 56 zK;have c0:=a 57 zK;have c1:=a 58 zK;have c2:=a 59 zK;have c3:=a 60 zK;have c4:=a 61 zK;have c5:=a 62 zK;have c6:=a 63 zK;have c7:=a 64 zK;have c8:=a 65 zK;have c9:=a 66 zK;have d0:=a 67 zK;have d1:=a 68 zK;have d2:=a 69 zK;have d4:=a 70 zK;have d5:=a 71 zK;have d6:=a 72 zK;have d7:=a 73 zK;have d8:=a 74 zK;have d9:=a 75 zK;have e0:=a 76 zK;have e1:=a 77 zK;have e2:=a 78 zK;have e3:=a 79 zK;have e5:=a 80 zK;have e6:=a 81 zK;have e7:=a 82 zK;have e8:=a 83 zK;have e9:=a 84 zK;have f0:=a 85 zK;have f1:=a 86 zK;have f2:=a 87 zK;have f3:=a 88 zK;have f4:=a 89 zK;have f6:=a 90 zK;have h7:=a 102 zK;have h8:=a 103 zK;have h9:=a 104 zK;have i0:=a 105 zK;have i1:=a 106 zK;have i2:=a 107 zK;have i3:=a 108 zK;have i4:=a 109 zK;have i5:=a 110 zK;have i6:=a 111 zK;have i7:=a 112 zK;have i8:=a 113 zK;have i9:=a 114 zK;have j0:=a 115 zK;have j1:=a 116 zK;have j2:=a 117 zK;have j3:=a 118 zK;have j4:=a 119 zK;have j5:=a 120 zK;have j6:=a 121 zK;have j7:=a 122 zK;have j8:=a 123 zK;have j9:=a 124 zK;have f9:=a 125 zK;have k0:=a 126 zK;have k1:=a 127 zK;have k2:=a 128 zK;have k3:=a 129 zK;have k4:=a 130 zK;have k5:=a 131 zK;have k6:=a 132 zK;have k7:=a 133 zK;have k8:=a 134 zK;have k9:=a 135 zK;have l0:=a 136 zK;have l1:=a 137 zK;have l2:=a 138 zK;have l3:=a 139 zK;have g0:f 15=.int .i64 j:=g3 11 15 rfl rfl;have g1:f 16=.bool true:=g3 12 16 rfl rfl;clear g3 a;simp at q r s t a1 b2 g2 d3 e4 f5 x y z A C D E F G H I J K L M N O P Q R S T U V X Y Z a0 a2 a3 a4 a5 a6 a7 a8 a9 b0 b1 b3 b4 b5 b6 b7 b8 b9 c0 c1 c2 c3 c4 c5 c6 c7 c8 c9 d0 d1 d2 d4 d5 d6 d7 d8 d9 e0 e1 e2 e3 e5 e6 e7 e8 e9 f0 f1 f2 f3 f4 f6 h7 h8 h9 i0 i1 i2 i3 i4 i5 i6 i7 i8 i9 j0 j1 j2 j3 j4 j5 j6 j7 j8 j9 f9 k0 k1 k2 k3 k4 k5 k6 k7 k8 k9 l0 l1 l2 l3;simp only[List.drop_succ_cons,List.drop_zero];simp[List.range,List.range.loop,q,r,s,t,a1,b2,g2,d3,e4,f5,x,y,z,A,C,D,E,F,G,H,I,J,K,L,M,N,O,P,Q,R,S,T,U,V,X,Y,Z,a0,a2,a3,a4,a5,a6,a7,a8,a9,b0,b1,b3,b4,b5,b6,b7,b8,b9,c0,c1,c2,c3,c4,c5,c6,c7,c8,c9,d0,d1,d2,d4,d5,d6,d7,d8,d9,e0,e1,e2,e3,e5,e6,e7,e8,e9,f0,f1,f2,f3,f4,f6,h7,h8,h9,i0,i1,i2,i3,i4,i5,i6,i7,i8,i9,j0,j1,j2,j3,j4,j5,j6,j7,j8,j9,f9,k0,k1,k2,k3,k4,k5,k6,k7,k8,k9,l0,l1,l2,l3,g0,g1];clear q r s t a1 b2 g2 d3 e4 f5 x y z A C D E F G H I J K L M N O P Q R S T U V X Y Z a0 a2 a3 a4 a5 a6 a7 a8 a9 b0 b1 b3 b4 b5 b6 b7 b8 b9 c0 c1 c2 c3 c4 c5 c6 c7 c8 c9 d0 d1 d2 d4 d5 d6 d7 d8 d9 e0 e1 e2 e3 e5 e6 e7 e8 e9 f0 f1 f2 f3 f4 f6 h7 h8 h9 i0 i1 i2 i3 i4 i5 i6 i7 i8 i9 j0 j1 j2 j3 j4 j5 j6 j7 j8 j9 f9 k0 k1 k2 k3 k4 k5 k6 k7 k8 k9 l0 l1 l2 l3 g0 g1;have B6:=Hd (g7.o.trans k.ext);have A4:=Hd (A3.o.ext k.ext);have B8:=Hd (p8.o.ext k.ext);have B2:=Hd (k.ext.at_ x2.o);clear g9 h3 h4 n1 n2 n3 n4 v2 p1 h1;go_wp2_with fail
     obtain⟨G8,G9,H0,H1⟩:=A4.o.later4;obtain⟨n1,n2,n3,n4⟩:=B8.o.later4;have v2:=cellAt B2.o;refine bK 24 (W:=k.w) (Ext) (eqG [.pointer (some ⟨wr.heap.size,0,none⟩),.string p.name,.pointer (some ⟨r6.heap.size,2,none⟩),.slice (some ⟨g8,n5,none⟩) of.ports.length v8,.int .i64 j,.pointer (some ⟨g8,n5+j*8,none⟩),.pointer (some ⟨g8,n5+j*8,none⟩),.string p.name,.bool false,.bool false,.pointer (some ⟨wr.heap.size,2,none⟩),.int .i64 (knP g5),.int .i64 (knP g5),.bool false,.bool false,.bool false,.bool true,.bool false,.bool false,.bool false,.int .i64 j,.int .i64 j,.bool false,.bool false]) (λ_ _=>False) (λ_=>true) zK (bq) zK zK ?_ (af _) (λg4 v w r5 g l=>dX g l) ?_ (λu x8 w c f8=>f8.elim) ?_
     ·exact⟨rfl,rfl,rfl,rfl,rfl,rfl,rfl,rfl,rfl,rfl,(λv w g=>g),(λv w g=>g),(λv w g=>g),(λv w g=>g),rfl,rfl,(λv w g=>g),(λv w g=>g),rfl,rfl,(λv w g=>g),(λv w g=>g),(λv w g=>g),rfl,trivial⟩
     ·refine⟨?_,?_,?_,?_,?_,?_,?_,?_,?_,?_,?_,?_,?_,?_,?_,?_,?_,?_,?_,?_,?_,?_,?_,?_,trivial⟩;rotate_left 12
      ·intro u f7 m c h;obtain⟨k,rfl⟩:=ae m;have G4:=ag h 14 zK;simp at G4;clear c h;go_simp;first|exact⟨_,rfl,congrArg (Value.int .i64) p4.o⟩|exact⟨_,rfl,af _,congrArg (Value.int .i64) p4.o⟩|exact⟨af _,congrArg (Value.int .i64) p4.o⟩|exact congrArg (Value.int .i64) p4.o
      all_goals
       intro u f7 m c h;obtain⟨k,rfl⟩:=ae m;try (have v5:=ab c 11 113 zD rfl;simp[eqG] at v5)
       try (have v6:=ab c 12 114 zD rfl;simp[eqG] at v6)
       try (have o9:=ab c 9 111 zD rfl;simp[eqG] at o9)
       try (have v7:=ab c 13 115 zD rfl;simp[eqG] at v7)
       try (have F3:=ab c 14 116 zD rfl;simp[eqG] at F3)
       try (have F5:=ab c 16 118 zD rfl;simp[eqG] at F5)
       try (have F4:=ab c 15 117 zD rfl;simp[eqG] at F4)
       try (have F6:=ab c 17 119 zD rfl;simp[eqG] at F6)
       try (have F7:=ab c 18 120 zD rfl;simp[eqG] at F7)
       try (have F9:=ab c 20 122 zD rfl;simp[eqG] at F9)
       try (have G0:=ab c 21 123 zD rfl;simp[eqG] at G0)
       try (have F8:=ab c 19 121 zD rfl;simp[eqG] at F8)
       try (have G1:=ab c 22 124 zD rfl;simp[eqG] at G1)
       try (have m3:=ab c 0 102 zD rfl;simp[eqG] at m3)
       try (have m5:=ab c 2 104 zD rfl;simp[eqG] at m5)
       try (have n6:=ab c 3 105 zD rfl;simp[eqG] at n6)
       try (have o5:=ab c 4 106 zD rfl;simp[eqG] at o5)
       try (have o6:=ab c 5 107 zD rfl;simp[eqG] at o6)
       try (have r1:=ab c 6 108 zD rfl;simp[eqG] at r1)
       try (have m4:=ab c 1 103 zD rfl;simp[eqG] at m4)
       try (have o7:=ab c 7 109 zD rfl;simp[eqG] at o7)
       try (have o8:=ab c 8 110 zD rfl;simp[eqG] at o8)
       try (have o4:=ab c 10 112 zD rfl;simp[eqG] at o4)
       have G6:=ag h 16 zK;simp at G6;have G5:=ag h 15 zK;simp at G5;have v9:=ag h 12 zK;simp at v9;have G3:=ag h 13 zK;simp at G3;have p0:=ag h 10 zK;simp at p0;clear c h;exact zA
     ·intro u f7 m8;obtain⟨f,rfl,m,g3,a⟩:=m8.fin (n:=140) rfl;obtain⟨k,rfl⟩:=ae m;have q:=a 0 zK;have r:=a 1 zK;have s:=a 2 zK;have t:=a 3 zK;have a1:=a 4 zK;have b2:=a 5 zK;have g2:=a 6 zK;have d3:=a 7 zK;have e4:=a 8 zK;have f5:=a 9 zK;have x:=a 10 zK;have y:=a 11 zK;have z:=a 12 zK;have A:=a 13 zK;have C:=a 14 zK;have g0:=a 15 zK;have g1:=a 16 zK;have D:=a 17 zK;have E:=a 18 zK;have F:=a 19 zK;have G:=a 20 zK;have H:=a 21 zK;have I:=a 22 zK;have J:=a 23 zK;have K:=a 24 zK;have L:=a 25 zK;have M:=a 26 zK;have N:=a 27 zK;have O:=a 28 zK;have P:=a 29 zK;have Q:=a 30 zK;have R:=a 31 zK;have S:=a 32 zK;have T:=a 33 zK;have U:=a 34 zK;have V:=a 35 zK;have X:=a 36 zK;have Y:=a 37 zK;have Z:=a 38 zK;have a0:=a 39 zK;have a2:=a 40 zK;have a3:=a 41 zK;have a4:=a 42 zK;have a5:=a 43 zK;have a6:=a 44 zK;have a7:=a 45 zK;have a8:=a 46 zK;have a9:=a 47 zK;have b0:=a 48 zK;have b1:=a 49 zK;have b3:=a 50 zK;have b4:=a 51 zK;have b5:=a 52 zK;have b6:=a 53 zK;have b7:=a 54 zK;have b8:=a 55 zK;have b9:=a 56 zK;have c0:=a 57 zK;have c1:=a 58 zK;have c2:=a 59 zK;have c3:=a 60 zK;have c4:=a 61 zK;have c5:=a 62 zK;have c6:=a 63 zK;have c7:=a 64 zK;have c8:=a 65 zK;have c9:=a 66 zK;have d0:=a 67 zK;have d1:=a 68 zK;have d2:=a 69 zK;have d4:=a 70 zK;have d5:=a 71 zK;have d6:=a 72 zK;have d7:=a 73 zK;have d8:=a 74 zK;have d9:=a 75 zK;have e0:=a 76 zK;have e1:=a 77 zK;have e2:=a 78 zK;have e3:=a 79 zK;have e5:=a 80 zK;have e6:=a 81 zK;have e7:=a 82 zK;have e8:=a 83 zK;have e9:=a 84 zK;have f0:=a 85 zK;have f1:=a 86 zK;have f2:=a 87 zK;have f3:=a 88 zK;have f4:=a 89 zK;have f6:=a 90 zK;have l4:=a 91 zK;have l5:=a 92 zK;have l6:=a 93 zK;have l7:=a 94 zK;have l8:=a 95 zK;have l9:=a 96 zK;have m0:=a 97 zK;have m1:=a 98 zK;have m2:=a 99 zK;have h5:=a 100 zK;have h6:=a 101 zK;have k0:=a 126 zK;have k1:=a 127 zK;have k2:=a 128 zK;have k3:=a 129 zK;have k4:=a 130 zK;have k5:=a 131 zK;have k6:=a 132 zK;have k7:=a 133 zK;have k8:=a 134 zK;have k9:=a 135 zK;have l0:=a 136 zK;have l1:=a 137 zK;have l2:=a 138 zK;have l3:=a 139 zK;have f9:f 125=.bool false:=g3 23 125 rfl rfl;clear g3 a;simp at q r s t a1 b2 g2 d3 e4 f5 x y z A C g0 g1 D E F G H I J K L M N O P Q R S T U V X Y Z a0 a2 a3 a4 a5 a6 a7 a8 a9 b0 b1 b3 b4 b5 b6 b7 b8 b9 c0 c1 c2 c3 c4 c5 c6 c7 c8 c9 d0 d1 d2 d4 d5 d6 d7 d8 d9 e0 e1 e2 e3 e5 e6 e7 e8 e9 f0 f1 f2 f3 f4 f6 l4 l5 l6 l7 l8 l9 m0 m1 m2 h5 h6 k0 k1 k2 k3 k4 k5 k6 k7 k8 k9 l0 l1 l2 l3;simp only[List.drop_succ_cons,List.drop_zero];simp[List.range,List.range.loop,q,r,s,t,a1,b2,g2,d3,e4,f5,x,y,z,A,C,g0,g1,D,E,F,G,H,I,J,K,L,M,N,O,P,Q,R,S,T,U,V,X,Y,Z,a0,a2,a3,a4,a5,a6,a7,a8,a9,b0,b1,b3,b4,b5,b6,b7,b8,b9,c0,c1,c2,c3,c4,c5,c6,c7,c8,c9,d0,d1,d2,d4,d5,d6,d7,d8,d9,e0,e1,e2,e3,e5,e6,e7,e8,e9,f0,f1,f2,f3,f4,f6,l4,l5,l6,l7,l8,l9,m0,m1,m2,h5,h6,k0,k1,k2,k3,k4,k5,k6,k7,k8,k9,l0,l1,l2,l3,f9];clear q r s t a1 b2 g2 d3 e4 f5 x y z A C g0 g1 D E F G H I J K L M N O P Q R S T U V X Y Z a0 a2 a3 a4 a5 a6 a7 a8 a9 b0 b1 b3 b4 b5 b6 b7 b8 b9 c0 c1 c2 c3 c4 c5 c6 c7 c8 c9 d0 d1 d2 d4 d5 d6 d7 d8 d9 e0 e1 e2 e3 e5 e6 e7 e8 e9 f0 f1 f2 f3 f4 f6 l4 l5 l6 l7 l8 l9 m0 m1 m2 h5 h6 k0 k1 k2 k3 k4 k5 k6 k7 k8 k9 l0 l1 l2 l3 f9;have B7:=Hd (B6.o.trans k.ext);clear G8 G9 H0 H1 n1 n2 n3 n4 v2;go_wp2_with fail
      go_roundw;case rel=>exact⟨j+1,zO,zN,B7.o⟩
      case measure=>simp[intOf];omega
  ·have y7:=h2.o.cnt;obtain⟨q7,t3⟩:∃n,n=(bu 1 0 d.sigs).length:=⟨_,rfl⟩;obtain⟨q8,t4⟩:∃n,n=(bu 2 0 d.sigs).length:=⟨_,rfl⟩;have A8:=Hd t3;have A9:=Hd t4;have I9:IntKind.i64.wrap ((q7:Int)+(q8:Int))=(of.ports.length:Int):=by
    rw[<-t3,<-t4] at y7;have F1:=h2.o.le;have:(q7:Int)+q8=of.ports.length:=by omega
    rw[this];simp(disch:=omega) only[IntWalk.i64_in]
   have p1:=Hd (w8.o.extG m6.o (ac _));have h1:=Hd m6.o.size;have p8:=Hd (p3.o.ext m6.o);have s2:=Hd (p2.o.ext m6.o);clear l y7 t3 t4 h3 h4 q r t h2 r9;go_wp2_with fail
   clear g9 s;obtain⟨g9,h3,h4⟩:=s2.o.later3;obtain⟨n1,n2,n3,n4⟩:=p8.o.later4;refine bK 15 (W:=wr) (Ext) (prK q7 q8 [.bool true,.bool true,.agg #[.slice w1 d.sigs.length r2,.slice q9 d.procs.length r0,.slice q0 d.chks.length q1],undef,.int .i64 q7,.agg #[.slice w1 d.sigs.length r2,.slice q9 d.procs.length r0,.slice q0 d.chks.length q1],undef,.int .i64 q8,.int .i64 of.ports.length,.pointer (some ⟨r6.heap.size,2,none⟩),.slice G2 of.ports.length v8,.int .i64 of.ports.length,.bool true,.bool true,.bool true]) (λ_ _=>False) (λ_=>true) zK (bq) zK zK ?_ (af _) (λg4 v w r5 g l=>uV g l) ?_ (λu x8 w c f8=>f8.elim) ?_
   ·exact⟨rfl,rfl,(λv w g=>g),(λv w g=>g),(λv w g=>g),(λv w g=>g),(λv w g=>g),(λv w g=>g),(λv w g=>g),(λv w g=>g),(λv w g=>g),(λv w g=>g),(λv w g=>g),rfl,rfl,trivial⟩
   ·refine⟨?_,?_,?_,?_,?_,?_,?_,?_,?_,?_,?_,?_,?_,?_,?_,trivial⟩;rotate_left 3
    ·intro u f7 m c h;obtain⟨k,rfl⟩:=ae m;have m5:=ab c 2 128 zK rfl;simp[prK] at m5;clear c h;go_simp;refine(mh _ d.sigs 1 k.w _ _ _ (p1.o.extG k.ext h1.o) op v1 (ad h1.o k.ext.size) zO).mono ?_;rintro _ A0 ⟨v,rfl,n0,l⟩;obtain⟨B9,C5,rfl,-⟩:=og n0;rw[<-A8.o];go_simp;first|exact⟨_,rfl,l,ly⟩|exact⟨l,ly⟩|exact⟨_,rfl,ly⟩|exact l
    ·intro u f7 m c h;obtain⟨k,rfl⟩:=ae m;obtain⟨x5,I4,n6⟩:=ab c 3 129 zK rfl;clear c h;exact zC
    rotate_left 1
    ·intro u f7 m c h;obtain⟨k,rfl⟩:=ae m;have o6:=ab c 5 131 zK rfl;simp[prK] at o6;clear c h;go_simp;refine(mh _ d.sigs 2 k.w _ _ _ (p1.o.extG k.ext h1.o) op v1 (ad h1.o k.ext.size) zO).mono ?_;rintro _ A0 ⟨v,rfl,n0,l⟩;obtain⟨B9,C5,rfl,-⟩:=og n0;rw[<-A9.o];go_simp;first|exact⟨_,rfl,l,lz⟩|exact⟨l,lz⟩|exact⟨_,rfl,lz⟩|exact l
    ·intro u f7 m c h;obtain⟨k,rfl⟩:=ae m;obtain⟨I3,I5,r1⟩:=ab c 6 132 zK rfl;clear c h;exact zC
    all_goals
     intro u f7 m c h;obtain⟨k,rfl⟩:=ae m;try (have o5:=ab c 4 130 zD rfl;simp[prK] at o5)
     try (have o7:=ab c 7 133 zD rfl;simp[prK] at o7)
     try (have o9:=ab c 9 135 zD rfl;simp[prK] at o9)
     try (have o4:=ab c 10 136 zD rfl;simp[prK] at o4)
     try (have o8:=ab c 8 134 zD rfl;simp[prK] at o8)
     try (have v5:=ab c 11 137 zD rfl;simp[prK] at v5)
     try (have m4:=ab c 1 127 zD rfl;simp[prK] at m4)
     try (have v6:=ab c 12 138 zD rfl;simp[prK] at v6)
     try (have v7:=ab c 13 139 zD rfl;simp[prK] at v7)
     try (have m3:=ab c 0 126 zD rfl;simp[prK] at m3)
     have p0:=ag h 10 zK;simp at p0;have G7:=ag h 7 zK;simp at G7;have w0:=ag h 8 zK;simp at w0;clear c h;exact zA
   ·intro u f7 m8;obtain⟨f,rfl,m,g3,a⟩:=m8.fin (n:=140) rfl;obtain⟨k,rfl⟩:=ae m;have q:=a 0 zK;have r:=a 1 zK;have s:=a 2 zK;have t:=a 3 zK;have a1:=a 4 zK;have b2:=a 5 zK;have d3:=a 7 zK;have e4:=a 8 zK;have f5:=a 9 zK;have x:=a 10 zK;have y:=a 11 zK;have z:=a 12 zK;have A:=a 13 zK;have C:=a 14 zK;have g0:=a 15 zK;have g1:=a 16 zK;have D:=a 17 zK;have E:=a 18 zK;have F:=a 19 zK;have G:=a 20 zK;have H:=a 21 zK;have I:=a 22 zK;have J:=a 23 zK;have K:=a 24 zK;have L:=a 25 zK;have M:=a 26 zK;have N:=a 27 zK;have O:=a 28 zK;have P:=a 29 zK;have Q:=a 30 zK;have R:=a 31 zK;have S:=a 32 zK;have T:=a 33 zK;have U:=a 34 zK;have V:=a 35 zK;have X:=a 36 zK;have Y:=a 37 zK;have Z:=a 38 zK;have a0:=a 39 zK;have a2:=a 40 zK;have a3:=a 41 zK;have a4:=a 42 zK;have a5:=a 43 zK;have a6:=a 44 zK;have a7:=a 45 zK;have a8:=a 46 zK;have a9:=a 47 zK;have b0:=a 48 zK;have b1:=a 49 zK;have b3:=a 50 zK;have b4:=a 51 zK;have b5:=a 52 zK;have b6:=a 53 zK;have b7:=a 54 zK;have b8:=a 55 zK;have b9:=a 56 zK;have c0:=a 57 zK;have c1:=a 58 zK;have c2:=a 59 zK;have c3:=a 60 zK;have c4:=a 61 zK;have c5:=a 62 zK;have c6:=a 63 zK;have c7:=a 64 zK;have c8:=a 65 zK;have c9:=a 66 zK;have d0:=a 67 zK;have d1:=a 68 zK;have d2:=a 69 zK;have d4:=a 70 zK;have d5:=a 71 zK;have d6:=a 72 zK;have d7:=a 73 zK;have d8:=a 74 zK;have d9:=a 75 zK;have e0:=a 76 zK;have e1:=a 77 zK;have e2:=a 78 zK;have e3:=a 79 zK;have e5:=a 80 zK;have e6:=a 81 zK;have e7:=a 82 zK;have e8:=a 83 zK;have e9:=a 84 zK;have f0:=a 85 zK;have f1:=a 86 zK;have f2:=a 87 zK;have f3:=a 88 zK;have f4:=a 89 zK;have f6:=a 90 zK;have l4:=a 91 zK;have l5:=a 92 zK;have l6:=a 93 zK;have l7:=a 94 zK;have l8:=a 95 zK;have l9:=a 96 zK;have m0:=a 97 zK;have m1:=a 98 zK;have m2:=a 99 zK;have h5:=a 100 zK;have h6:=a 101 zK;have h7:=a 102 zK;have h8:=a 103 zK;have h9:=a 104 zK;have i0:=a 105 zK;have i1:=a 106 zK;have i2:=a 107 zK;have i3:=a 108 zK;have i4:=a 109 zK;have i5:=a 110 zK;have i6:=a 111 zK;have i7:=a 112 zK;have i8:=a 113 zK;have i9:=a 114 zK;have j0:=a 115 zK;have j1:=a 116 zK;have j2:=a 117 zK;have j3:=a 118 zK;have j4:=a 119 zK;have j5:=a 120 zK;have j6:=a 121 zK;have j7:=a 122 zK;have j8:=a 123 zK;have j9:=a 124 zK;have f9:=a 125 zK;have g2:f 6=.bool true:=g3 14 6 rfl rfl;clear g3 a;simp at q r s t a1 b2 d3 e4 f5 x y z A C g0 g1 D E F G H I J K L M N O P Q R S T U V X Y Z a0 a2 a3 a4 a5 a6 a7 a8 a9 b0 b1 b3 b4 b5 b6 b7 b8 b9 c0 c1 c2 c3 c4 c5 c6 c7 c8 c9 d0 d1 d2 d4 d5 d6 d7 d8 d9 e0 e1 e2 e3 e5 e6 e7 e8 e9 f0 f1 f2 f3 f4 f6 l4 l5 l6 l7 l8 l9 m0 m1 m2 h5 h6 h7 h8 h9 i0 i1 i2 i3 i4 i5 i6 i7 i8 i9 j0 j1 j2 j3 j4 j5 j6 j7 j8 j9 f9;simp only[List.drop_succ_cons,List.drop_zero];simp[List.range,List.range.loop,q,r,s,t,a1,b2,d3,e4,f5,x,y,z,A,C,g0,g1,D,E,F,G,H,I,J,K,L,M,N,O,P,Q,R,S,T,U,V,X,Y,Z,a0,a2,a3,a4,a5,a6,a7,a8,a9,b0,b1,b3,b4,b5,b6,b7,b8,b9,c0,c1,c2,c3,c4,c5,c6,c7,c8,c9,d0,d1,d2,d4,d5,d6,d7,d8,d9,e0,e1,e2,e3,e5,e6,e7,e8,e9,f0,f1,f2,f3,f4,f6,l4,l5,l6,l7,l8,l9,m0,m1,m2,h5,h6,h7,h8,h9,i0,i1,i2,i3,i4,i5,i6,i7,i8,i9,j0,j1,j2,j3,j4,j5,j6,j7,j8,j9,f9,g2];clear q r s t a1 b2 d3 e4 f5 x y z A C g0 g1 D E F G H I J K L M N O P Q R S T U V X Y Z a0 a2 a3 a4 a5 a6 a7 a8 a9 b0 b1 b3 b4 b5 b6 b7 b8 b9 c0 c1 c2 c3 c4 c5 c6 c7 c8 c9 d0 d1 d2 d4 d5 d6 d7 d8 d9 e0 e1 e2 e3 e5 e6 e7 e8 e9 f0 f1 f2 f3 f4 f6 l4 l5 l6 l7 l8 l9 m0 m1 m2 h5 h6 h7 h8 h9 i0 i1 i2 i3 i4 i5 i6 i7 i8 i9 j0 j1 j2 j3 j4 j5 j6 j7 j8 j9 f9 g2;have B5:=Hd (m6.o.trans k.ext);go_wp2_with fail
    go_ret;exact⟨rfl,x4.o.trans B5.o⟩
theorem vP(B:Nat)(f:List Mdl)(v:Value)(h:ByteArray)(ps:List (ByteArray×Int))(u:Value)(w:World)(j:Tabs w)(m:TabP w)(d:Sl (RM w B) w B 4 f v)(c:Sl RNm w B 2 ps u)(i:B<=w.heap.size)
 (l:aa ar f<=10000000) (n:∀g,g∈f->VM g) (k:ps.length<=10000000):
 Calls Tryz.prog 7 #[.agg #[v],.string h,u] w λe s=>e=.returned (.bool true)/\Ext w s:=by
 obtain⟨q,r,rfl⟩:∃a b,v=.slice a f.length b:=by obtain⟨a,b,rfl,-⟩:=d;exact⟨a,b,rfl⟩
 obtain⟨o,p,rfl⟩:∃a b,u=.slice a ps.length b:=by obtain⟨a,b,rfl,-⟩:=c;exact⟨a,b,rfl⟩
 exact vM B f q r h ps o p w j m d c i l n k
