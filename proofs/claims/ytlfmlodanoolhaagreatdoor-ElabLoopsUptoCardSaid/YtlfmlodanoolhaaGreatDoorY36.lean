import Derived.Lib.ItoaNum
import Derived.Test.YtlfmlodanoolhaaGreatDoorY33
import Derived.Test.YtlfmlodanoolhaaGreatDoorY34
import Derived.Test.YtlfmlodanoolhaaGreatDoorY14
import Derived.Test.YtlfmlodanoolhaaGreatDoorY5
set_option linter.all false
set_option maxRecDepth 200000
set_option maxHeartbeats 32000000
namespace Go.Proofs.YtlfmlodanoolhaaGreatDoor
open Go Go.RowKit
inductive DE where
 |mk (op w v sig hi lo n:Int) (l:List DE)
inductive DT where
 |mk (op sig hi lo:Int) (e:List DE) (l:List DT)
structure Sg where
 name:ByteArray
 w:Int
 kind:Int
 init:Int
structure Pc where
 clk:Bool
 l:List DT
structure Ck where
 name:ByteArray
 e:DE
structure Dsn where
 sigs:List Sg
 procs:List Pc
 chks:List Ck
structure Mk where
 d:Dsn
 count:Int
 bits:Int
structure Sc where
 env:List (ByteArray×Int)
 sigs:ByteArray->Option Int
 path:ByteArray
abbrev Rs(α:Type):=Except Int α
def DE.op:DE->Int|.mk op _ _ _ _ _ _ _=>op
def DE.w:DE->Int|.mk _ w _ _ _ _ _ _=>w
def DE.v:DE->Int|.mk _ _ v _ _ _ _ _=>v
def DE.sig:DE->Int|.mk _ _ _ s _ _ _ _=>s
def DE.hi:DE->Int|.mk _ _ _ _ h _ _ _=>h
def DE.lo:DE->Int|.mk _ _ _ _ _ l _ _=>l
def DE.n:DE->Int|.mk _ _ _ _ _ _ n _=>n
def DE.l:DE->List DE|.mk _ _ _ _ _ _ _ l=>l
def DT.op:DT->Int|.mk op _ _ _ _ _=>op
def DT.sig:DT->Int|.mk _ s _ _ _ _=>s
def DT.hi:DT->Int|.mk _ _ h _ _ _=>h
def DT.lo:DT->Int|.mk _ _ _ l _ _=>l
def DT.e:DT->List DE|.mk _ _ _ _ e _=>e
def DT.l:DT->List DT|.mk _ _ _ _ _ l=>l
def aR(p:Prop) [Decidable p](e:Int):Rs Unit:=if p then .ok () else .error e
def aZ(n:Int)(m:Mk):Rs Mk:=if m.count+n<=65536 then .ok {m with count:=m.count+n} else .error 2
def av{α:Type}(f:ByteArray->Option α)(s:ByteArray)(z:α):ByteArray->Option α:=λa=>if s=a then some z else f a
def cQ(a:ByteArray)(w c b:Int)(s:Sc)(m:Mk):Rs (Sc×Mk):=
 if m.d.sigs.length<512/\m.bits+w<=4096 then
  .ok ({s with sigs:=av s.sigs a m.d.sigs.length},{m with bits:=m.bits+w,d:={m.d with sigs:=m.d.sigs++[⟨s.path++a,w,c,b⟩]}})
 else .error 2
def co(a:Bool)(l:List DT)(m:Mk):Rs Mk:=
 if m.d.procs.length<1024 then .ok {m with d:={m.d with procs:=m.d.procs++[⟨a,l⟩]}} else .error 2
def ofK(a:Int×Int):Rs Int:=if a.2=0 then .ok a.1 else .error a.2
noncomputable def aG(s:Sc)(x:X):Rs Int:=ofK (bu s.env x)
noncomputable def bV(s:Sc)(x:X):Rs Int:=ofK (gR s.env x)
noncomputable def eP(s:Sc)(x:X):Rs (Int×Int):=if(fL s.env x).2=0 then .ok (fL s.env x).1 else .error (fL s.env x).2
def dY(s:Sc)(b:ByteArray):Rs Int:=match s.sigs b with|some a=>.ok a|none=>.error 80
def bg(l:List Sg)(a:Int):Sg:=l.getD a.toNat ⟨⟨#[]⟩,0,0,0⟩
def xAt(l:List X)(i:Nat):X:=l.getD i (.mk 0 ⟨#[]⟩ 0 0 0 [])
noncomputable def ci(a:List Sg)(s:Sc)(x:X):Rs (Int×Int×Int):=do
 let at_<-dY s x.name
 let w:=(bg a at_).w
 if x.op=2 then
  let _<-aR (0<=w - 1/\w - 1<w) 84
  return(at_,w - 1,0)
 else
  let hi<-aG s (xAt x.l 0)
  let lo<-aG s (xAt x.l (x.l.length - 1))
  let _<-aR (0<=lo/\lo<=hi/\hi<w) 84
  return(at_,hi,lo)
def dP(a:Bool)(k:Int):Bool:=if a then k==4 else(k==3||k==2)
noncomputable def df(a:List Sg)(s:Sc)(b:Bool)(x:X):Rs (Int×Int×Int):=do
 let _<-aR (x.op=2\/x.op=3\/x.op=4) 85
 let r<-ci a s x
 let c:=(bg a r.1).kind
 let _<-aR (dP b c=true) 85
 return r
def cP:List (Rs (DE×Int))->Int->Rs (List DE×Int)
 |[],n=>.ok ([],n)
 |r::rs,n=>do
  let y<-r
  let z<-cP rs (min (n+y.2) 65537)
  return(y.1::z.1,z.2)
def dD(a:DE×Int):Rs (DE×Int):=if a.2<=65536 then .ok a else .error 2
def opD(op:Int):Int:=if op=5 then 4 else if op=6 then 5 else if op=7 then 6 else if op=8 then 7 else 0
def fq(a:Int×Int×Int):DE:=.mk 2 0 0 a.1 a.2.1 a.2.2 0 []
def bq(w v:Int):DE:=.mk 1 w v 0 0 0 0 []
noncomputable def dU(c:List Sg)(s:Sc)(x:X)(b:List (Rs (DE×Int))):Rs (DE×Int):=
 if x.op=1 then .ok (bq x.w x.v,1)
 else if x.op=2 then match bw s.env x.name with
  |some v=>.ok (bq 0 v,1)
  |none=>do let r<-ci c s x;return(fq r,1)
 else if x.op=3 then do let r<-ci c s x;return(fq r,1)
 else if x.op=4 then do
  let a<-dY s x.name
  let z<-cP b 1
  dD (.mk 3 0 0 a 0 0 0 z.1,z.2)
 else if x.op=9 then do
  let n<-aG s (xAt x.l 0)
  let _<-aR (1<=n/\n<=64) 83
  let y<-b.getD 1 (.error 0)
  dD (.mk 7 0 0 0 0 0 0 (List.replicate n.toNat y.1),1+n*y.2)
 else if x.op=10 then do
  let w<-bV s (xAt x.l 0)
  let z<-cP (b.drop 1) 1
  dD (.mk 8 w 0 0 0 0 x.n z.1,z.2)
 else do
  let z<-cP b 1
  dD (.mk (opD x.op) 0 0 0 0 0 x.n z.1,z.2)
mutual
noncomputable def aA(a:List Sg)(s:Sc):X->Rs (DE×Int)
 |.mk op nm n w v l=>dU a s (.mk op nm n w v l) (jE a s l)
noncomputable def jE(a:List Sg)(s:Sc):List X->List (Rs (DE×Int))
 |[]=>[]
 |x::r=>aA a s x::jE a s r
end
theorem va(a:List Sg)(s:Sc)(l:List X):jE a s l=l.map (aA a s):=by
 induction l with
 |nil=>rfl
 |cons x r ih=>simp[jE,ih]
theorem eo(a:List Sg)(s:Sc)(x:X):aA a s x=dU a s x (x.l.map (aA a s)):=by
 cases x;rw[aA,va];rfl
noncomputable def aF(s:Sc)(x:X)(m:Mk):Rs (DE×Mk):=do
 let y<-aA m.d.sigs s x
 let m'<-aZ y.2 m
 return(y.1,m')
def cv(a:Int×Int×Int)(e:DE):DT:=.mk 1 a.1 a.2.1 a.2.2 [e] []
noncomputable def cJ(s:Sc)(a:Bool)(b x:X)(m:Mk):Rs (DT×Mk):=do
 let m1<-aZ 1 m
 let r<-df m1.d.sigs s a b
 let y<-aF s x m1
 return(cv r y.1,y.2)
def bM{α:Type}:List (Mk->Rs (α×Mk))->Mk->Rs (List α×Mk)
 |[],m=>.ok ([],m)
 |f::fs,m=>do
  let y<-f m
  let z<-bM fs y.2
  return(y.1::z.1,z.2)
def fH(body:Int->Mk->Rs (List DT×Mk)):Nat->Int->Mk->Rs (List DT×Mk)
 |0,_,m=>.ok ([],m)
 |n+1,v,m=>do
  let m1<-aZ 1 m
  let y<-body v m1
  let z<-fH body n (v+1) y.2
  return(y.1++z.1,z.2)
noncomputable def fi(s:Sc)(x:X)(m:Mk):Rs (DE×Mk):=do
 let b<-eP s x
 let m1<-aZ 1 m
 return(bq b.1 b.2,m1)
def Sc.con(s:Sc)(a:ByteArray)(v:Int):Sc:={s with env:=s.env++[(a,v)]}
noncomputable def jY(x:S)(a:List (Sc->Mk->Rs (DT×Mk)))(s:Sc)(m:Mk):Rs (DT×Mk):=do
 let m1<-aZ 1 m
 let y<-bM (x.x.map λl=>fi s l) m1
 let z<-bM (a.map λb=>b s) y.2
 return(.mk 4 0 0 0 y.1 z.1,z.2)
def fZ(f:Sc->Mk->Rs (DT×Mk))(s:Sc)(m:Mk):Rs (DT×Mk):=do
 let m1<-aZ 1 m
 let y<-f s m1
 return(.mk 5 0 0 0 [] [y.1],y.2)
noncomputable def fg(g:Bool)(x:S)(d f:List (Sc->Mk->Rs (DT×Mk)))(s:Sc)(m:Mk):Rs (DT×Mk):=
 if x.op=1 then cJ s g (xAt x.x 0) (xAt x.x 1) m
 else do
  let m1<-aZ 1 m
  if x.op=5 then
   let z<-bM (d.map λc=>c s) m1
   return(.mk 5 0 0 0 [] z.1,z.2)
  else if x.op=6 then
   let a<-aG s (xAt x.x 0)
   let b<-aG s (xAt x.x 1)
   let z<-fH (λv=>bM (d.map λc=>c (s.con x.name v))) (b - a).toNat a m1
   return(.mk 5 0 0 0 [] z.1,z.2)
  else if x.op=3 then
   let y<-aF s (xAt x.x 0) m1
   let z<-bM (f.map λc=>c s) y.2
   return(.mk 3 0 0 0 [y.1] z.1,z.2)
  else if x.op=2 then
   let y<-aF s (xAt x.x 0) m1
   let z<-bM ((x.l.zip d).map λe=>if e.1.op=2 then fZ e.2 s else e.2 s) y.2
   return(.mk 2 0 0 0 [y.1] z.1,z.2)
  else return(.mk 5 0 0 0 [] [],m1)
mutual
noncomputable def aK(a:Bool):S->Sc->Mk->Rs (DT×Mk)
 |.mk op nm x l=>fg a (.mk op nm x l) (ib a l) (jt a l)
noncomputable def cK(a:Bool):S->Sc->Mk->Rs (DT×Mk)
 |.mk op nm x l=>jY (.mk op nm x l) (ib a l)
noncomputable def ib(a:Bool):List S->List (Sc->Mk->Rs (DT×Mk))
 |[]=>[]
 |x::r=>aK a x::ib a r
noncomputable def jt(a:Bool):List S->List (Sc->Mk->Rs (DT×Mk))
 |[]=>[]
 |x::r=>cK a x::jt a r
end
theorem me(a:Bool)(l:List S):ib a l=l.map (aK a):=by
 induction l with
 |nil=>rfl
 |cons x r ih=>simp[ib,ih]
theorem sW(a:Bool)(l:List S):jt a l=l.map (cK a):=by
 induction l with
 |nil=>rfl
 |cons x r ih=>simp[jt,ih]
theorem fT(a:Bool)(x:S):aK a x=fg a x (x.l.map (aK a)) (x.l.map (cK a)):=by
 cases x;rw[aK,me,sW];rfl
theorem nZ(a:Bool)(x:S):cK a x=jY x (x.l.map (aK a)):=by
 cases x;rw[cK,me];rfl
noncomputable def bE(a:Bool)(s:Sc)(l:List S)(m:Mk):Rs (List DT×Mk):=bM (l.map λx=>aK a x s) m
def fI(body:Int->Mk->Rs Mk):Nat->Int->Mk->Rs Mk
 |0,_,m=>.ok m
 |n+1,v,m=>do
  let m1<-aZ 1 m
  let m2<-body v m1
  fI body n (v+1) m2
def bn(n:Int):ByteArray:=⟨(Go.Lib.itoa n).toArray⟩
def tDot:ByteArray:=⟨#[46]⟩
def tOpen:ByteArray:=⟨#[91]⟩
def tShut:ByteArray:=⟨#[93,46]⟩
def Sc.pass(s:Sc)(a of:ByteArray)(v:Int):Sc:=⟨s.env++[(of,v)],s.sigs,s.path++(a++tOpen++bn v++tShut)⟩
mutual
noncomputable def aC(inst:Itm->Sc->Mk->Rs Mk):Itm->Sc->Mk->Rs (Sc×Mk)
 |.mk op nm of x st l els ps bs,s,m=>
  if op=1 then do let v<-aG s (xAt x 0);return(s.con nm v,m)
  else if op=2 then do let w<-bV s (xAt x 0);cQ nm w 3 0 s m
  else if op=3 then do
   let w<-bV s (xAt x 0)
   let b<-eP s (xAt x 1)
   cQ nm w 4 b.2 s m
  else if op=4 then do
   let y<-cJ s false (xAt x 0) (xAt x 1) m
   let m2<-co false [y.1] y.2
   return(s,m2)
  else if op=5\/op=6 then do
   let y<-bE (decide (op=6)) s st m
   let m2<-co (decide (op=6)) y.1 y.2
   return(s,m2)
  else if op=10 then do
   let y<-aF s (xAt x 0) m
   return(s,{y.2 with d:={y.2.d with chks:=y.2.d.chks++[⟨s.path++nm,y.1⟩]}})
  else if op=7 then do let m2<-inst (.mk op nm of x st l els ps bs) s m;return(s,m2)
  else if op=8 then do
   let v<-aG s (xAt x 0)
   if v≠0 then aY inst l s m else aY inst els s m
  else if op=9 then do
   let a<-aG s (xAt x 0)
   let b<-aG s (xAt x 1)
   let m2<-fI (λv c=>do let z<-aY inst l (s.pass nm of v) c;return z.2) (b - a).toNat a m
   return(s,m2)
  else return(s,m)
noncomputable def aY(inst:Itm->Sc->Mk->Rs Mk):List Itm->Sc->Mk->Rs (Sc×Mk)
 |[],s,m=>.ok (s,m)
 |t::r,s,m=>do
  let m1<-aZ 1 m
  let z<-aC inst t s m1
  aY inst r z.1 z.2
end
noncomputable def ce{α:Type}(a:ByteArray->Prop)(e:Int)(val:X->Rs α):List Bnd->(ByteArray->Option α)->Rs (ByteArray->Option α)
 |[],out=>.ok out
 |b::r,out=>do
  let _<-@aR (out b.name=none/\a b.name) (Classical.propDecidable _) e
  let v<-val b.x
  ce a e val r (av out b.name v)
noncomputable def de(aB:ByteArray->Option Int):List Bnd->Sc->Rs Sc
 |[],s=>.ok s
 |p::r,s=>do
  let v<-match aB p.name with|some v=>.ok v|none=>aG s p.x
  de aB r (s.con p.name v)
noncomputable def cI(a:Prt->Int):List Prt->Sc->Mk->Rs (Sc×Mk)
 |[],s,m=>.ok (s,m)
 |p::r,s,m=>do
  let w<-bV s p.w
  let z<-cQ p.name w (a p) 0 s m
  cI a r z.1 z.2
noncomputable def eF(of:Mdl)(aB:ByteArray->Option Int)(b:ByteArray)(a:Prt->Int)(m:Mk):Rs (Sc×Mk):=do
 let s<-de aB of.params ⟨[],λ_=>none,b⟩
 cI a of.ports s m
def gc(b:List Sg)(a:Int):DE:=.mk 2 0 0 a ((bg b a).w - 1) 0 0 []
noncomputable def cw(s b:Sc)(a:ByteArray->Option X):List Prt->Mk->Rs Mk
 |[],m=>.ok m
 |p::r,m=>if p.o=true then cw s b a r m else do
  let m1<-aZ 1 m
  let c:=(b.sigs p.name).getD 0
  let y<-aF s ((a p.name).getD (.mk 0 ⟨#[]⟩ 0 0 0 [])) m1
  let m2<-co false [.mk 1 c ((bg m1.d.sigs c).w - 1) 0 [y.1] []] y.2
  cw s b a r m2
noncomputable def cj(s:Sc)(b:ByteArray->Option Int)(a:ByteArray->Option X):List Prt->Mk->Rs Mk
 |[],m=>.ok m
 |p::r,m=>match a p.name,p.o with
  |some x,true=>do
   let m1<-aZ 1 m
   let t<-df m1.d.sigs s false x
   let m2<-aZ 1 m1
   let c:=(b p.name).getD 0
   let m3<-co false [cv t (gc m2.d.sigs c)] m2
   cj s b a r m3
  |_,_=>cj s b a r m
noncomputable def dx(a:ByteArray->Option X):List Prt->Rs Unit
 |[]=>.ok ()
 |p::r=>do
  let _<-aR ((a p.name).isSome=true\/p.o=true) 81
  dx a r
noncomputable def cz(f:List Mdl):Nat->Itm->Sc->Mk->Rs Mk
 |0,_,_,_=>.error 0
 |k+1,t,s,m=>do
  let of:=(bU f t.of).getD ⟨⟨#[]⟩,[],[],[]⟩
  let aB<-ce (λa=>∃b,b∈of.params/\b.name=a) 82 (λx=>aG s x) t.params (λ_=>none)
  let ends<-ce (λa=>∃c,c∈of.ports/\c.name=a) 81 (λx=>.ok x) t.binds (λ_=>none)
  let _<-dx ends of.ports
  let h<-eF of aB (s.path++t.name++tDot) (λ_=>3) m
  let m1<-cw s h.1 ends of.ports h.2
  let z<-aY (cz f k) of.items h.1 m1
  cj s h.1.sigs ends of.ports z.2
noncomputable def dz(of:Mdl):List (ByteArray×Int)->(ByteArray->Option Int)->Rs (ByteArray->Option Int)
 |[],out=>.ok out
 |p::r,out=>do
  let _<-@aR (out p.1=none/\∃a,a∈of.params/\a.name=p.1) (Classical.propDecidable _) 82
  let _<-aR (0<=p.2/\p.2<=2147483647) 62
  dz of r (av out p.1 p.2)
def noMk:Mk:=⟨⟨[],[],[]⟩,0,0⟩
noncomputable def cc(f:List Mdl)(c:ByteArray)(b:List (ByteArray×Int)):Rs Dsn:=
 if da f≠0 then .error (da f) else match bU f c with
 |none=>.error 71
 |some of=>do
  let aB<-dz of b (λ_=>none)
  let h<-eF of aB ⟨#[]⟩ (λa=>if a.o=true then 2 else 1) noMk
  let z<-aY (cz f f.length) of.items h.1 h.2
  return z.2.d
noncomputable def bv(f:List Mdl)(b:ByteArray)(a:List (ByteArray×Int)):Dsn×Int:=match cc f b a with
 |.ok d=>(d,0)
 |.error e=>(⟨[],[],[]⟩,e)
theorem au{α d:Type}{c:Rs α}{f:α->Rs d}{b:d}(h:(do let a<-c;f a)=.ok b):∃a,c=.ok a/\f a=.ok b:=by
 cases c with
 |error e=>cases h
 |ok a=>exact⟨a,rfl,h⟩
theorem jk{a z:DE×Int}(h:dD a=.ok z):z=a/\a.2<=65536:=by
 unfold dD at h;split at h
 ·injection h with h;exact⟨h.symm,by assumption⟩
 ·cases h
theorem xL{p:Prop} [Decidable p]{e:Int}{u:Unit}(h:aR p e=.ok u):p:=by
 unfold aR at h;split at h
 ·assumption
 ·cases h
theorem jn:∀(l:List (Rs (DE×Int))) (n:Int) (z:List DE×Int),(∀b,b∈l->∀c,b=.ok c->0<=c.2)->0<=n->cP l n=.ok z->0<=z.2
 |[],n,z,_,hn,a=>by injection a with a;rw[<-a];exact hn
 |b::rs,n,z,hf,hn,a=>by
  obtain⟨c,e,a⟩:=au a;obtain⟨h,f,a⟩:=au a;injection a with a;have i:=hf b (du ..) c e;rw[<-a];exact jn rs _ h (λg d=>hf g (cf _ d)) zO f
theorem tq{i:List Sg}{s:Sc}:∀(x:X) (e:DE×Int),aA i s x=.ok e->0<=e.2:=by
 intro x;induction x using X.ind with
 |h x ih=>
  intro e a;rw[eo] at a;have g:∀d,d∈x.l.map (aA i s)->∀e,d=.ok e->0<=e.2:=λd f e p=>by
   obtain⟨c,b,rfl⟩:=y2o.1 f;exact ih c b e p
  unfold dU at a;split at a
  ·injection a with a;rw[<-a];exact(show(0:Int)<=1 by decide)
  split at a
  ·split at a
   ·injection a with a;rw[<-a];exact(show(0:Int)<=1 by decide)
   ·obtain⟨d,f,a⟩:=au a;injection a with a;rw[<-a];exact(show(0:Int)<=1 by decide)
  split at a
  ·obtain⟨d,f,a⟩:=au a;injection a with a;rw[<-a];exact(show(0:Int)<=1 by decide)
  split at a
  ·obtain⟨j,ha,a⟩:=au a;obtain⟨c,b,a⟩:=au a;rw[(jk a).1];exact jn _ _ c g zD b
  split at a
  ·obtain⟨n,r,a⟩:=au a;obtain⟨u,o,a⟩:=au a;obtain⟨c,b,a⟩:=au a;have q:=xL o;have k:0<=c.2:=by
    rw[List.getD_eq_getElem?_getD] at b;cases he:(x.l.map (aA i s))[1]? with
    |none=>rw[he] at b;cases b
    |some d=>rw[he] at b;exact g d (List.mem_of_getElem? he) c b
   rw[(jk a).1];have:=Int.mul_nonneg (show 0<=n by omega) k;show 0<=1+n*c.2;omega
  split at a
  ·obtain⟨j,ha,a⟩:=au a;obtain⟨c,b,a⟩:=au a;rw[(jk a).1];exact jn _ _ c (λd f=>g d (List.mem_of_mem_drop f)) zD b
  ·obtain⟨c,b,a⟩:=au a;rw[(jk a).1];exact jn _ _ c g zD b
def Inc{α:Type}(k:Int)(f:Mk->Rs (α×Mk)):Prop:=∀m a,f m=.ok a->m.count+k<=a.2.count/\a.2.d=m.d/\a.2.bits=m.bits
theorem eT{n:Int}{m a:Mk}(h:aZ n m=.ok a):a.count=m.count+n/\a.d=m.d/\a.bits=m.bits/\a.count<=65536:=by
 unfold aZ at h;split at h
 ·injection h with h;rw[<-h];exact⟨rfl,rfl,rfl,by assumption⟩
 ·cases h
theorem hD(s:Sc)(x:X):Inc 0 (aF s x):=by
 intro m i a;obtain⟨g,e,a⟩:=au a;obtain⟨f,d,a⟩:=au a;injection a with a;obtain⟨h,b,c,-⟩:=eT d;have:=tq x g e;rw[<-a];exact⟨by show _<=f.count;omega,b,c⟩
theorem mw(s:Sc)(c:Bool)(t x:X):Inc 1 (cJ s c t x):=by
 intro m p a;obtain⟨j,h,a⟩:=au a;obtain⟨o,n,a⟩:=au a;obtain⟨b,i,a⟩:=au a;injection a with a;obtain⟨k,d,e,-⟩:=eT h;obtain⟨l,f,g⟩:=hD s x j b i;rw[<-a];exact⟨by show _<=b.2.count;omega,f.trans d,g.trans e⟩
theorem vt(s:Sc)(x:X):Inc 1 (fi s x):=by
 intro m i a;obtain⟨f,h,a⟩:=au a;obtain⟨e,d,a⟩:=au a;injection a with a;obtain⟨g,b,c,-⟩:=eT d;rw[<-a];exact⟨by show _<=e.count;omega,b,c⟩
theorem ij{α:Type}:∀(fs:List (Mk->Rs (α×Mk))),(∀c,c∈fs->Inc 1 c)->∀m b,bM fs m=.ok b->m.count+(b.1.length:Int)<=b.2.count/\b.2.d=m.d/\b.2.bits=m.bits/\b.1.length=fs.length
 |[],_,m,b,a=>by injection a with a;rw[<-a];exact⟨zS,rfl,rfl,rfl⟩
 |c::fs,hf,m,b,a=>by
  obtain⟨e,o,a⟩:=au a;obtain⟨f,p,a⟩:=au a;injection a with a;obtain⟨q,h,i⟩:=hf c (du ..) m e o;obtain⟨r,j,k,l⟩:=ij fs (λg n=>hf g (cf _ n)) e.2 f p;rw[<-a];refine⟨?_,j.trans h,k.trans i,by simp[l]⟩;show m.count+((e.1::f.1).length:Int)<=f.2.count;rw[List.length_cons];omega
theorem Inc.row{α:Type}{fs:List (Mk->Rs (α×Mk))}(h:∀a,a∈fs->Inc 1 a):Inc 0 (bM fs):=λm e d=>by
 obtain⟨f,b,c,-⟩:=ij fs h m e d;exact⟨zO,b,c⟩
theorem oX{body:Int->Mk->Rs (List DT×Mk)}(f:∀v m b,body v m=.ok b->m.count+(b.1.length:Int)<=b.2.count/\b.2.d=m.d/\b.2.bits=m.bits):∀(n:Nat) (v:Int) (m:Mk) (b:List DT×Mk),fH body n v m=.ok b->m.count+(b.1.length:Int)<=b.2.count/\b.2.d=m.d/\b.2.bits=m.bits
 |0,v,m,b,a=>by injection a with a;rw[<-a];exact⟨zS,rfl,rfl⟩
 |n+1,v,m,b,a=>by
  obtain⟨r,o,a⟩:=au a;obtain⟨c,p,a⟩:=au a;obtain⟨e,q,a⟩:=au a;injection a with a;obtain⟨u,g,h,-⟩:=eT o;obtain⟨w,i,j⟩:=f v r c p;obtain⟨x,k,l⟩:=oX f n (v+1) c.2 e q;rw[<-a];refine⟨?_,k.trans (i.trans g),l.trans (j.trans h)⟩;show m.count+((c.1++e.1).length:Int)<=e.2.count;rw[List.length_append];omega
theorem oY(r:Bool):∀x:S,(∀s,Inc 1 (aK r x s))/\(∀s,Inc 1 (cK r x s)):=by
 intro x;induction x using S.ind with
 |h x ih=>
  have B:∀s c,c∈(x.l.map (aK r)).map (λc=>c s)->Inc 1 c:=λs c i=>by
   rw[List.map_map] at i;obtain⟨d,j,rfl⟩:=y2o.1 i;exact(ih d j).1 s
  have ha:∀s c,c∈(x.l.map (cK r)).map (λc=>c s)->Inc 1 c:=λs c i=>by
   rw[List.map_map] at i;obtain⟨d,j,rfl⟩:=y2o.1 i;exact(ih d j).2 s
  refine⟨λs m y a=>?_,λs m y a=>?_⟩
  ·rw[fT] at a;unfold fg at a;split at a
   ·exact mw _ _ _ _ m y a
   obtain⟨k,u,a⟩:=au a;obtain⟨I,p,q,-⟩:=eT u;split at a
   ·obtain⟨b,e,a⟩:=au a;injection a with a;obtain⟨A,f,g⟩:=Inc.row (B s) k b e;rw[<-a];exact⟨by show _<=b.2.count;omega,f.trans p,g.trans q⟩
   split at a
   ·obtain⟨M,Q,a⟩:=au a;obtain⟨O,R,a⟩:=au a;obtain⟨b,e,a⟩:=au a;injection a with a;obtain⟨A,f,g⟩:=oX (λv m y L=>by
     obtain⟨z,n,o,-⟩:=ij _ (B _) m y L;exact⟨z,n,o⟩) _ _ k b e
    rw[<-a];exact⟨by show _<=b.2.count;omega,f.trans p,g.trans q⟩
   split at a
   ·obtain⟨d,j,a⟩:=au a;obtain⟨b,e,a⟩:=au a;injection a with a;obtain⟨z,n,o⟩:=hD _ _ k d j;obtain⟨A,f,g⟩:=Inc.row (ha s) d.2 b e;rw[<-a];exact⟨by show _<=b.2.count;omega,f.trans (n.trans p),g.trans (o.trans q)⟩
   split at a
   ·obtain⟨d,j,a⟩:=au a;obtain⟨b,e,a⟩:=au a;injection a with a;obtain⟨z,n,o⟩:=hD _ _ k d j;obtain⟨A,f,g⟩:=Inc.row (fs:=(x.l.zip (x.l.map (aK r))).map λw=>if w.1.op=2 then fZ w.2 s else w.2 s) (λc i=>by
     obtain⟨w,J,rfl⟩:=y2o.1 i;obtain⟨T,U⟩:=w;have K:=(List.of_mem_zip J).2;obtain⟨D,C,rfl⟩:=y2o.1 K;simp only;split
     ·intro m y a;obtain⟨k,u,a⟩:=au a;obtain⟨b,e,a⟩:=au a;injection a with a;obtain⟨N,E,F,-⟩:=eT u;obtain⟨P,G,H⟩:=(ih D C).1 s k b e;rw[<-a];exact⟨by show _<=b.2.count;omega,G.trans E,H.trans F⟩
     ·exact(ih D C).1 s) d.2 b e
    rw[<-a];exact⟨by show _<=b.2.count;omega,f.trans (n.trans p),g.trans (o.trans q)⟩
   ·injection a with a;rw[<-a];exact⟨by show _<=k.count;omega,p,q⟩
  ·rw[nZ] at a;obtain⟨k,u,a⟩:=au a;obtain⟨d,j,a⟩:=au a;obtain⟨b,e,a⟩:=au a;injection a with a;obtain⟨I,p,q,-⟩:=eT u;obtain⟨z,n,o⟩:=Inc.row (fs:=x.x.map λl=>fi s l) (λc i=>by
    obtain⟨l,-,rfl⟩:=y2o.1 i;exact vt s l) k d j
   obtain⟨A,f,g⟩:=Inc.row (B s) d.2 b e;rw[<-a];exact⟨by show _<=b.2.count;omega,f.trans (n.trans p),g.trans (o.trans q)⟩
theorem ws{b:Bool}{s:Sc}{l:List S}{m:Mk}{a:List DT×Mk}(h:bE b s l m=.ok a):m.count+(a.1.length:Int)<=a.2.count:=(ij _ (λe c=>by
 obtain⟨d,-,rfl⟩:=y2o.1 c;exact(oY b d).1 s) m a h).1
theorem iq{s:Sc}{x:X}{v:Int}(h:aG s x=.ok v):bF v:=by
 unfold aG ofK at h;split at h
 ·rename_i a
  injection h with h;unfold bu at h a;split at a
  ·rename_i c
   rw[if_pos c] at h;have b:=pk (bw s.env) x;unfold okK at b;rw[<-h];rcases b with⟨-,hi⟩|⟨d,-⟩
   ·exact hi
   ·exfalso;omega
  ·exact absurd a zD
 ·cases h
theorem kx{s:Sc}{x:X}{v:Int}(h:bV s x=.ok v):1<=v/\v<=64:=by
 unfold bV ofK at h;split at h
 ·rename_i a
  injection h with h;unfold gR at h a;split at a
  ·exact absurd a zD
  ·rename_i b
   rw[if_neg b] at h;have:¬((bu s.env x).1<1\/64<(bu s.env x).1):=λe=>b ⟨a,e⟩
   omega
 ·cases h
theorem fF{b:ByteArray}{a f e:Int}{s:Sc}{m:Mk}{g:Sc×Mk}(h:cQ b a f e s m=.ok g):
 g=({s with sigs:=av s.sigs b m.d.sigs.length},{m with bits:=m.bits+a,d:={m.d with sigs:=m.d.sigs++[⟨s.path++b,a,f,e⟩]}})/\m.d.sigs.length<512/\m.bits+a<=4096:=by
 unfold cQ at h;split at h
 ·rename_i c
  injection h with h;exact⟨h.symm,c.1,c.2⟩
 ·cases h
theorem fG{a:Bool}{l:List DT}{m b:Mk}(h:co a l m=.ok b):b={m with d:={m.d with procs:=m.d.procs++[⟨a,l⟩]}}/\m.d.procs.length<1024:=by
 unfold co at h;split at h
 ·injection h with h;exact⟨h.symm,by assumption⟩
 ·cases h
section
variable (inst : Itm → Sc → Mk → Rs Mk) (t : Itm) (s : Sc) (m : Mk)
theorem na(h:t.op=1):aC inst t s m=(do let v<-aG s (xAt t.x 0);return(s.con t.name v,m)):=by
 obtain⟨op,b,of,x,d,l,els,c,a⟩:=t;simp only[Itm.op] at h;subst h;rw[aC];rfl
theorem mA(h:t.op=2):aC inst t s m=(do let w<-bV s (xAt t.x 0);cQ t.name w 3 0 s m):=by
 obtain⟨op,b,of,x,d,l,els,c,a⟩:=t;simp only[Itm.op] at h;subst h;rw[aC];rfl
theorem lR(h:t.op=3):aC inst t s m=(do let w<-bV s (xAt t.x 0);let b<-eP s (xAt t.x 1);cQ t.name w 4 b.2 s m):=by
 obtain⟨op,c,of,x,e,l,els,d,a⟩:=t;simp only[Itm.op] at h;subst h;rw[aC];rfl
theorem nv(h:t.op=4):aC inst t s m=(do let y<-cJ s false (xAt t.x 0) (xAt t.x 1) m;let m2<-co false [y.1] y.2;return(s,m2)):=by
 obtain⟨op,b,of,x,d,l,els,c,a⟩:=t;simp only[Itm.op] at h;subst h;rw[aC];rfl
theorem kE(h:t.op=5\/t.op=6):aC inst t s m=(do let y<-bE (decide (t.op=6)) s t.s m;let m2<-co (decide (t.op=6)) y.1 y.2;return(s,m2)):=by
 obtain⟨op,b,of,x,d,l,els,c,a⟩:=t;simp only[Itm.op] at h;rcases h with h|h<;>subst h<;>rw[aC]<;>rfl
theorem mZ(h:t.op=10):aC inst t s m=(do let y<-aF s (xAt t.x 0) m;return(s,{y.2 with d:={y.2.d with chks:=y.2.d.chks++[⟨s.path++t.name,y.1⟩]}})):=by
 obtain⟨op,b,of,x,e,l,els,c,a⟩:=t;simp only[Itm.op] at h;subst h;rw[aC];rfl
theorem my(h:t.op=7):aC inst t s m=(do let m2<-inst t s m;return(s,m2)):=by
 obtain⟨op,b,of,x,d,l,els,c,a⟩:=t;simp only[Itm.op] at h;subst h;rw[aC];rfl
theorem pb(h:t.op=8):aC inst t s m=(do let v<-aG s (xAt t.x 0);if v≠0 then aY inst t.l s m else aY inst t.els s m):=by
 obtain⟨op,b,of,x,d,l,els,c,a⟩:=t;simp only[Itm.op] at h;subst h;rw[aC];rfl
theorem mz(h:t.op=9):aC inst t s m=(do
 let a<-aG s (xAt t.x 0)
 let b<-aG s (xAt t.x 1)
 let m2<-fI (λv c=>do let z<-aY inst t.l (s.pass t.name t.of v) c;return z.2) (b - a).toNat a m
 return(s,m2)):=by
 obtain⟨op,e,of,x,g,l,els,f,d⟩:=t;simp only[Itm.op] at h;subst h;rw[aC];rfl
end
def hV(inst:Itm->Sc->Mk->Rs Mk):Prop:=∀t s m a,inst t s m=.ok a->m.d.sigs.length<=a.d.sigs.length
theorem iE{n:Int}{m a:Mk}(h:aZ n m=.ok a):a.d=m.d:=by
 unfold aZ at h;split at h
 ·injection h with h;rw[<-h]
 ·cases h
theorem mL{body:Int->Mk->Rs Mk}(c:∀v m b,body v m=.ok b->m.d.sigs.length<=b.d.sigs.length):∀(n:Nat) (v:Int) (m b:Mk),fI body n v m=.ok b->m.d.sigs.length<=b.d.sigs.length
 |0,v,m,b,a=>by injection a with a;rw[a];exact ac _
 |n+1,v,m,b,a=>by
  obtain⟨i,f,a⟩:=au a;obtain⟨e,g,a⟩:=au a;have:=mL c n (v+1) e b a;have h:=c v i e g;rw[iE f] at h;omega
theorem fX{inst:Itm->Sc->Mk->Rs Mk}:∀(l:List Itm),(∀t,t∈l->∀s m b,aC inst t s m=.ok b->m.d.sigs.length<=b.2.d.sigs.length)->∀s m b,aY inst l s m=.ok b->m.d.sigs.length<=b.2.d.sigs.length
 |[],_,s,m,b,a=>by rw[aY] at a;injection a with a;rw[<-a];exact ac _
 |t::l,hl,s,m,b,a=>by
  rw[aY] at a;obtain⟨i,c,a⟩:=au a;obtain⟨j,e,a⟩:=au a;have f:=hl t (du ..) _ _ _ e;have h:=fX l (λt g=>hl t (cf _ g)) _ _ _ a;rw[iE c] at f;omega
theorem xo{inst:Itm->Sc->Mk->Rs Mk}{t:Itm}{s:Sc}{m:Mk}(h:¬(1<=t.op/\t.op<=10)):aC inst t s m=.ok (s,m):=by
 obtain⟨op,b,of,x,d,l,els,c,a⟩:=t;simp only[Itm.op] at h;rw[aC];rw[if_neg zO,if_neg zO,if_neg zO,if_neg zO,if_neg zO,if_neg zO,if_neg zO,if_neg zO,if_neg zO];rfl
theorem kD{inst:Itm->Sc->Mk->Rs Mk}(hi:hV inst):∀(t:Itm) (s:Sc) (m:Mk) (i:Sc×Mk),aC inst t s m=.ok i->m.d.sigs.length<=i.2.d.sigs.length:=by
 intro t;induction t using Itm.ind with
 |h t ih1 ih2=>
  intro s m i a;by_cases p:t.op=1
  ·rw[na inst t s m p] at a;obtain⟨v,-,a⟩:=au a;injection a with a;rw[<-a];exact ac _
  by_cases r:t.op=2
  ·rw[mA inst t s m r] at a;obtain⟨v,-,a⟩:=au a;rw[(fF a).1];simp
  by_cases u:t.op=3
  ·rw[lR inst t s m u] at a;obtain⟨v,-,a⟩:=au a;obtain⟨o,-,a⟩:=au a;rw[(fF a).1];simp
  by_cases w:t.op=4
  ·rw[nv inst t s m w] at a;obtain⟨b,j,a⟩:=au a;obtain⟨n,c,a⟩:=au a;injection a with a;rw[<-a,(fG c).1];show _<=b.2.d.sigs.length;rw[(mw s false _ _ m b j).2.1];exact ac _
  by_cases j:t.op=5\/t.op=6
  ·rw[kE inst t s m j] at a;obtain⟨b,c,a⟩:=au a;obtain⟨n,e,a⟩:=au a;injection a with a;rw[<-a,(fG e).1];show _<=b.2.d.sigs.length;rw[(ij _ (λC z=>by obtain⟨x,-,rfl⟩:=List.mem_map.1 z;exact(oY _ x).1 s) m b c).2.1];exact ac _
  by_cases c:t.op=10
  ·rw[mZ inst t s m c] at a;obtain⟨b,e,a⟩:=au a;injection a with a;rw[<-a];show _<=b.2.d.sigs.length;rw[(hD s _ m b e).2.1];exact ac _
  by_cases e:t.op=7
  ·rw[my inst t s m e] at a;obtain⟨n,k,a⟩:=au a;injection a with a;rw[<-a];exact hi _ _ _ _ k
  by_cases k:t.op=8
  ·rw[pb inst t s m k] at a;obtain⟨v,-,a⟩:=au a;split at a
   ·exact fX t.l (λb g=>ih1 b g) s m i a
   ·exact fX t.els (λb g=>ih2 b g) s m i a
  by_cases y:t.op=9
  ·rw[mz inst t s m y] at a;obtain⟨B,-,a⟩:=au a;obtain⟨o,-,a⟩:=au a;obtain⟨n,q,a⟩:=au a;injection a with a;rw[<-a];refine mL (λv m D f=>?_) _ _ _ _ q;obtain⟨E,A,f⟩:=au f;injection f with f;rw[<-f];exact fX t.l (λb g=>ih1 b g) _ _ _ A
  rw[xo zO] at a;injection a with a;rw[<-a];exact ac _
theorem ofIs_mem{l:List Itm}{s:ByteArray}:s∈bJ l↔∃t,t∈l/\s∈ofI t:=by
 induction l with
 |nil=>simp[bJ]
 |cons x l ih=>simp[bJ,ih]
theorem ofI_mem{t:Itm}{s:ByteArray}:s∈ofI t↔(t.op=7/\s=t.of)\/s∈bJ t.l\/s∈bJ t.els:=by
 rw[nQ];by_cases a:t.op=7
 ·simp[a]
 ·simp[a]
def RkM(f:List Mdl):Nat->List ByteArray->Prop
 |0,l=>∀s,¬s∈l
 |k+1,l=>∀s,s∈l->∃of,bU f s=some of/\RkM f k (bJ of.items)
theorem RkM.sub{f:List Mdl}:∀{k:Nat} {l b:List ByteArray},RkM f k l->(∀s,s∈b->s∈l)->RkM f k b
 |0,_,_,h,hs=>λs a=>h s (hs s a)
 |k+1,_,_,h,hs=>λs a=>h s (hs s a)
theorem np{f:List Mdl}(h:da f=0):dC f=0/\(aQ f).Nodup/\(∀m,m∈f->dN m)/\(∀m,m∈f->∀s,s∈bN m->s∈aQ f)/\(ct f).length=f.length:=by
 unfold da at h;split at h
 ·rename_i a
  unfold eA at h;split at h
  ·rename_i b
   split at h
   ·rename_i c
    split at h
    ·exact absurd h zD
    ·rename_i d
     have:=(kI f).1.le;exact⟨a,b.1,b.2,c,zO⟩
   ·exact absurd h zD
  ·exact absurd h zD
 ·rename_i a;exact absurd h a
theorem tw{f:List Mdl}(h:(aQ f).Nodup){m:Mdl}(b:m∈f):bU f m.name=some m:=by
 induction f with
 |nil=>cases b
 |cons a r ih=>
  unfold bU;rw[List.find?_cons];obtain⟨d,g⟩:=List.nodup_cons.1 (show(a.name::aQ r).Nodup from h);rcases List.mem_cons.1 b with rfl|c
  ·rw[yes_iff.2 rfl]
  ·rw[yes_no.2 (λe=>d (by rw[e];exact y2o.2 ⟨m,c,rfl⟩))];exact ih g c
theorem xG{f:List Mdl}(k:(aQ f).Nodup){c:List ByteArray}(l:Ordered f c):∀a,a<=c.length->RkM f a (c.take a):=by
 intro a;induction a with
 |zero=>intro _ s b;simp at b
 |succ a ih=>
  intro n s b;obtain⟨d,j,rfl⟩:=List.getElem_of_mem b;rw[List.length_take] at j;rw[List.getElem_take];obtain⟨m,e,g,h⟩:=l.pre d zO;rw[<-g];refine⟨m,tw k e,(ih zO).sub λs b=>?_⟩;have i:=h s (mem_uses.2 b);exact(List.take_subset_take_left _ (by omega:d<=a)) i
theorem sK{f:List Mdl}(h:da f=0){m:Mdl}(i:m∈f):RkM f f.length (bJ m.items):=by
 obtain⟨-,j,-,n,a⟩:=np h;have b:=(kI f).1;have e:=xG j b f.length zO;rw[<-a,List.take_length] at e;rw[<-a];refine e.sub λs k=>?_
 have g:=n m i s (mem_uses.2 k);have p:(aQ f).length=(ct f).length:=by simp[aQ,a]
 by_cases d:s∈ct f
 ·exact d
 ·exfalso;have:=ph (o:=s::ct f) (l:=aQ f) (List.nodup_cons.2 ⟨d,b.nodup⟩) (λt c=>by
   rcases List.mem_cons.1 c with rfl|c
   ·exact g
   ·exact b.sub t c)
  rw[List.length_cons] at this;omega
def Tag(w:World)(b:Nat)(T:TypeId):Prop:=∃a c,w.heap[b]? =some (.cells a T c)
theorem Tag.one{w:World}{b:Nat}{T a:TypeId}(h:Tag w b T)(k:Tag w b a):T=a:=by
 obtain⟨c,e,h⟩:=h;obtain⟨d,f,k⟩:=k;rw[h] at k;injection k with k;injection k
theorem Blk.tag{w:World}{g:Nat}{t:TypeId}{a:List Value}(h:Blk w g t a):Tag w g t:=⟨_,_,h⟩
theorem Tag.lt{w:World}{b:Nat}{T:TypeId}(h:Tag w b T):b<w.heap.size:=by
 obtain⟨a,c,h⟩:=h;exact(y1w.1 h).1
theorem Tag.of_eq{w a:World}{b:Nat}{T:TypeId}(h:Tag w b T)(d:a.heap[b]? =w.heap[b]?):Tag a b T:=by
 obtain⟨c,e,h⟩:=h;exact⟨c,e,d.trans h⟩
theorem MV.noTag{w:World}{m:Nat}{a:List (Value×Value)}(h:MV w m a){T:TypeId}(k:Tag w m T):False:=by
 obtain⟨d,c,h,-⟩:=h;obtain⟨b,e,k⟩:=k;rw[h] at k;cases k
def SlT{α:Type}(T:TypeId)(R:α->List Value->Prop)(w:World)(f:Nat)(l:List α)(v:Value):Prop:=
 ∃d e,v=.slice d l.length e/\l.length<=e/\∀c,(g:c<l.length)->∃b o a,d=some ⟨b,o,none⟩/\Tag w b T/\a.length=f/\Cells w b (o+c*f) a/\(∀v,v∈a->v.oneCell'=true)/\R l[c] a
def Kp(w b:World):Prop:=∀a,(Tag w a 60\/Tag w a 73\/Tag w a 85)->b.heap[a]? =w.heap[a]?
theorem Ext.kp{w b:World}(h:Ext w b):Kp w b:=λc a=>by
 have d:c<w.heap.size:=by rcases a with a|a|a<;>exact a.lt
 exact h.heap d
def dj(T:TypeId):Prop:=T=60\/T=73\/T=85
theorem Kp.at_{w c:World}(h:Kp w c){b:Nat}{T:TypeId}(d:dj T)(a:Tag w b T):c.heap[b]? =w.heap[b]? :=by
 rcases d with rfl|rfl|rfl
 ·exact h b (.inl a)
 ·exact h b (.inr (.inl a))
 ·exact h b (.inr (.inr a))
theorem SlT.keep{α:Type}{T:TypeId}{R e:α->List Value->Prop}{w p:World}{c:Nat}{l:List α}{v:Value}(h:SlT T R w c l v)(A:dj T)(C:Kp w p)(y:∀d,d∈l->∀b,R d b->e d b):SlT T e p c l v:=by
 obtain⟨q,r,G,B,E⟩:=h;refine⟨q,r,G,B,λn i=>?_⟩;obtain⟨f,o,b,ha,j,D,x,u,z⟩:=E n i;have g:=C.at_ A j;exact⟨f,o,b,ha,j.of_eq g,D,λk H F=>(ef (a:=⟨f,o+n*c+k,none⟩) g).trans (x k H F),u,y _ (ao i) _ z⟩
theorem SlT.nil{α:Type}{T:TypeId}{R:α->List Value->Prop}{w:World}{b:Nat}:SlT T R w b [] (.slice none 0 0):=⟨none,0,rfl,ac _,λc a=>absurd a zS⟩
theorem SlT.oneCell{α:Type}{T:TypeId}{R:α->List Value->Prop}{w:World}{a:Nat}{l:List α}{v:Value}(h:SlT T R w a l v):v.oneCell'=true:=by
 obtain⟨b,c,rfl,_,_⟩:=h;rfl
theorem SlT.form{α:Type}{T:TypeId}{R:α->List Value->Prop}{w:World}{d:Nat}{l:List α}{v:Value}(h:SlT T R w d l v):∃a b,v=.slice a l.length b:=by
 obtain⟨a,b,c,_,_⟩:=h;exact⟨a,b,c⟩
theorem SlT.sl{α:Type}{T:TypeId}{R:α->List Value->Prop}{w:World}{a:Nat}{l:List α}{v:Value}(h:SlT T R w a l v):Sl R w w.heap.size a l v:=by
 obtain⟨b,d,r,j,p⟩:=h;refine⟨b,d,r,j,λu n=>?_⟩;obtain⟨c,o,e,ha,q,k,g,f,i⟩:=p u n;exact⟨c,o,e,ha,q.lt,k,g,f,i⟩
theorem OwnL.slT{α:Type}{R:α->List Value->Prop}{i:Nat}{e:TypeId}{c:Nat}{l:List α}{v:Value}{X:World}(z:0<c)(h:OwnL R i e c l v X):SlT e R X c l v:=by
 obtain⟨f,j,b,r,y⟩:=h.sl z;obtain⟨F,x,-⟩:=h.ex;refine⟨f,j,b,r,λA w=>?_⟩;obtain⟨g,o,k,ha,E,u,p,n,q⟩:=y A w;refine⟨g,o,k,ha,?_,u,p,n,q⟩;rcases x.2 with⟨a,d⟩|⟨D,B,C,a,-,d,-⟩
 ·rw[b] at a;injection a with a;rw[ha] at a;cases a
 ·rw[b,ha] at a;injection a with a;injection a with a;injection a with a;subst a;exact⟨_,_,d⟩
theorem uE(b:Addr):b.add 0=b:=by unfold Addr.add;simp
theorem yt(a:Option Addr)(n s:Nat):Go.sliced a 0 n n s=.slice a n n:=by
 unfold Go.sliced
 congr 1
 split
 ·rfl
 ·cases a with
  |none=>rfl
  |some b=>simp[uE]
theorem rg{P:Program}(w:World)(t ty e:TypeId)(i:TypeInfo)(z:Value)(size bytes:Nat)(ht:P.underlying t=some (.slice e))(hi:P.info? e=some i)(D:i.zero=some z)
 (M:i.size=size) (G:i.bytes=bytes) (N:z.cells.size=size) (r:bytes<=1000)
 (p:Option Addr) (n:Nat) (xs:List Value) (f:Flat w size p n xs) (k:Addr) (m c:Nat) (b:List Value) (l:b.length=m*size) (B:∀g h,b[g]? =some h->w.cell? (k.add g)=some h)
 (R:n<=1000000000) (Q:m<=1000000000) (h0:0<m):
 ∃E v,(Builtin.append_ #[t,t] ty #[.slice p n n,.slice (some k) m c]).run P w=.ok E v/\v.ownsRow w.heap.size e size E (n+m) (xs++b)/\Ext w v:=by
 subst M;subst G;have A:(xs++b).length=(n+m)*i.size:=by rw[List.length_append,f.1,l,Nat.add_mul]
 have y:(n+m)*i.bytes<=140737488355328:=by
  calc (n+m)*i.bytes<=2000000000*1000:=Nat.mul_le_mul zO r
   _<=140737488355328:=by decide
 have F:n+m<=maxLen:=by simp only[maxLen];omega
 have grown:∀(d:Nat),d<n+m->
  (w.drew.alloc (.cells (xs.toArray++b.toArray++Builtin.zeroCells z.cells (grownCap w (n+m) d e - (n+m))) e)).ownsRow w.heap.size e i.size
    (.slice (some ⟨w.heap.size,0,none⟩) (n+m) (grownCap w (n+m) d e)) (n+m) (xs++b)/\
  Ext w (w.drew.alloc (.cells (xs.toArray++b.toArray++Builtin.zeroCells z.cells (grownCap w (n+m) d e - (n+m))) e)):=by
  intro d S;have J:=grownCap_ge w (n+m) d e;have I:grownCap w (n+m) d e<=maxLen:=grownCap_le_maxLen w (n+m) d e F;refine⟨⟨A,.inr ⟨w.heap.size,_,_,rfl,ac _,heap_alloc_new w.drew _,J,I,?_,?_⟩⟩,((ah w).drew).alloc _⟩
  ·simp only[Array.size_append,List.size_toArray,size_zeroCells,N,f.1,l,<-Nat.add_mul]
   congr 1
   omega
  ·simp only[Array.toList_append,List.append_assoc];rw[<-List.append_assoc,<-A];exact List.take_left
 rcases p with _|x
 ·have K:n=0:=by
   rcases Nat.eq_zero_or_pos n with a|a
   ·exact a
   ·obtain⟨_,_,a,_⟩:=f.2.2 a;cases a
  subst K;obtain rfl:xs=[]:=cW (by simpa using f.1);have u:=run_append_nil (P:=P) w t ty e i z ht hi D k m c b l B h0 zO (by have r:=y;simp only[Nat.zero_add] at r;omega);have j:=grown 0 zO;simp only[Nat.zero_add,List.nil_append,Array.empty_append] at j⊢;exact⟨_,_,u,j.1,j.2⟩
 ·have L:∀g h,xs[g]? =some h->w.cell? (x.add g)=some h:=by
   intro g h C;rcases Nat.eq_zero_or_pos n with a|a
   ·subst a;obtain rfl:xs=[]:=cW (by simpa using f.1);simp at C
   ·obtain⟨O,o,q,H⟩:=f.2.2 a;injection q with q;subst q;rw[eY];exact H g h C
  have u:=run_append_grow (P:=P) w t ty e i z ht hi D x n n xs f.1 L k m c b l B zO zO (growslice_fits zO y);have j:=grown n zO;exact⟨_,_,u,j.1,j.2⟩
theorem rn{P:Program}{w:World}{ops:Array Oper}{l:List Oper}{o:Oper}{a:Act}{Q:Exit->Act->World->Prop}(y:o.guard=none)(s x:Operand)(t:TypeId)
 (E:o.op=.call {callee:=.builtin .append,args:=#[s,x],argTypes:=#[t,t]})
 (e:TypeId) (i:TypeInfo) (z:Value) (size bytes:Nat) (ht:P.underlying t=some (.slice e)) (hi:P.info? e=some i) (L:i.zero=some z)
 (H:i.size=size) (v:i.bytes=bytes) (M:z.cells.size=size) (u:bytes<=1000)
 (j:Option Addr) (n:Nat) (xs:List Value) (G:a.eval s=.slice j n n) (K:Flat w size j n xs)
 (b k m c:Nat) (f:List Value) (J:a.eval x=.slice (some ⟨b,k,none⟩) m c) (A:f.length=m*size) (D:Cells w b k f)
 (C:n<=1000000000) (B:m<=1000000000) (h0:0<m)
 (h:∀g d,d.ownsRow w.heap.size e size g (n+m) (xs++f)->Ext w d->wpList P ops Q l (a.put o.dst g) d):wpList P ops Q (o::l) a w:=
 wpList_plain y λ_ r=>by
  obtain⟨g,d,F,p,q⟩:=rg (P:=P) w t o.type e i z size bytes ht hi L H v M u j n xs K ⟨b,k,none⟩ m c f A (λN O I=>by rw[eY];exact D N O I) C B h0;unfold Oper.wp execOp;simp only[E,resolve,invoke,builtin,Sem.run_bind,Sem.run_pure,Result.andThen_ok,List.map_toArray,List.map_cons,List.map_nil,G,J,F];exact r _ _ (h g d p q)
def RE8(w:World):DE->List Value->Prop
 |.mk op wd v sig hi lo n l,cs=>∃d e,cs=[.int .i64 op,.int .i64 wd,.int .u64 v,.int .i64 sig,.int .i64 hi,.int .i64 lo,.int .i64 n,.slice d l.length e]/\l.length<=e/\
   ∀c,(f:c<l.length)->∃b o a,d=some ⟨b,o,none⟩/\Tag w b 60/\a.length=8/\Cells w b (o+c*8) a/\(∀v,v∈a->v.oneCell'=true)/\RE8 w l[c] a
termination_by x=>SizeOf.sizeOf x
decreasing_by
 have:=List.sizeOf_lt_of_mem (ao f);simp only[DE.mk.sizeOf_spec];omega
theorem RE8_iff{w:World}{x:DE}{f:List Value}:
 RE8 w x f↔∃v,f=[.int .i64 x.op,.int .i64 x.w,.int .u64 x.v,.int .i64 x.sig,.int .i64 x.hi,.int .i64 x.lo,.int .i64 x.n,v]/\SlT 60 (RE8 w) w 8 x.l v:=by
 obtain⟨op,g,v,sig,hi,lo,n,l⟩:=x;rw[RE8];constructor
 ·rintro⟨a,b,c,d,e⟩;exact⟨_,c,a,b,rfl,d,e⟩
 ·rintro⟨_,c,a,b,rfl,d,e⟩;exact⟨a,b,c,d,e⟩
mutual
theorem DE.ind{P:DE->Prop}(h:∀x,(∀a,a∈x.l->P a)->P x):∀x,P x
 |.mk op w v sig hi lo n l=>h _ (DE.indL h l)
theorem DE.indL{P:DE->Prop}(h:∀x,(∀b,b∈x.l->P b)->P x):∀(l:List DE) (b:DE),b∈l->P b
 |[],_,hy=>by cases hy
 |a::r,b,hy=>by
  cases hy with
  |head=>exact DE.ind h a
  |tail _ ht=>exact DE.indL h r b ht
end
mutual
theorem DT.ind{P:DT->Prop}(h:∀x,(∀a,a∈x.l->P a)->P x):∀x,P x
 |.mk op sig hi lo e l=>h _ (DT.indL h l)
theorem DT.indL{P:DT->Prop}(h:∀x,(∀b,b∈x.l->P b)->P x):∀(l:List DT) (b:DT),b∈l->P b
 |[],_,hy=>by cases hy
 |a::r,b,hy=>by
  cases hy with
  |head=>exact DT.ind h a
  |tail _ ht=>exact DT.indL h r b ht
end
theorem RE8.keep{w b:World}(d:Kp w b)(x:DE):∀a,RE8 w x a->RE8 b x a:=by
 induction x using DE.ind with
 |h x ih=>
  intro a c;obtain⟨v,rfl,e⟩:=RE8_iff.1 c;exact RE8_iff.2 ⟨v,rfl,e.keep (.inl rfl) d ih⟩
theorem RE8.one{w:World}{x:DE}{b:List Value}(h:RE8 w x b):∀a,a∈b->a.oneCell'=true:=by
 obtain⟨v,rfl,d⟩:=RE8_iff.1 h;intro a c;simp only[List.mem_cons,List.not_mem_nil,or_false] at c;rcases c with rfl|rfl|rfl|rfl|rfl|rfl|rfl|rfl<;>first|rfl|exact d.oneCell
theorem RE8.len{w:World}{x:DE}{a:List Value}(h:RE8 w x a):a.length=8:=by
 obtain⟨v,rfl,b⟩:=RE8_iff.1 h;rfl
def RT6(w:World):DT->List Value->Prop
 |.mk op sig hi lo e l,cs=>∃g,SlT 60 (RE8 w) w 8 e g/\∃d f,cs=[.int .i64 op,.int .i64 sig,.int .i64 hi,.int .i64 lo,g,.slice d l.length f]/\l.length<=f/\
   ∀c,(h:c<l.length)->∃b o a,d=some ⟨b,o,none⟩/\Tag w b 73/\a.length=6/\Cells w b (o+c*6) a/\(∀v,v∈a->v.oneCell'=true)/\RT6 w l[c] a
termination_by x=>SizeOf.sizeOf x
decreasing_by
 have:=List.sizeOf_lt_of_mem (ao h);simp only[DT.mk.sizeOf_spec];omega
theorem RT6_iff{w:World}{x:DT}{h:List Value}:
 RT6 w x h↔∃i j,h=[.int .i64 x.op,.int .i64 x.sig,.int .i64 x.hi,.int .i64 x.lo,i,j]/\SlT 60 (RE8 w) w 8 x.e i/\SlT 73 (RT6 w) w 6 x.l j:=by
 obtain⟨op,sig,hi,lo,e,l⟩:=x;rw[RT6];constructor
 ·rintro⟨k,c,a,b,d,f,g⟩;exact⟨_,_,d,c,a,b,rfl,f,g⟩
 ·rintro⟨_,_,d,c,a,b,rfl,f,g⟩;exact⟨_,c,a,b,d,f,g⟩
theorem RT6.keep{w c:World}(b:Kp w c)(x:DT):∀a,RT6 w x a->RT6 c x a:=by
 induction x using DT.ind with
 |h x ih=>
  intro a d;obtain⟨g,i,rfl,e,f⟩:=RT6_iff.1 d;exact RT6_iff.2 ⟨g,i,rfl,e.keep (.inl rfl) b (λj _=>RE8.keep b j),f.keep (.inr (.inl rfl)) b ih⟩
theorem RT6.one{w:World}{x:DT}{b:List Value}(h:RT6 w x b):∀a,a∈b->a.oneCell'=true:=by
 obtain⟨f,g,rfl,d,e⟩:=RT6_iff.1 h;intro a c;simp only[List.mem_cons,List.not_mem_nil,or_false] at c;rcases c with rfl|rfl|rfl|rfl|rfl|rfl<;>first|rfl|exact d.oneCell|exact e.oneCell
theorem RT6.len{w:World}{x:DT}{a:List Value}(h:RT6 w x a):a.length=6:=by
 obtain⟨b,c,rfl,-,-⟩:=RT6_iff.1 h;rfl
def SlT6(w:World)(l:List DT)(v:Value):Prop:=SlT 73 (RT6 w) w 6 l v
theorem SlT6.keep{w b:World}{l:List DT}{v:Value}(h:SlT6 w l v)(a:Kp w b):SlT6 b l v:=SlT.keep h (.inr (.inl rfl)) a (λc _=>RT6.keep a c)
def RSg(x:Sg)(a:List Value):Prop:=a=[.string x.name,.int .i64 x.w,.int .i64 x.kind,.int .u64 x.init]
def RPc(w:World)(x:Pc)(a:List Value):Prop:=∃v,a=[.bool x.clk,v]/\SlT6 w x.l v
def RCk(w:World)(x:Ck)(b:List Value):Prop:=∃a,b=.string x.name::a/\RE8 w x.e a
theorem RPc.keep{w b:World}(d:Kp w b)(x:Pc):∀a,RPc w x a->RPc b x a:=by
 rintro a ⟨v,rfl,c⟩;exact⟨v,rfl,c.keep d⟩
theorem RCk.keep{w b:World}(d:Kp w b)(x:Ck):∀a,RCk w x a->RCk b x a:=by
 rintro a ⟨v,rfl,c⟩;exact⟨v,rfl,RE8.keep d _ _ c⟩
structure ScI(w:World)(sb mp:Nat)(ve:Value)(s:Sc):Prop where
 blk:Blk w sb 126 [ve,.map (some mp),.string s.path]
 env:SlT 85 RNm w 2 s.env ve
 map:EnvM w mp s.sigs
theorem EnvM.lt{w:World}{m:Nat}{env:ByteArray->Option Int}(h:EnvM w m env):m<w.heap.size:=by
 obtain⟨a,h,-⟩:=h;exact h.lt
theorem EnvM.of_eq{w a:World}{m:Nat}{env:ByteArray->Option Int}(h:EnvM w m env)(j:a.heap[m]? =w.heap[m]?):EnvM a m env:=by
 obtain⟨b,⟨d,c,i,g⟩,e,f⟩:=h;exact⟨b,⟨d,c,j.trans i,g⟩,e,f⟩
theorem EnvM.noTag{w:World}{m:Nat}{env:ByteArray->Option Int}(h:EnvM w m env){T:TypeId}(k:Tag w m T):False:=by
 obtain⟨a,h,-⟩:=h;exact h.noTag k
structure MkI(w:World)(N0 mb:Nat)(vf vs vp vc:Value)(m:Mk):Prop where
 blk:Blk w mb 99 [vf,vs,vp,vc,.int .i64 m.count,.int .i64 m.bits]
 sig:OwnL RSg N0 57 4 m.d.sigs vs w
 prc:OwnL (RPc w) N0 70 2 m.d.procs vp w
 chk:OwnL (RCk w) N0 62 9 m.d.chks vc w
 base:N0<=mb
structure Chg(X:Nat->Prop)(w w':World):Prop where
 os:w'.os=w.os
 tape:w'.tape=w.tape
 output:w'.output=w.output
 size:w.heap.size<=w'.heap.size
 block:∀k,k<w.heap.size->¬X k->w'.heap[k]? =w.heap[k]?
theorem Chg.refl(X:Nat->Prop)(w:World):Chg X w w:=⟨rfl,rfl,rfl,ac _,λ_ _ _=>rfl⟩
theorem Chg.trans{X:Nat->Prop}{a b c:World}(h:Chg X a b)(k:Chg X b c):Chg X a c:=
 ⟨k.os.trans h.os,k.tape.trans h.tape,k.output.trans h.output,ad h.size k.size,λe hi d=>(k.block e (aI hi h.size) d).trans (h.block e hi d)⟩
theorem Chg.mono{X Y:Nat->Prop}{w c:World}(h:Chg X w c)(d:∀a,a<w.heap.size->X a->Y a):Chg Y w c:=
 ⟨h.os,h.tape,h.output,h.size,λb hi f=>h.block b hi λe=>f (d b hi e)⟩
theorem Ext.chg{X:Nat->Prop}{w a:World}(h:Ext w a):Chg X w a:=⟨h.os,h.tape,h.output,h.size,λc b _=>h.block c b⟩
theorem Chg.ext{X:Nat->Prop}{a w e:World}(h:Chg X w e)(b:Ext a w)(f:∀c,X c->a.heap.size<=c):Ext a e:=
 ⟨h.os.trans b.os,h.tape.trans b.tape,h.output.trans b.output,ad b.size h.size,λc d=>(h.block c (aI d b.size) λg=>absurd (f c g) zO).trans (b.block c d)⟩
theorem Chg.cell{X:Nat->Prop}{w b:World}(h:Chg X w b){p:Addr}{v:Value}(a:w.cell? p=some v)(c:¬X p.block):b.cell? p=some v:=by
 refine(ef (h.block _ ?_ c)).trans a;rcases Nat.lt_or_ge p.block w.heap.size with e|d
 ·exact e
 ·rw[World.cell?,Array.getElem?_eq_none d] at a;cases a
theorem Chg.blk{X:Nat->Prop}{w c:World}(h:Chg X w c){g:Nat}{t:TypeId}{a:List Value}(b:Blk w g t a)(d:¬X g):Blk c g t a:=(h.block g b.lt d).trans b
theorem Chg.drew{X:Nat->Prop}{a w:World}(h:Chg X a w):Chg X a w.drew:=⟨h.os,h.tape,h.output,h.size,h.block⟩
theorem Chg.setCell{X:Nat->Prop}{a w:World}(h:Chg X a w){p:Addr}(f:X p.block)(u:Value):Chg X a (w.setCell p u):=
 ⟨h.os,h.tape,h.output,by simpa [World.setCell] using h.size,λc d b=>(Below.heap_setCell w p u c (λe=>b (by rw[e];exact f))).trans (h.block c d b)⟩
theorem Chg.grown{X:Nat->Prop}{a w i:World}{g:Option Nat}(h:Chg X a w)(c:w.grownBy i g)(j:∀b,g=some b->b<a.heap.size->X b):Chg X a i:=
 ⟨c.os.trans h.os,c.tape.trans h.tape,c.output.trans h.output,ad h.size c.size,λb d f=>(c.block b (aI d h.size) (λe=>f (j b e.symm d))).trans (h.block b d f)⟩
theorem Chg.kp{X:Nat->Prop}{w g:World}(h:Chg X w g)(i:∀b,X b->b<w.heap.size->∃c,Tag w b c/\¬dj c):Kp w g:=by
 intro b a;have f:b<w.heap.size:=by rcases a with a|a|a<;>exact a.lt
 refine h.block b f λj=>?_
 obtain⟨c,d,e⟩:=i b j f;rcases a with a|a|a
 ·exact e (.inl (d.one a))
 ·exact e (.inr (.inl (d.one a)))
 ·exact e (.inr (.inr (d.one a)))
theorem sM{w:World}{c:Nat}{t:TypeId}{d n:Nat}{v:Value}{xs:List Value}(h:w.ownsRow c t d v n xs):∃b a,v=.slice b n a:=by
 rcases h.2 with⟨rfl,rfl⟩|⟨f,a,e,rfl,-⟩<;>exact⟨_,_,rfl⟩
theorem rJ{w:World}{c:Nat}{v:Value}{a:ByteArray}{z:Int}{xs:List Value}{env:List (ByteArray×Int)}(h:w.ownsRow c 85 2 v (env.length+1) (xs++[.string a,.int .i64 z]))(hF:Fl RNm 2 env xs):SlT 85 RNm w 2 (env++[(a,z)]) v:=
 OwnL.slT zD ⟨_,by rw[List.length_append];exact h,hF.append (Fl.one_ (x:=(a,z)) rfl (by intro d b;simp at b;rcases b with rfl|rfl<;>rfl) rfl)⟩
abbrev FrS(mb:Nat):World->World->Prop:=Chg (λa=>a=mb)
def RowTy(w:World)(N0 b:Nat):Prop:=N0<=b/\(Tag w b 57\/Tag w b 70\/Tag w b 62)
structure FrI(N0 mb sb mp:Nat)(w w':World):Prop where
 os:w'.os=w.os
 tape:w'.tape=w.tape
 output:w'.output=w.output
 size:w.heap.size<=w'.heap.size
 block:∀k,k<w.heap.size->k≠mb->k≠sb->k≠mp->¬RowTy w N0 k->w'.heap[k]? =w.heap[k]?
theorem RowTy.of_eq{w a:World}{N0 b:Nat}(c:a.heap[b]? =w.heap[b]?):RowTy a N0 b↔RowTy w N0 b:=by
 unfold RowTy Tag;rw[c]
theorem FrI.refl(N0 mb sb mp:Nat)(w:World):FrI N0 mb sb mp w w:=⟨rfl,rfl,rfl,ac _,λ_ _ _ _ _ _=>rfl⟩
theorem FrI.trans{N0 mb sb mp:Nat}{a b c:World}(h:FrI N0 mb sb mp a b)(k:FrI N0 mb sb mp b c):FrI N0 mb sb mp a c:=
 ⟨k.os.trans h.os,k.tape.trans h.tape,k.output.trans h.output,ad h.size k.size,λj hi d f g i=>by
  have e:=h.block j hi d f g i;exact(k.block j (aI hi h.size) d f g (λl=>i ((RowTy.of_eq e).1 l))).trans e⟩
theorem FrI.fresh{N0 mb sb mp d c:Nat}{w l:World}(h:FrI N0 mb d c w l)(W:World)(a:FrI N0 mb sb mp W w)(b:W.heap.size<=d\/d=sb)(h2:W.heap.size<=c\/c=mp):FrI N0 mb sb mp W l:=
 ⟨h.os.trans a.os,h.tape.trans a.tape,h.output.trans a.output,ad a.size h.size,λk hi f g i j=>by
  have e:=a.block k hi f g i j;refine(h.block k (aI hi a.size) f ?_ ?_ (λn=>j ((RowTy.of_eq e).1 n))).trans e
  ·rcases b with b|b
   ·omega
   ·rw[b];exact g
  ·rcases h2 with h2|h2
   ·omega
   ·rw[h2];exact i⟩
theorem FrI.of_chg{N0 mb sb mp:Nat}{w a:World}(h:FrS mb w a):FrI N0 mb sb mp w a:=⟨h.os,h.tape,h.output,h.size,λd c b _ _ _=>h.block d c b⟩
theorem FrI.of_ext{N0 mb sb mp:Nat}{w a:World}(h:Ext w a):FrI N0 mb sb mp w a:=⟨h.os,h.tape,h.output,h.size,λc b _ _ _ _=>h.block c b⟩
theorem FrI.ext{N0 mb sb mp:Nat}{a w e:World}(h:FrI N0 mb sb mp w e)(b:Ext a w)(h0:a.heap.size<=N0)(g:a.heap.size<=mb)(h2:a.heap.size<=sb)(h3:a.heap.size<=mp):Ext a e:=
 ⟨h.os.trans b.os,h.tape.trans b.tape,h.output.trans b.output,ad b.size h.size,λd c=>(h.block d (aI c b.size) zO zO zO (λf=>by have:=f.1;omega)).trans (b.block d c)⟩
def kR(T:TypeId):Prop:=T≠57/\T≠70/\T≠62
theorem pj{w:World}{N0 g:Nat}{T:TypeId}(h:Tag w g T)(b:kR T):¬RowTy w N0 g:=by
 rintro⟨-,a|a|a⟩
 ·exact b.1 (h.one a)
 ·exact b.2.1 (h.one a)
 ·exact b.2.2 (h.one a)
theorem FrI.blk{N0 mb sb mp:Nat}{w c:World}(h:FrI N0 mb sb mp w c){g:Nat}{t:TypeId}{b:List Value}(a:Blk w g t b)(ht:kR t)(d:g≠mb)(h2:g≠sb)(h3:g≠mp):Blk c g t b:=
 (h.block g a.lt d h2 h3 (pj a.tag ht)).trans a
theorem FrI.map{N0 mb sb mp:Nat}{w b:World}(h:FrI N0 mb sb mp w b){g:Nat}{env:ByteArray->Option Int}(a:EnvM w g env)(c:g≠mb)(h2:g≠sb)(h3:g≠mp):EnvM b g env:=
 a.of_eq (h.block g a.lt c h2 h3 (λd=>by rcases d.2 with h|h|h<;>exact a.noTag h))
theorem FrI.kp{N0 mb sb mp:Nat}{w i:World}(h:FrI N0 mb sb mp w i)(k:Tag w mb 99)(n:sb<w.heap.size->Tag w sb 126)(l:mp<w.heap.size->∃g,EnvM w mp g):Kp w i:=by
 intro d a;have f:d<w.heap.size:=by rcases a with a|a|a<;>exact a.lt
 have b:∃c,Tag w d c/\(c=60\/c=73\/c=85):=by
  rcases a with a|a|a
  ·exact⟨_,a,.inl rfl⟩
  ·exact⟨_,a,.inr (.inl rfl)⟩
  ·exact⟨_,a,.inr (.inr rfl)⟩
 obtain⟨c,b,e⟩:=b;refine h.block d f ?_ ?_ ?_ (pj b ?_)
 ·rintro rfl;have:=b.one k;rcases e with rfl|rfl|rfl<;>exact absurd this zD
 ·rintro rfl;have:=b.one (n f);rcases e with rfl|rfl|rfl<;>exact absurd this zD
 ·rintro rfl;obtain⟨g,j⟩:=l f;exact j.noTag b
 ·rcases e with rfl|rfl|rfl<;>exact⟨zD,zD,zD⟩
theorem FrS.kp{mb:Nat}{w c:World}(h:FrS mb w c)(e:Tag w mb 99):Kp w c:=by
 intro b a;have d:b<w.heap.size:=by rcases a with a|a|a<;>exact a.lt
 refine h.block b d ?_;rintro rfl;rcases a with a|a|a<;>exact absurd (a.one e) zD
def bl(s:ByteArray):List UInt8:=s.data.toList
theorem fy(a b:ByteArray):bl (a++b)=bl a++bl b:=by simp[bl,ByteArray.data_append]
theorem gN{a b:ByteArray}(h:bl a=bl b):a=b:=by
 cases a;cases b;unfold bl at h;simp only at h;rw[Array.toList_inj.1 h]
theorem xM(a:ByteArray):a++(⟨#[]⟩:ByteArray)=a:=gN (by rw[fy];exact List.append_nil _)
theorem iO(a:ByteArray):(⟨#[]⟩:ByteArray)++a=a:=gN (by rw[fy];rfl)
theorem oT{t:Itm}(c:MayI t)(h:t.op≠4/\t.op≠5/\t.op≠6/\t.op≠8):bf t.name:=by
 obtain⟨d,-⟩:=MayI_iff.1 c;obtain⟨-,-,b,-⟩:=d;rcases b with⟨-,a⟩|⟨a,-⟩
 ·exact a
 ·exact absurd h a
theorem li{v:Int}(h:0<=v):bl (bn v)=Lib.decDigits v.toNat:=by
 unfold bn Lib.itoa bl;rw[if_neg zO]
theorem wf(l:List Sg)(g:Sg):bg (l++[g]) l.length=g:=by
 unfold bg;rw[List.getD_eq_getElem?_getD];simp
def ej(l:List Bnd)(o:ByteArray->Option X):ByteArray->Option X:=l.foldl (λo a=>av o a.name a.x) o
theorem pJ{d:ByteArray->Prop}{e:Int}:∀(l:List Bnd) (o c:ByteArray->Option X),ce d e (λx=>.ok x) l o=.ok c->c=ej l o
 |[],o,c,a=>by injection a with a;rw[<-a];rfl
 |b::l,o,c,a=>by
  rw[ce] at a;obtain⟨f,-,a⟩:=au a;exact pJ l (av o b.name b.x) c a
theorem mW{α:Type}{a:ByteArray->Prop}{e:Int}{val:X->Rs α}(b:Bnd)(l:List Bnd)(o:ByteArray->Option α)(h:o b.name=none/\a b.name):ce a e val (b::l) o=(do let v<-val b.x;ce a e val l (av o b.name v)):=by
 rw[ce];unfold aR;rw[if_pos h];rfl
theorem pG{α:Type}{a:ByteArray->Prop}{e:Int}{val:X->Rs α}(b:Bnd)(l:List Bnd)(o:ByteArray->Option α)(h:¬(o b.name=none/\a b.name)):ce a e val (b::l) o=.error e:=by
 rw[ce];unfold aR;rw[if_neg h];rfl
theorem yC{f:List Mdl}(h:dC f=0):f.length<=64/\ab ay f<=65536/\aj dV f<=64/\∀m,m∈f->dk m:=by
 unfold dC at h;split at h
 ·exact absurd h zD
 ·rename_i a
  rw[kv,yes_iff] at h;exact⟨zO,h⟩
theorem xe{x:X}(b:x.op=1)(e:x.w=0)(d:bF x.v)(a:MayX x)(s:Sc):aG s x=.ok x.v:=by
 obtain⟨⟨c,-⟩,-⟩:=MayX_iff.1 a;obtain⟨op,f,n,w,v,l⟩:=x;simp only[X.op,X.w,X.v,X.l] at b e d c⊢;subst b e;have i:l=[]:=by
  unfold en at c;exact cW zO
 subst i;have g:am (.mk 1 f n 0 v [])=1:=by rw[eC];rfl
 have h:bd (.mk 1 f n 0 v [])=1:=by rw[ip];rfl
 unfold aG bu;rw[if_pos (checkX_zero.2 ⟨by rw[g];decide,by rw[h];decide,a⟩),oO];unfold cA;rw[if_pos d];rfl
theorem fC(z:Int):MayX (.mk 1 ⟨#[]⟩ 0 0 z []):=.mk _ ⟨.inl ⟨.inl rfl,rfl⟩,.inr (.inr (.inr ⟨(show(1:Int)≠5/\(1:Int)≠6/\(1:Int)≠10 by decide),rfl⟩)),.inr ⟨rfl,(show(0:Int)<=0 by decide),(show(0:Int)<=64 by decide),.inl rfl⟩,.inr ⟨(show¬dQ 1 by unfold dQ;decide),rfl⟩⟩ (λb a=>by cases a)
theorem rL(m:Mdl):bU [m] m.name=some m:=by
 unfold bU;rw[List.find?_cons,yes_iff.2 rfl]
def aV:=@Chg.refl
def cC:=@Chg.setCell
def bR:=@FrI.of_ext
end Go.Proofs.YtlfmlodanoolhaaGreatDoor
