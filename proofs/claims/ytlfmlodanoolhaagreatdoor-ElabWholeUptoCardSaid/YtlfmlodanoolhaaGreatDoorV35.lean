import Derived.Lib.ItoaNum
import Derived.Test.YtlfmlodanoolhaaGreatDoorV32
import Derived.Test.YtlfmlodanoolhaaGreatDoorV33
import Derived.Test.YtlfmlodanoolhaaGreatDoorV15
import Derived.Test.YtlfmlodanoolhaaGreatDoorV5
set_option linter.all false
set_option maxRecDepth 200000
set_option maxHeartbeats 0
namespace Go.Proofs.YtlfmlodanoolhaaGreatDoor
section
open Go Go.RowKit Go.Proofs.Tryz
inductive DE where
 |mk (op w v sig hi lo n:Int) (l:List DE)
inductive DT where
 |mk (op sig hi lo:Int) (e:List DE) (l:List DT)
structure Sg where
 name:ByteArray
 w:Int
 kind:Int
 init:Int
structure Pc where
 clk:Bool
 l:List DT
structure Ck where
 name:ByteArray
 e:DE
structure Dsn where
 sigs:List Sg
 procs:List Pc
 chks:List Ck
structure Mk where
 d:Dsn
 count:Int
 bits:Int
structure Sc where
 env:List (ByteArray×Int)
 sigs:ByteArray->Option Int
 path:ByteArray
abbrev Rs(α:Type):=Except Int α
def DE.op:DE->Int|.mk op _ _ _ _ _ _ _=>op
def DE.w:DE->Int|.mk _ w _ _ _ _ _ _=>w
def DE.v:DE->Int|.mk _ _ v _ _ _ _ _=>v
def DE.sig:DE->Int|.mk _ _ _ s _ _ _ _=>s
def DE.hi:DE->Int|.mk _ _ _ _ h _ _ _=>h
def DE.lo:DE->Int|.mk _ _ _ _ _ l _ _=>l
def DE.n:DE->Int|.mk _ _ _ _ _ _ n _=>n
def DE.l:DE->List DE|.mk _ _ _ _ _ _ _ l=>l
def DT.op:DT->Int|.mk op _ _ _ _ _=>op
def DT.sig:DT->Int|.mk _ s _ _ _ _=>s
def DT.hi:DT->Int|.mk _ _ h _ _ _=>h
def DT.lo:DT->Int|.mk _ _ _ l _ _=>l
def DT.e:DT->List DE|.mk _ _ _ _ e _=>e
def DT.l:DT->List DT|.mk _ _ _ _ _ l=>l
def aU(p:Prop) [Decidable p](e:Int):Rs Unit:=if p then .ok () else .error e
def aW(n:Int)(m:Mk):Rs Mk:=if m.count+n<=65536 then .ok {m with count:=m.count+n} else .error 2
def az{α:Type}(f:ByteArray->Option α)(s:ByteArray)(z:α):ByteArray->Option α:=λa=>if s=a then some z else f a
def cI(a:ByteArray)(w kind b:Int)(s:Sc)(m:Mk):Rs (Sc×Mk):=
 if m.d.sigs.length<512/\m.bits+w<=4096 then
  .ok ({s with sigs:=az s.sigs a m.d.sigs.length},{m with bits:=m.bits+w,d:={m.d with sigs:=m.d.sigs++[⟨s.path++a,w,kind,b⟩]}})
 else .error 2
def ca(a:Bool)(l:List DT)(m:Mk):Rs Mk:=
 if m.d.procs.length<1024 then .ok {m with d:={m.d with procs:=m.d.procs++[⟨a,l⟩]}} else .error 2
def ofK(a:Int×Int):Rs Int:=if a.2=0 then .ok a.1 else .error a.2
noncomputable def aI(s:Sc)(x:X):Rs Int:=ofK (bA s.env x)
noncomputable def cj(s:Sc)(x:X):Rs Int:=ofK (hH s.env x)
noncomputable def eH(s:Sc)(x:X):Rs (Int×Int):=if(fX s.env x).2=0 then .ok (fX s.env x).1 else .error (fX s.env x).2
def dt(s:Sc)(b:ByteArray):Rs Int:=match s.sigs b with|some a=>.ok a|none=>.error 80
def aD(l:List Sg)(a:Int):Sg:=l.getD a.toNat ⟨⟨#[]⟩,0,0,0⟩
def xAt(l:List X)(i:Nat):X:=l.getD i (.mk 0 ⟨#[]⟩ 0 0 0 [])
noncomputable def bS(a:List Sg)(s:Sc)(x:X):Rs (Int×Int×Int):=do
 let at_<-dt s x.name
 let w:=(aD a at_).w
 if x.op=2 then
  let _<-aU (0<=w - 1/\w - 1<w) 84
  return(at_,w - 1,0)
 else
  let hi<-aI s (xAt x.l 0)
  let lo<-aI s (xAt x.l (x.l.length - 1))
  let _<-aU (0<=lo/\lo<=hi/\hi<w) 84
  return(at_,hi,lo)
def dg(a:Bool)(k:Int):Bool:=if a then k==4 else(k==3||k==2)
noncomputable def cJ(a:List Sg)(s:Sc)(b:Bool)(x:X):Rs (Int×Int×Int):=do
 let _<-aU (x.op=2\/x.op=3\/x.op=4) 85
 let r<-bS a s x
 let c:=(aD a r.1).kind
 let _<-aU (dg b c=true) 85
 return r
def cF:List (Rs (DE×Int))->Int->Rs (List DE×Int)
 |[],n=>.ok ([],n)
 |r::rs,n=>do
  let y<-r
  let z<-cF rs (min (n+y.2) 65537)
  return(y.1::z.1,z.2)
def df(a:DE×Int):Rs (DE×Int):=if a.2<=65536 then .ok a else .error 2
def opD(op:Int):Int:=if op=5 then 4 else if op=6 then 5 else if op=7 then 6 else if op=8 then 7 else 0
def fk(a:Int×Int×Int):DE:=.mk 2 0 0 a.1 a.2.1 a.2.2 0 []
def bR(w v:Int):DE:=.mk 1 w v 0 0 0 0 []
noncomputable def dn(c:List Sg)(s:Sc)(x:X)(b:List (Rs (DE×Int))):Rs (DE×Int):=
 if x.op=1 then .ok (bR x.w x.v,1)
 else if x.op=2 then match bF s.env x.name with
  |some v=>.ok (bR 0 v,1)
  |none=>do let r<-bS c s x;return(fk r,1)
 else if x.op=3 then do let r<-bS c s x;return(fk r,1)
 else if x.op=4 then do
  let a<-dt s x.name
  let z<-cF b 1
  df (.mk 3 0 0 a 0 0 0 z.1,z.2)
 else if x.op=9 then do
  let n<-aI s (xAt x.l 0)
  let _<-aU (1<=n/\n<=64) 83
  let y<-b.getD 1 (.error 0)
  df (.mk 7 0 0 0 0 0 0 (List.replicate n.toNat y.1),1+n*y.2)
 else if x.op=10 then do
  let w<-cj s (xAt x.l 0)
  let z<-cF (b.drop 1) 1
  df (.mk 8 w 0 0 0 0 x.n z.1,z.2)
 else do
  let z<-cF b 1
  df (.mk (opD x.op) 0 0 0 0 0 x.n z.1,z.2)
mutual
noncomputable def aC(a:List Sg)(s:Sc):X->Rs (DE×Int)
 |.mk op nm n w v l=>dn a s (.mk op nm n w v l) (kA a s l)
noncomputable def kA(a:List Sg)(s:Sc):List X->List (Rs (DE×Int))
 |[]=>[]
 |x::r=>aC a s x::kA a s r
end
theorem xA(a:List Sg)(s:Sc)(l:List X):kA a s l=l.map (aC a s):=by
 induction l with
 |nil=>rfl
 |cons x r ih=>simp[kA,ih]
theorem dI(a:List Sg)(s:Sc)(x:X):aC a s x=dn a s x (x.l.map (aC a s)):=by
 cases x;rw[aC,xA];rfl
noncomputable def aG(s:Sc)(x:X)(m:Mk):Rs (DE×Mk):=do
 let y<-aC m.d.sigs s x
 let m'<-aW y.2 m
 return(y.1,m')
def eb(a:Int×Int×Int)(e:DE):DT:=.mk 1 a.1 a.2.1 a.2.2 [e] []
noncomputable def cG(s:Sc)(a:Bool)(b x:X)(m:Mk):Rs (DT×Mk):=do
 let m1<-aW 1 m
 let r<-cJ m1.d.sigs s a b
 let y<-aG s x m1
 return(eb r y.1,y.2)
def bB{α:Type}:List (Mk->Rs (α×Mk))->Mk->Rs (List α×Mk)
 |[],m=>.ok ([],m)
 |f::fs,m=>do
  let y<-f m
  let z<-bB fs y.2
  return(y.1::z.1,z.2)
def eQ(body:Int->Mk->Rs (List DT×Mk)):Nat->Int->Mk->Rs (List DT×Mk)
 |0,_,m=>.ok ([],m)
 |n+1,v,m=>do
  let m1<-aW 1 m
  let y<-body v m1
  let z<-eQ body n (v+1) y.2
  return(y.1++z.1,z.2)
noncomputable def eu(s:Sc)(x:X)(m:Mk):Rs (DE×Mk):=do
 let b<-eH s x
 let m1<-aW 1 m
 return(bR b.1 b.2,m1)
def Sc.con(s:Sc)(a:ByteArray)(v:Int):Sc:={s with env:=s.env++[(a,v)]}
noncomputable def jC(x:S)(a:List (Sc->Mk->Rs (DT×Mk)))(s:Sc)(m:Mk):Rs (DT×Mk):=do
 let m1<-aW 1 m
 let y<-bB (x.x.map λl=>eu s l) m1
 let z<-bB (a.map λb=>b s) y.2
 return(.mk 4 0 0 0 y.1 z.1,z.2)
def fZ(f:Sc->Mk->Rs (DT×Mk))(s:Sc)(m:Mk):Rs (DT×Mk):=do
 let m1<-aW 1 m
 let y<-f s m1
 return(.mk 5 0 0 0 [] [y.1],y.2)
noncomputable def eR(g:Bool)(x:S)(d f:List (Sc->Mk->Rs (DT×Mk)))(s:Sc)(m:Mk):Rs (DT×Mk):=
 if x.op=1 then cG s g (xAt x.x 0) (xAt x.x 1) m
 else do
  let m1<-aW 1 m
  if x.op=5 then
   let z<-bB (d.map λc=>c s) m1
   return(.mk 5 0 0 0 [] z.1,z.2)
  else if x.op=6 then
   let a<-aI s (xAt x.x 0)
   let b<-aI s (xAt x.x 1)
   let z<-eQ (λv=>bB (d.map λc=>c (s.con x.name v))) (b - a).toNat a m1
   return(.mk 5 0 0 0 [] z.1,z.2)
  else if x.op=3 then
   let y<-aG s (xAt x.x 0) m1
   let z<-bB (f.map λc=>c s) y.2
   return(.mk 3 0 0 0 [y.1] z.1,z.2)
  else if x.op=2 then
   let y<-aG s (xAt x.x 0) m1
   let z<-bB ((x.l.zip d).map λe=>if e.1.op=2 then fZ e.2 s else e.2 s) y.2
   return(.mk 2 0 0 0 [y.1] z.1,z.2)
  else return(.mk 5 0 0 0 [] [],m1)
mutual
noncomputable def aK(a:Bool):S->Sc->Mk->Rs (DT×Mk)
 |.mk op nm x l=>eR a (.mk op nm x l) (jo a l) (jE a l)
noncomputable def cz(a:Bool):S->Sc->Mk->Rs (DT×Mk)
 |.mk op nm x l=>jC (.mk op nm x l) (jo a l)
noncomputable def jo(a:Bool):List S->List (Sc->Mk->Rs (DT×Mk))
 |[]=>[]
 |x::r=>aK a x::jo a r
noncomputable def jE(a:Bool):List S->List (Sc->Mk->Rs (DT×Mk))
 |[]=>[]
 |x::r=>cz a x::jE a r
end
theorem rQ(a:Bool)(l:List S):jo a l=l.map (aK a):=by
 induction l with
 |nil=>rfl
 |cons x r ih=>simp[jo,ih]
theorem uC(a:Bool)(l:List S):jE a l=l.map (cz a):=by
 induction l with
 |nil=>rfl
 |cons x r ih=>simp[jE,ih]
theorem fu(a:Bool)(x:S):aK a x=eR a x (x.l.map (aK a)) (x.l.map (cz a)):=by
 cases x;rw[aK,rQ,uC];rfl
theorem jF(a:Bool)(x:S):cz a x=jC x (x.l.map (aK a)):=by
 cases x;rw[cz,rQ];rfl
noncomputable def bC(a:Bool)(s:Sc)(l:List S)(m:Mk):Rs (List DT×Mk):=bB (l.map λx=>aK a x s) m
def ff(body:Int->Mk->Rs Mk):Nat->Int->Mk->Rs Mk
 |0,_,m=>.ok m
 |n+1,v,m=>do
  let m1<-aW 1 m
  let m2<-body v m1
  ff body n (v+1) m2
def cT(n:Int):ByteArray:=⟨(Go.Lib.itoa n).toArray⟩
def tDot:ByteArray:=⟨#[46]⟩
def tOpen:ByteArray:=⟨#[91]⟩
def tShut:ByteArray:=⟨#[93,46]⟩
def Sc.pass(s:Sc)(a of:ByteArray)(v:Int):Sc:=⟨s.env++[(of,v)],s.sigs,s.path++(a++tOpen++cT v++tShut)⟩
mutual
noncomputable def aF(inst:Itm->Sc->Mk->Rs Mk):Itm->Sc->Mk->Rs (Sc×Mk)
 |.mk op nm of x st l els ps bs,s,m=>
  if op=1 then do let v<-aI s (xAt x 0);return(s.con nm v,m)
  else if op=2 then do let w<-cj s (xAt x 0);cI nm w 3 0 s m
  else if op=3 then do
   let w<-cj s (xAt x 0)
   let b<-eH s (xAt x 1)
   cI nm w 4 b.2 s m
  else if op=4 then do
   let y<-cG s false (xAt x 0) (xAt x 1) m
   let m2<-ca false [y.1] y.2
   return(s,m2)
  else if op=5\/op=6 then do
   let y<-bC (decide (op=6)) s st m
   let m2<-ca (decide (op=6)) y.1 y.2
   return(s,m2)
  else if op=10 then do
   let y<-aG s (xAt x 0) m
   return(s,{y.2 with d:={y.2.d with chks:=y.2.d.chks++[⟨s.path++nm,y.1⟩]}})
  else if op=7 then do let m2<-inst (.mk op nm of x st l els ps bs) s m;return(s,m2)
  else if op=8 then do
   let v<-aI s (xAt x 0)
   if v≠0 then aZ inst l s m else aZ inst els s m
  else if op=9 then do
   let a<-aI s (xAt x 0)
   let b<-aI s (xAt x 1)
   let m2<-ff (λv c=>do let z<-aZ inst l (s.pass nm of v) c;return z.2) (b - a).toNat a m
   return(s,m2)
  else return(s,m)
noncomputable def aZ(inst:Itm->Sc->Mk->Rs Mk):List Itm->Sc->Mk->Rs (Sc×Mk)
 |[],s,m=>.ok (s,m)
 |t::r,s,m=>do
  let m1<-aW 1 m
  let z<-aF inst t s m1
  aZ inst r z.1 z.2
end
noncomputable def bT{α:Type}(a:ByteArray->Prop)(e:Int)(val:X->Rs α):List Bnd->(ByteArray->Option α)->Rs (ByteArray->Option α)
 |[],out=>.ok out
 |b::r,out=>do
  let _<-@aU (out b.name=none/\a b.name) (Classical.propDecidable _) e
  let v<-val b.x
  bT a e val r (az out b.name v)
noncomputable def cH(aB:ByteArray->Option Int):List Bnd->Sc->Rs Sc
 |[],s=>.ok s
 |p::r,s=>do
  let v<-match aB p.name with|some v=>.ok v|none=>aI s p.x
  cH aB r (s.con p.name v)
noncomputable def ci(kind:Prt->Int):List Prt->Sc->Mk->Rs (Sc×Mk)
 |[],s,m=>.ok (s,m)
 |p::r,s,m=>do
  let w<-cj s p.w
  let z<-cI p.name w (kind p) 0 s m
  ci kind r z.1 z.2
noncomputable def dN(of:Mdl)(aB:ByteArray->Option Int)(a:ByteArray)(kind:Prt->Int)(m:Mk):Rs (Sc×Mk):=do
 let s<-cH aB of.params ⟨[],λ_=>none,a⟩
 ci kind of.ports s m
def fW(b:List Sg)(a:Int):DE:=.mk 2 0 0 a ((aD b a).w - 1) 0 0 []
noncomputable def co(s b:Sc)(a:ByteArray->Option X):List Prt->Mk->Rs Mk
 |[],m=>.ok m
 |p::r,m=>if p.o=true then co s b a r m else do
  let m1<-aW 1 m
  let c:=(b.sigs p.name).getD 0
  let y<-aG s ((a p.name).getD (.mk 0 ⟨#[]⟩ 0 0 0 [])) m1
  let m2<-ca false [.mk 1 c ((aD m1.d.sigs c).w - 1) 0 [y.1] []] y.2
  co s b a r m2
noncomputable def bZ(s:Sc)(b:ByteArray->Option Int)(a:ByteArray->Option X):List Prt->Mk->Rs Mk
 |[],m=>.ok m
 |p::r,m=>match a p.name,p.o with
  |some x,true=>do
   let m1<-aW 1 m
   let t<-cJ m1.d.sigs s false x
   let m2<-aW 1 m1
   let c:=(b p.name).getD 0
   let m3<-ca false [eb t (fW m2.d.sigs c)] m2
   bZ s b a r m3
  |_,_=>bZ s b a r m
noncomputable def dp(a:ByteArray->Option X):List Prt->Rs Unit
 |[]=>.ok ()
 |p::r=>do
  let _<-aU ((a p.name).isSome=true\/p.o=true) 81
  dp a r
noncomputable def cf(f:List Mdl):Nat->Itm->Sc->Mk->Rs Mk
 |0,_,_,_=>.error 0
 |k+1,t,s,m=>do
  let of:=(ce f t.of).getD ⟨⟨#[]⟩,[],[],[]⟩
  let aB<-bT (λa=>∃b,b∈of.params/\b.name=a) 82 (λx=>aI s x) t.params (λ_=>none)
  let ends<-bT (λa=>∃c,c∈of.ports/\c.name=a) 81 (λx=>.ok x) t.binds (λ_=>none)
  let _<-dp ends of.ports
  let h<-dN of aB (s.path++t.name++tDot) (λ_=>3) m
  let m1<-co s h.1 ends of.ports h.2
  let z<-aZ (cf f k) of.items h.1 m1
  bZ s h.1.sigs ends of.ports z.2
noncomputable def dr(of:Mdl):List (ByteArray×Int)->(ByteArray->Option Int)->Rs (ByteArray->Option Int)
 |[],out=>.ok out
 |p::r,out=>do
  let _<-@aU (out p.1=none/\∃a,a∈of.params/\a.name=p.1) (Classical.propDecidable _) 82
  let _<-aU (0<=p.2/\p.2<=2147483647) 62
  dr of r (az out p.1 p.2)
def noMk:Mk:=⟨⟨[],[],[]⟩,0,0⟩
noncomputable def bQ(f:List Mdl)(b:ByteArray)(ps:List (ByteArray×Int)):Rs Dsn:=
 if cC f≠0 then .error (cC f) else match ce f b with
 |none=>.error 71
 |some of=>do
  let aB<-dr of ps (λ_=>none)
  let h<-dN of aB ⟨#[]⟩ (λa=>if a.o=true then 2 else 1) noMk
  let z<-aZ (cf f f.length) of.items h.1 h.2
  return z.2.d
noncomputable def bh(f:List Mdl)(a:ByteArray)(ps:List (ByteArray×Int)):Dsn×Int:=match bQ f a ps with
 |.ok d=>(d,0)
 |.error e=>(⟨[],[],[]⟩,e)
def Tag(w:World)(b:Nat)(T:TypeId):Prop:=∃a c,w.heap[b]? =some (.cells a T c)
theorem Tag.one{w:World}{b:Nat}{T a:TypeId}(h:Tag w b T)(k:Tag w b a):T=a:=by
 obtain⟨c,e,h⟩:=h;obtain⟨d,f,k⟩:=k;rw[h] at k;injection k with k;injection k
theorem Blk.tag{w:World}{g:Nat}{t:TypeId}{a:List Value}(h:Blk w g t a):Tag w g t:=⟨_,_,h⟩
theorem Tag.lt{w:World}{b:Nat}{T:TypeId}(h:Tag w b T):b<w.heap.size:=by
 obtain⟨a,c,h⟩:=h;exact(y7n.1 h).1
theorem Tag.of_eq{w a:World}{b:Nat}{T:TypeId}(h:Tag w b T)(d:a.heap[b]? =w.heap[b]?):Tag a b T:=by
 obtain⟨c,e,h⟩:=h;exact⟨c,e,d.trans h⟩
theorem MV.noTag{w:World}{m:Nat}{a:List (Value×Value)}(h:MV w m a){T:TypeId}(k:Tag w m T):False:=by
 obtain⟨d,c,h,-⟩:=h;obtain⟨b,e,k⟩:=k;rw[h] at k;cases k
def SlT{α:Type}(T:TypeId)(R:α->List Value->Prop)(w:World)(f:Nat)(l:List α)(v:Value):Prop:=
 ∃d e,v=.slice d l.length e/\l.length<=e/\∀c,(g:c<l.length)->∃b o a,d=some ⟨b,o,none⟩/\Tag w b T/\a.length=f/\Cells w b (o+c*f) a/\(∀v,v∈a->v.oneCell'=true)/\R l[c] a
def Kp(w b:World):Prop:=∀a,(Tag w a 60\/Tag w a 73\/Tag w a 85)->b.heap[a]? =w.heap[a]?
theorem Ext.kp{w b:World}(h:Ext w b):Kp w b:=λc a=>by
 have d:c<w.heap.size:=by rcases a with a|a|a<;>exact a.lt
 exact h.heap d
def dx(T:TypeId):Prop:=T=60\/T=73\/T=85
theorem Kp.at_{w c:World}(h:Kp w c){b:Nat}{T:TypeId}(d:dx T)(a:Tag w b T):c.heap[b]? =w.heap[b]? :=by
 rcases d with rfl|rfl|rfl
 ·exact h b (.inl a)
 ·exact h b (.inr (.inl a))
 ·exact h b (.inr (.inr a))
theorem SlT.keep{α:Type}{T:TypeId}{R e:α->List Value->Prop}{w n:World}{c:Nat}{l:List α}{v:Value}(h:SlT T R w c l v)(x:dx T)(z:Kp w n)(t:∀d,d∈l->∀b,R d b->e d b):SlT T e n c l v:=by
 obtain⟨p,q,D,y,B⟩:=h;refine⟨p,q,D,y,λm i=>?_⟩;obtain⟨f,o,b,ha,j,A,s,r,u⟩:=B m i;have g:=z.at_ x j;exact⟨f,o,b,ha,j.of_eq g,A,λk E C=>(ek (a:=⟨f,o+m*c+k,none⟩) g).trans (s k E C),r,t _ (an i) _ u⟩
theorem SlT.nil{α:Type}{T:TypeId}{R:α->List Value->Prop}{w:World}{b:Nat}:SlT T R w b [] (.slice none 0 0):=⟨none,0,rfl,ac _,λc a=>absurd a zS⟩
theorem SlT.oneCell{α:Type}{T:TypeId}{R:α->List Value->Prop}{w:World}{a:Nat}{l:List α}{v:Value}(h:SlT T R w a l v):v.oneCell'=true:=by
 obtain⟨b,c,rfl,_,_⟩:=h;rfl
theorem SlT.form{α:Type}{T:TypeId}{R:α->List Value->Prop}{w:World}{d:Nat}{l:List α}{v:Value}(h:SlT T R w d l v):∃a b,v=.slice a l.length b:=by
 obtain⟨a,b,c,_,_⟩:=h;exact⟨a,b,c⟩
theorem SlT.sl{α:Type}{T:TypeId}{R:α->List Value->Prop}{w:World}{a:Nat}{l:List α}{v:Value}(h:SlT T R w a l v):Sl R w w.heap.size a l v:=by
 obtain⟨b,d,q,j,n⟩:=h;refine⟨b,d,q,j,λr m=>?_⟩;obtain⟨c,o,e,ha,p,k,g,f,i⟩:=n r m;exact⟨c,o,e,ha,p.lt,k,g,f,i⟩
theorem OwnL.slT{α:Type}{R:α->List Value->Prop}{base:Nat}{e:TypeId}{c:Nat}{l:List α}{v:Value}{X:World}(u:0<c)(h:OwnL R base e c l v X):SlT e R X c l v:=by
 obtain⟨f,i,b,p,t⟩:=h.sl u;obtain⟨B,s,-⟩:=h.ex;refine⟨f,i,b,p,λw r=>?_⟩;obtain⟨g,o,j,ha,A,q,m,k,n⟩:=t w r;refine⟨g,o,j,ha,?_,q,m,k,n⟩;rcases s.2 with⟨a,d⟩|⟨z,x,y,a,-,d,-⟩
 ·rw[b] at a;injection a with a;rw[ha] at a;cases a
 ·rw[b,ha] at a;injection a with a;injection a with a;injection a with a;subst a;exact⟨_,_,d⟩
theorem xc(b:Addr):b.add 0=b:=by unfold Addr.add;simp
theorem Bk(a:Option Addr)(n s:Nat):Go.sliced a 0 n n s=.slice a n n:=by
 unfold Go.sliced
 congr 1
 split
 ·rfl
 ·cases a with
  |none=>rfl
  |some b=>simp[xc]
theorem uT{P:Program}(w:World)(t ty e:TypeId)(i:TypeInfo)(z:Value)(size bytes:Nat)(ht:P.underlying t=some (.slice e))(hi:P.info? e=some i)(C:i.zero=some z)
 (L:i.size=size) (F:i.bytes=bytes) (M:z.cells.size=size) (r:bytes<=1000)
 (l:Option Addr) (n:Nat) (xs:List Value) (d:Flat w size l n xs) (j:Addr) (m p:Nat) (b:List Value) (k:b.length=m*size) (A:∀f g,b[f]? =some g->w.cell? (j.add f)=some g)
 (Q:n<=1000000000) (O:m<=1000000000) (h0:0<m):
 ∃D u,(Builtin.append_ #[t,t] ty #[.slice l n n,.slice (some j) m p]).run P w=.ok D u/\u.ownsRow w.heap.size e size D (n+m) (xs++b)/\Ext w u:=by
 subst L;subst F;have y:(xs++b).length=(n+m)*i.size:=by rw[List.length_append,d.1,k,Nat.add_mul]
 have x:(n+m)*i.bytes<=140737488355328:=by
  calc (n+m)*i.bytes<=2000000000*1000:=Nat.mul_le_mul zO r
   _<=140737488355328:=by decide
 have E:n+m<=maxLen:=by simp only[maxLen];omega
 have grown:∀(c:Nat),c<n+m->
  (w.drew.alloc (.cells (xs.toArray++b.toArray++Builtin.zeroCells z.cells (grownCap w (n+m) c e - (n+m))) e)).ownsRow w.heap.size e i.size
    (.slice (some ⟨w.heap.size,0,none⟩) (n+m) (grownCap w (n+m) c e)) (n+m) (xs++b)/\
  Ext w (w.drew.alloc (.cells (xs.toArray++b.toArray++Builtin.zeroCells z.cells (grownCap w (n+m) c e - (n+m))) e)):=by
  intro c R;have I:=grownCap_ge w (n+m) c e;have H:grownCap w (n+m) c e<=maxLen:=grownCap_le_maxLen w (n+m) c e E;refine⟨⟨y,.inr ⟨w.heap.size,_,_,rfl,ac _,heap_alloc_new w.drew _,I,H,?_,?_⟩⟩,((af w).drew).alloc _⟩
  ·simp only[Array.size_append,List.size_toArray,size_zeroCells,M,d.1,k,<-Nat.add_mul]
   congr 1
   omega
  ·simp only[Array.toList_append,List.append_assoc];rw[<-List.append_assoc,<-y];exact List.take_left
 rcases l with _|v
 ·have J:n=0:=by
   rcases Nat.eq_zero_or_pos n with a|a
   ·exact a
   ·obtain⟨_,_,a,_⟩:=d.2.2 a;cases a
  subst J;obtain rfl:xs=[]:=dl (by simpa using d.1);have s:=run_append_nil (P:=P) w t ty e i z ht hi C j m p b k A h0 zO (by have r:=x;simp only[Nat.zero_add] at r;omega);have h:=grown 0 zO;simp only[Nat.zero_add,List.nil_append,Array.empty_append] at h⊢;exact⟨_,_,s,h.1,h.2⟩
 ·have K:∀f g,xs[f]? =some g->w.cell? (v.add f)=some g:=by
   intro f g B;rcases Nat.eq_zero_or_pos n with a|a
   ·subst a;obtain rfl:xs=[]:=dl (by simpa using d.1);simp at B
   ·obtain⟨N,o,q,G⟩:=d.2.2 a;injection q with q;subst q;rw[fv];exact G f g B
  have s:=run_append_grow (P:=P) w t ty e i z ht hi C v n n xs d.1 K j m p b k A zO zO (growslice_fits zO x);have h:=grown n zO;exact⟨_,_,s,h.1,h.2⟩
theorem va{P:Program}{w:World}{ops:Array Oper}{l:List Oper}{o:Oper}{a:Act}{Q:Exit->Act->World->Prop}(y:o.guard=none)(s x:Operand)(t:TypeId)
 (E:o.op=.call {callee:=.builtin .append,args:=#[s,x],argTypes:=#[t,t]})
 (e:TypeId) (i:TypeInfo) (z:Value) (size bytes:Nat) (ht:P.underlying t=some (.slice e)) (hi:P.info? e=some i) (L:i.zero=some z)
 (H:i.size=size) (v:i.bytes=bytes) (M:z.cells.size=size) (u:bytes<=1000)
 (g:Option Addr) (n:Nat) (xs:List Value) (G:a.eval s=.slice g n n) (K:Flat w size g n xs)
 (b j m k:Nat) (d:List Value) (J:a.eval x=.slice (some ⟨b,j,none⟩) m k) (A:d.length=m*size) (D:Cells w b j d)
 (C:n<=1000000000) (B:m<=1000000000) (h0:0<m)
 (h:∀f c,c.ownsRow w.heap.size e size f (n+m) (xs++d)->Ext w c->wpList P ops Q l (a.put o.dst f) c):wpList P ops Q (o::l) a w:=
 wpList_plain y λ_ r=>by
  obtain⟨f,c,F,p,q⟩:=uT (P:=P) w t o.type e i z size bytes ht hi L H v M u g n xs K ⟨b,j,none⟩ m k d A (λN O I=>by rw[fv];exact D N O I) C B h0;unfold Oper.wp execOp;simp only[E,resolve,invoke,builtin,Sem.run_bind,Sem.run_pure,Result.andThen_ok,List.map_toArray,List.map_cons,List.map_nil,G,J,F];exact r _ _ (h f c p q)
def RE8(w:World):DE->List Value->Prop
 |.mk op wd v sig hi lo n l,cs=>∃d e,cs=[.int .i64 op,.int .i64 wd,.int .u64 v,.int .i64 sig,.int .i64 hi,.int .i64 lo,.int .i64 n,.slice d l.length e]/\l.length<=e/\
   ∀c,(f:c<l.length)->∃b o a,d=some ⟨b,o,none⟩/\Tag w b 60/\a.length=8/\Cells w b (o+c*8) a/\(∀v,v∈a->v.oneCell'=true)/\RE8 w l[c] a
termination_by x=>SizeOf.sizeOf x
decreasing_by
 have:=List.sizeOf_lt_of_mem (an f);simp only[DE.mk.sizeOf_spec];omega
theorem RE8_iff{w:World}{x:DE}{f:List Value}:
 RE8 w x f↔∃v,f=[.int .i64 x.op,.int .i64 x.w,.int .u64 x.v,.int .i64 x.sig,.int .i64 x.hi,.int .i64 x.lo,.int .i64 x.n,v]/\SlT 60 (RE8 w) w 8 x.l v:=by
 obtain⟨op,g,v,sig,hi,lo,n,l⟩:=x;rw[RE8];constructor
 ·rintro⟨a,b,c,d,e⟩;exact⟨_,c,a,b,rfl,d,e⟩
 ·rintro⟨_,c,a,b,rfl,d,e⟩;exact⟨a,b,c,d,e⟩
mutual
theorem DE.ind{P:DE->Prop}(h:∀x,(∀a,a∈x.l->P a)->P x):∀x,P x
 |.mk op w v sig hi lo n l=>h _ (DE.indL h l)
theorem DE.indL{P:DE->Prop}(h:∀x,(∀b,b∈x.l->P b)->P x):∀(l:List DE) (b:DE),b∈l->P b
 |[],_,hy=>by cases hy
 |a::r,b,hy=>by
  cases hy with
  |head=>exact DE.ind h a
  |tail _ ht=>exact DE.indL h r b ht
end
mutual
theorem DT.ind{P:DT->Prop}(h:∀x,(∀a,a∈x.l->P a)->P x):∀x,P x
 |.mk op sig hi lo e l=>h _ (DT.indL h l)
theorem DT.indL{P:DT->Prop}(h:∀x,(∀b,b∈x.l->P b)->P x):∀(l:List DT) (b:DT),b∈l->P b
 |[],_,hy=>by cases hy
 |a::r,b,hy=>by
  cases hy with
  |head=>exact DT.ind h a
  |tail _ ht=>exact DT.indL h r b ht
end
theorem RE8.keep{w b:World}(d:Kp w b)(x:DE):∀a,RE8 w x a->RE8 b x a:=by
 induction x using DE.ind with
 |h x ih=>
  intro a c;obtain⟨v,rfl,e⟩:=RE8_iff.1 c;exact RE8_iff.2 ⟨v,rfl,e.keep (.inl rfl) d ih⟩
theorem RE8.one{w:World}{x:DE}{b:List Value}(h:RE8 w x b):∀a,a∈b->a.oneCell'=true:=by
 obtain⟨v,rfl,d⟩:=RE8_iff.1 h;intro a c;simp only[List.mem_cons,List.not_mem_nil,or_false] at c;rcases c with rfl|rfl|rfl|rfl|rfl|rfl|rfl|rfl<;>first|rfl|exact d.oneCell
theorem RE8.len{w:World}{x:DE}{a:List Value}(h:RE8 w x a):a.length=8:=by
 obtain⟨v,rfl,b⟩:=RE8_iff.1 h;rfl
def RT6(w:World):DT->List Value->Prop
 |.mk op sig hi lo e l,cs=>∃g,SlT 60 (RE8 w) w 8 e g/\∃d f,cs=[.int .i64 op,.int .i64 sig,.int .i64 hi,.int .i64 lo,g,.slice d l.length f]/\l.length<=f/\
   ∀c,(h:c<l.length)->∃b o a,d=some ⟨b,o,none⟩/\Tag w b 73/\a.length=6/\Cells w b (o+c*6) a/\(∀v,v∈a->v.oneCell'=true)/\RT6 w l[c] a
termination_by x=>SizeOf.sizeOf x
decreasing_by
 have:=List.sizeOf_lt_of_mem (an h);simp only[DT.mk.sizeOf_spec];omega
theorem RT6_iff{w:World}{x:DT}{h:List Value}:
 RT6 w x h↔∃i j,h=[.int .i64 x.op,.int .i64 x.sig,.int .i64 x.hi,.int .i64 x.lo,i,j]/\SlT 60 (RE8 w) w 8 x.e i/\SlT 73 (RT6 w) w 6 x.l j:=by
 obtain⟨op,sig,hi,lo,e,l⟩:=x;rw[RT6];constructor
 ·rintro⟨k,c,a,b,d,f,g⟩;exact⟨_,_,d,c,a,b,rfl,f,g⟩
 ·rintro⟨_,_,d,c,a,b,rfl,f,g⟩;exact⟨_,c,a,b,d,f,g⟩
theorem RT6.keep{w c:World}(b:Kp w c)(x:DT):∀a,RT6 w x a->RT6 c x a:=by
 induction x using DT.ind with
 |h x ih=>
  intro a d;obtain⟨g,i,rfl,e,f⟩:=RT6_iff.1 d;exact RT6_iff.2 ⟨g,i,rfl,e.keep (.inl rfl) b (λj _=>RE8.keep b j),f.keep (.inr (.inl rfl)) b ih⟩
theorem RT6.one{w:World}{x:DT}{b:List Value}(h:RT6 w x b):∀a,a∈b->a.oneCell'=true:=by
 obtain⟨f,g,rfl,d,e⟩:=RT6_iff.1 h;intro a c;simp only[List.mem_cons,List.not_mem_nil,or_false] at c;rcases c with rfl|rfl|rfl|rfl|rfl|rfl<;>first|rfl|exact d.oneCell|exact e.oneCell
theorem RT6.len{w:World}{x:DT}{a:List Value}(h:RT6 w x a):a.length=6:=by
 obtain⟨b,c,rfl,-,-⟩:=RT6_iff.1 h;rfl
def SlE8(w:World)(l:List DE)(v:Value):Prop:=SlT 60 (RE8 w) w 8 l v
def SlT6(w:World)(l:List DT)(v:Value):Prop:=SlT 73 (RT6 w) w 6 l v
theorem SlE8.keep{w b:World}{l:List DE}{v:Value}(h:SlE8 w l v)(a:Kp w b):SlE8 b l v:=SlT.keep h (.inl rfl) a (λc _=>RE8.keep a c)
theorem SlT6.keep{w b:World}{l:List DT}{v:Value}(h:SlT6 w l v)(a:Kp w b):SlT6 b l v:=SlT.keep h (.inr (.inl rfl)) a (λc _=>RT6.keep a c)
def RSg(x:Sg)(a:List Value):Prop:=a=[.string x.name,.int .i64 x.w,.int .i64 x.kind,.int .u64 x.init]
def RPc(w:World)(x:Pc)(a:List Value):Prop:=∃v,a=[.bool x.clk,v]/\SlT6 w x.l v
def RCk(w:World)(x:Ck)(b:List Value):Prop:=∃a,b=.string x.name::a/\RE8 w x.e a
theorem RPc.keep{w b:World}(d:Kp w b)(x:Pc):∀a,RPc w x a->RPc b x a:=by
 rintro a ⟨v,rfl,c⟩;exact⟨v,rfl,c.keep d⟩
theorem RCk.keep{w b:World}(d:Kp w b)(x:Ck):∀a,RCk w x a->RCk b x a:=by
 rintro a ⟨v,rfl,c⟩;exact⟨v,rfl,RE8.keep d _ _ c⟩
structure ScI(w:World)(sb mp:Nat)(ve:Value)(s:Sc):Prop where
 blk:Blk w sb 126 [ve,.map (some mp),.string s.path]
 env:SlT 85 RNm w 2 s.env ve
 map:EnvM w mp s.sigs
theorem EnvM.lt{w:World}{m:Nat}{env:ByteArray->Option Int}(h:EnvM w m env):m<w.heap.size:=by
 obtain⟨a,h,-⟩:=h;exact h.lt
theorem EnvM.of_eq{w a:World}{m:Nat}{env:ByteArray->Option Int}(h:EnvM w m env)(j:a.heap[m]? =w.heap[m]?):EnvM a m env:=by
 obtain⟨b,⟨d,c,i,g⟩,e,f⟩:=h;exact⟨b,⟨d,c,j.trans i,g⟩,e,f⟩
theorem EnvM.noTag{w:World}{m:Nat}{env:ByteArray->Option Int}(h:EnvM w m env){T:TypeId}(k:Tag w m T):False:=by
 obtain⟨a,h,-⟩:=h;exact h.noTag k
structure MkI(w:World)(N0 mb:Nat)(vf vs vp vc:Value)(m:Mk):Prop where
 blk:Blk w mb 99 [vf,vs,vp,vc,.int .i64 m.count,.int .i64 m.bits]
 sig:OwnL RSg N0 57 4 m.d.sigs vs w
 prc:OwnL (RPc w) N0 70 2 m.d.procs vp w
 chk:OwnL (RCk w) N0 62 9 m.d.chks vc w
 base:N0<=mb
structure Chg(X:Nat->Prop)(w w':World):Prop where
 os:w'.os=w.os
 tape:w'.tape=w.tape
 output:w'.output=w.output
 size:w.heap.size<=w'.heap.size
 block:∀k,k<w.heap.size->¬X k->w'.heap[k]? =w.heap[k]?
theorem Chg.refl(X:Nat->Prop)(w:World):Chg X w w:=⟨rfl,rfl,rfl,ac _,λ_ _ _=>rfl⟩
theorem Chg.trans{X:Nat->Prop}{a b c:World}(h:Chg X a b)(k:Chg X b c):Chg X a c:=
 ⟨k.os.trans h.os,k.tape.trans h.tape,k.output.trans h.output,ad h.size k.size,λe hi d=>(k.block e (aQ hi h.size) d).trans (h.block e hi d)⟩
theorem Chg.mono{X Y:Nat->Prop}{w c:World}(h:Chg X w c)(d:∀a,a<w.heap.size->X a->Y a):Chg Y w c:=
 ⟨h.os,h.tape,h.output,h.size,λb hi f=>h.block b hi λe=>f (d b hi e)⟩
theorem Ext.chg{X:Nat->Prop}{w a:World}(h:Ext w a):Chg X w a:=⟨h.os,h.tape,h.output,h.size,λc b _=>h.block c b⟩
theorem Chg.ext{X:Nat->Prop}{a w e:World}(h:Chg X w e)(b:Ext a w)(f:∀c,X c->a.heap.size<=c):Ext a e:=
 ⟨h.os.trans b.os,h.tape.trans b.tape,h.output.trans b.output,ad b.size h.size,λc d=>(h.block c (aQ d b.size) λg=>absurd (f c g) zO).trans (b.block c d)⟩
theorem Chg.cell{X:Nat->Prop}{w b:World}(h:Chg X w b){p:Addr}{v:Value}(a:w.cell? p=some v)(c:¬X p.block):b.cell? p=some v:=by
 refine(ek (h.block _ ?_ c)).trans a;rcases Nat.lt_or_ge p.block w.heap.size with e|d
 ·exact e
 ·rw[World.cell?,Array.getElem?_eq_none d] at a;cases a
theorem Chg.blk{X:Nat->Prop}{w c:World}(h:Chg X w c){g:Nat}{t:TypeId}{a:List Value}(b:Blk w g t a)(d:¬X g):Blk c g t a:=(h.block g b.lt d).trans b
theorem Chg.drew{X:Nat->Prop}{a w:World}(h:Chg X a w):Chg X a w.drew:=⟨h.os,h.tape,h.output,h.size,h.block⟩
theorem Chg.setCell{X:Nat->Prop}{a w:World}(h:Chg X a w){p:Addr}(f:X p.block)(u:Value):Chg X a (w.setCell p u):=
 ⟨h.os,h.tape,h.output,by simpa [World.setCell] using h.size,λc d b=>(Below.heap_setCell w p u c (λe=>b (by rw[e];exact f))).trans (h.block c d b)⟩
theorem Chg.grown{X:Nat->Prop}{a w i:World}{g:Option Nat}(h:Chg X a w)(c:w.grownBy i g)(j:∀b,g=some b->b<a.heap.size->X b):Chg X a i:=
 ⟨c.os.trans h.os,c.tape.trans h.tape,c.output.trans h.output,ad h.size c.size,λb d f=>(c.block b (aQ d h.size) (λe=>f (j b e.symm d))).trans (h.block b d f)⟩
theorem Chg.kp{X:Nat->Prop}{w g:World}(h:Chg X w g)(i:∀b,X b->b<w.heap.size->∃c,Tag w b c/\¬dx c):Kp w g:=by
 intro b a;have f:b<w.heap.size:=by rcases a with a|a|a<;>exact a.lt
 refine h.block b f λj=>?_
 obtain⟨c,d,e⟩:=i b j f;rcases a with a|a|a
 ·exact e (.inl (d.one a))
 ·exact e (.inr (.inl (d.one a)))
 ·exact e (.inr (.inr (d.one a)))
theorem uo{w:World}{base:Nat}{t:TypeId}{c n:Nat}{v:Value}{xs:List Value}(h:w.ownsRow base t c v n xs):∃b a,v=.slice b n a:=by
 rcases h.2 with⟨rfl,rfl⟩|⟨e,a,d,rfl,-⟩<;>exact⟨_,_,rfl⟩
theorem tp{w:World}{base:Nat}{v:Value}{a:ByteArray}{z:Int}{xs:List Value}{env:List (ByteArray×Int)}(h:w.ownsRow base 85 2 v (env.length+1) (xs++[.string a,.int .i64 z]))(hF:Fl RNm 2 env xs):SlT 85 RNm w 2 (env++[(a,z)]) v:=
 OwnL.slT zD ⟨_,by rw[List.length_append];exact h,hF.append (Fl.one_ (x:=(a,z)) rfl (by intro c b;simp at b;rcases b with rfl|rfl<;>rfl) rfl)⟩
abbrev FrS(mb:Nat):World->World->Prop:=Chg (λa=>a=mb)
def RowTy(w:World)(N0 b:Nat):Prop:=N0<=b/\(Tag w b 57\/Tag w b 70\/Tag w b 62)
structure FrI(N0 mb sb mp:Nat)(w w':World):Prop where
 os:w'.os=w.os
 tape:w'.tape=w.tape
 output:w'.output=w.output
 size:w.heap.size<=w'.heap.size
 block:∀k,k<w.heap.size->k≠mb->k≠sb->k≠mp->¬RowTy w N0 k->w'.heap[k]? =w.heap[k]?
theorem RowTy.of_eq{w a:World}{N0 b:Nat}(c:a.heap[b]? =w.heap[b]?):RowTy a N0 b↔RowTy w N0 b:=by
 unfold RowTy Tag;rw[c]
theorem FrI.refl(N0 mb sb mp:Nat)(w:World):FrI N0 mb sb mp w w:=⟨rfl,rfl,rfl,ac _,λ_ _ _ _ _ _=>rfl⟩
theorem FrI.trans{N0 mb sb mp:Nat}{a b c:World}(h:FrI N0 mb sb mp a b)(k:FrI N0 mb sb mp b c):FrI N0 mb sb mp a c:=
 ⟨k.os.trans h.os,k.tape.trans h.tape,k.output.trans h.output,ad h.size k.size,λj hi d f g i=>by
  have e:=h.block j hi d f g i;exact(k.block j (aQ hi h.size) d f g (λl=>i ((RowTy.of_eq e).1 l))).trans e⟩
theorem FrI.fresh{N0 mb sb mp d c:Nat}{w l:World}(h:FrI N0 mb d c w l)(W:World)(a:FrI N0 mb sb mp W w)(b:W.heap.size<=d\/d=sb)(h2:W.heap.size<=c\/c=mp):FrI N0 mb sb mp W l:=
 ⟨h.os.trans a.os,h.tape.trans a.tape,h.output.trans a.output,ad a.size h.size,λk hi f g i j=>by
  have e:=a.block k hi f g i j;refine(h.block k (aQ hi a.size) f ?_ ?_ (λm=>j ((RowTy.of_eq e).1 m))).trans e
  ·rcases b with b|b
   ·omega
   ·rw[b];exact g
  ·rcases h2 with h2|h2
   ·omega
   ·rw[h2];exact i⟩
theorem FrI.of_chg{N0 mb sb mp:Nat}{w a:World}(h:FrS mb w a):FrI N0 mb sb mp w a:=⟨h.os,h.tape,h.output,h.size,λd c b _ _ _=>h.block d c b⟩
theorem FrI.of_ext{N0 mb sb mp:Nat}{w a:World}(h:Ext w a):FrI N0 mb sb mp w a:=⟨h.os,h.tape,h.output,h.size,λc b _ _ _ _=>h.block c b⟩
theorem FrI.ext{N0 mb sb mp:Nat}{a w e:World}(h:FrI N0 mb sb mp w e)(b:Ext a w)(h0:a.heap.size<=N0)(g:a.heap.size<=mb)(h2:a.heap.size<=sb)(h3:a.heap.size<=mp):Ext a e:=
 ⟨h.os.trans b.os,h.tape.trans b.tape,h.output.trans b.output,ad b.size h.size,λd c=>(h.block d (aQ c b.size) zO zO zO (λf=>by have:=f.1;omega)).trans (b.block d c)⟩
def la(T:TypeId):Prop:=T≠57/\T≠70/\T≠62
theorem qL{w:World}{N0 g:Nat}{T:TypeId}(h:Tag w g T)(b:la T):¬RowTy w N0 g:=by
 rintro⟨-,a|a|a⟩
 ·exact b.1 (h.one a)
 ·exact b.2.1 (h.one a)
 ·exact b.2.2 (h.one a)
theorem FrI.blk{N0 mb sb mp:Nat}{w c:World}(h:FrI N0 mb sb mp w c){g:Nat}{t:TypeId}{b:List Value}(a:Blk w g t b)(ht:la t)(d:g≠mb)(h2:g≠sb)(h3:g≠mp):Blk c g t b:=
 (h.block g a.lt d h2 h3 (qL a.tag ht)).trans a
theorem FrI.map{N0 mb sb mp:Nat}{w b:World}(h:FrI N0 mb sb mp w b){g:Nat}{env:ByteArray->Option Int}(a:EnvM w g env)(c:g≠mb)(h2:g≠sb)(h3:g≠mp):EnvM b g env:=
 a.of_eq (h.block g a.lt c h2 h3 (λd=>by rcases d.2 with h|h|h<;>exact a.noTag h))
theorem FrI.kp{N0 mb sb mp:Nat}{w i:World}(h:FrI N0 mb sb mp w i)(k:Tag w mb 99)(m:sb<w.heap.size->Tag w sb 126)(l:mp<w.heap.size->∃g,EnvM w mp g):Kp w i:=by
 intro d a;have f:d<w.heap.size:=by rcases a with a|a|a<;>exact a.lt
 have b:∃c,Tag w d c/\(c=60\/c=73\/c=85):=by
  rcases a with a|a|a
  ·exact⟨_,a,.inl rfl⟩
  ·exact⟨_,a,.inr (.inl rfl)⟩
  ·exact⟨_,a,.inr (.inr rfl)⟩
 obtain⟨c,b,e⟩:=b;refine h.block d f ?_ ?_ ?_ (qL b ?_)
 ·rintro rfl;have:=b.one k;rcases e with rfl|rfl|rfl<;>exact absurd this zD
 ·rintro rfl;have:=b.one (m f);rcases e with rfl|rfl|rfl<;>exact absurd this zD
 ·rintro rfl;obtain⟨g,j⟩:=l f;exact j.noTag b
 ·rcases e with rfl|rfl|rfl<;>exact⟨zD,zD,zD⟩
theorem FrS.kp{mb:Nat}{w c:World}(h:FrS mb w c)(e:Tag w mb 99):Kp w c:=by
 intro b a;have d:b<w.heap.size:=by rcases a with a|a|a<;>exact a.lt
 refine h.block b d ?_;rintro rfl;rcases a with a|a|a<;>exact absurd (a.one e) zD
end
section
open Go Go.RowKit Go.Proofs.Tryz
attribute [local go_sem] bc
def aR(e:Int):List PanicEntry:=[{v:=.iface 92 (.agg #[.int .i64 e]),recovered:=false}]
def aO:Value:=.tuple #[]
def eqG(vals:List Value)(i:Nat)(v:Value)(_:World):Prop:=v=vals.getD i undef
theorem dz{vals:List Value}{i:Nat}{v:Value}{w a:World}(h:eqG vals i v w)(_:Ext w a):eqG vals i v a:=h
def RunsP{α:Type}(c:Rs α)(f:α->Value->World->Prop)(B:World->Prop)(e:Ending)(d:World):Prop:=(∃a v,c=.ok a/\e=.returned v/\f a v d)\/(∃b,c=.error b/\e=.panicked (aR b)/\B d)
theorem RunsP.ok{α:Type}{c:Rs α}{b:α->Value->World->Prop}{B:World->Prop}{a:α}{v:Value}{d:World}(h:c=.ok a)(e:b a v d):RunsP c b B (.returned v) d:=.inl ⟨a,v,h,rfl,e⟩
theorem RunsP.no{α:Type}{b:Rs α}{d:α->Value->World->Prop}{B:World->Prop}{a:Int}{c:World}(h:b=.error a)(e:B c):RunsP b d B (.panicked (aR a)) c:=.inr ⟨a,h,rfl,e⟩
def bv{α:Type}(P:Program)(f:FuncId)(args:Array Value)(w:World)(b:Rs α)(a:α->Value->World->Prop)(B:World->Prop):Prop:=
 Calls P f args w (RunsP b a B)
theorem mU(w:World):Calls Tryz.prog 67 #[.int .i64 0] w λa b=>a=.returned aO/\b=w:=by
 go_in
 go_wp2_with fail
 go_end0
 exact⟨rfl,rfl⟩
theorem iT(e:Int)(a:e≠0)(w:World):Calls Tryz.prog 67 #[.int .i64 e] w λb c=>b=.panicked (aR e)/\c=w:=by
 have d:(e !=0)=true:=bne_iff_ne.2 a
 go_in
 go_wp2_with fail
 exact⟨rfl,rfl,rfl⟩
theorem dZ(e:Int)(w:World):Calls Tryz.prog 35 #[.bool true,.int .i64 e] w λa b=>a=.returned aO/\b=w:=by
 go_in
 go_wp2_with fail
 go_end0
 exact⟨rfl,rfl⟩
theorem ei(e:Int)(b:e≠0)(w:World):Calls Tryz.prog 35 #[.bool false,.int .i64 e] w λc d=>c=.panicked (aR e)/\d=w:=by
 have a:=Hd (iT e b w)
 go_in
 go_wp2_with fail
 go_at_call 67;refine a.o.mono ?_;rintro _ _ ⟨rfl,rfl⟩;exact⟨rfl,rfl,rfl⟩
theorem OwnL.chg{α:Type}{R c:α->List Value->Prop}{base:Nat}{e:TypeId}{i:Nat}{l:List α}{v:Value}{X Y:World}(h:OwnL R base e i l v X)(r:∀a,base<=a->Tag X a e->Y.heap[a]? =X.heap[a]?)(q:∀x g,R x g->c x g):OwnL c base e i l v Y:=by
 obtain⟨s,⟨o,b⟩,p⟩:=h.ex;refine⟨s,⟨o,?_⟩,p.imp q⟩;rcases b with b|⟨a,m,n,j,d,f,k⟩
 ·exact .inl b
 ·exact .inr ⟨a,m,n,j,d,(r a d ⟨_,_,f⟩).trans f,k⟩
theorem FrS.keep{mb:Nat}{w a:World}(h:FrS mb w a){g:Nat}{T:TypeId}(ht:Tag w g T)(c:Tag w mb 99)(b:T≠99):a.heap[g]? =w.heap[g]? :=
 h.block g ht.lt (λe=>b (ht.one (e▸c)))
theorem MkI.count{w i:World}{N0 mb:Nat}{e g f d:Value}{m:Mk}(h:MkI w N0 mb e g f d m)(b:FrS mb w i)(j:Int)(n:Blk i mb 99 [e,g,f,d,.int .i64 j,.int .i64 m.bits]):MkI i N0 mb e g f d {m with count:=j}:=by
 have c:=h.blk.tag;have l:=FrS.kp b c;exact⟨n,h.sig.chg (λk _ a=>b.keep a c zD) (λ_ _ h=>h),h.prc.chg (λk _ a=>b.keep a c zD) (RPc.keep l),h.chk.chg (λk _ a=>b.keep a c zD) (RCk.keep l),h.base⟩
theorem MkI.turn{w j:World}{N0 mb:Nat}{f i g e:Value}{m:Mk}(h:MkI w N0 mb f i g e m)(c:FrS mb w j)(k b:Int)(o:Blk j mb 99 [f,i,g,e,.int .i64 k,.int .i64 b]):MkI j N0 mb f i g e {m with count:=k,bits:=b}:=by
 have d:=h.blk.tag;have n:=FrS.kp c d;exact⟨o,h.sig.chg (λl _ a=>c.keep a d zD) (λ_ _ h=>h),h.prc.chg (λl _ a=>c.keep a d zD) (RPc.keep n),h.chk.chg (λl _ a=>c.keep a d zD) (RCk.keep n),h.base⟩
theorem ej(N0 mb:Nat)(i k j g:Value)(m:Mk)(n:Int)(w:World)(h:MkI w N0 mb i k j g m)(h0:0<=m.count)(z:m.count<=65536)(h2:0<=n)(h3:n<=1000000000):
 bv Tryz.prog 75 #[.pointer (some ⟨mb,0,none⟩),.int .i64 n] w (aW n m) (λu v r=>v=aO/\MkI r N0 mb i k j g u/\FrS mb w r) (FrS mb w):=by
 obtain⟨a,b⟩:∃a,a=w.setCell ⟨mb,4,none⟩ (.int .i64 (m.count+n)):=⟨_,rfl⟩;have A:=b.symm;have e:Blk a mb 99 [i,k,j,g,.int .i64 (m.count+n),.int .i64 m.bits]:=by rw[b];simpa using h.blk.set_ 4 (.int .i64 (m.count+n))
 have f:FrS mb w a:=by rw[b];exact Chg.setCell (X:=λt=>t=mb) (Chg.refl _ w) (p:=⟨mb,4,none⟩) rfl _
 have s:=Hd (h.count f (m.count+n) e);have l:=Hd f;have y:=h.blk.cell 4;have B:=h.blk.frozen 4;have x:=e.cell 4;simp only[List.getElem?_cons_succ,List.getElem?_cons_zero] at y x;clear b e f h;by_cases q:m.count+n<=65536
 ·have c:=Hd (show aW n m=.ok {m with count:=m.count+n} by unfold aW;rw[if_pos q]);have d:=Hd (dZ 2 a);go_enter func75,ntmps75;go_wp2_with (go_at_call 35;refine d.o.mono ?_;rintro _ _ ⟨rfl,rfl⟩)
  go_end0
  exact .ok c.o ⟨rfl,s.o,l.o⟩
 ·have c:=Hd (show aW n m=.error 2 by unfold aW;rw[if_neg q]);have d:=Hd (ei 2 zD a);go_enter func75,ntmps75;go_wp2_with fail
  go_at_call 35;refine d.o.mono ?_;rintro _ _ ⟨rfl,rfl⟩;exact⟨rfl,.no c.o l.o⟩
structure Cx(W0:World)(B:Nat)(w:World):Prop where
 tabs:Tabs W0
 hB:B<=W0.heap.size
 ext:Ext W0 w
structure XOk(W0:World)(B:Nat)(x:X)(cs:List Value):Prop where
 rx:RX W0 B x cs
 size:al x<=1000000000
 vx:VX x
theorem XOk.at_{b w:World}{B:Nat}{x:X}{c:List Value}(h:XOk b B x c)(a:Cx b B w):RX w w.heap.size x c:=
 (h.rx.ext a.ext a.hB).more (ad a.hB a.ext.size)
theorem Cx.later{b w c:World}{B:Nat}(a:Cx b B w)(d:Ext w c):Cx b B c:=⟨a.tabs,a.hB,a.ext.trans d⟩
theorem nR{a:Int×Int}(h:a.2=0):ofK a=.ok a.1:=by unfold ofK;rw[if_pos h]
theorem nQ{a:Int×Int}(h:a.2≠0):ofK a=.error a.2:=by unfold ofK;rw[if_neg h]
theorem rE(sb mp:Nat)(g:Value)(s:Sc)(b:ByteArray)(w:World)(h:ScI w sb mp g s):
 bv Tryz.prog 190 #[.pointer (some ⟨sb,0,none⟩),.string b] w (dt s b) (λa v f=>v=.int .i64 a/\f=w) (λf=>f=w):=by
 have i:=h.blk.cell 1;simp only[List.getElem?_cons_succ,List.getElem?_cons_zero] at i;have c:=h.map.look b;clear h;cases hs:s.sigs b with
 |some a=>
  rw[hs] at c;have d:=Hd (show dt s b=.ok a by unfold dt;rw[hs]);have e:=Hd (dZ 80 w);clear hs;simp at c;go_enter func190,ntmps190;go_wp2_with (go_at_call 35;refine e.o.mono ?_;rintro _ w ⟨rfl,rfl⟩)
  go_ret;exact .ok d.o ⟨rfl,rfl⟩
 |none=>
  rw[hs] at c;have d:=Hd (show dt s b=.error 80 by unfold dt;rw[hs]);have e:=Hd (ei 80 zD w);clear hs;simp at c;go_enter func190,ntmps190;go_wp2_with fail
  go_at_call 35;refine e.o.mono ?_;rintro _ w ⟨rfl,rfl⟩;exact⟨rfl,.no d.o rfl⟩
theorem fR(M:World)(B:Nat)(x:X)(N:List Value)(sb mp:Nat)(q:Value)(s:Sc)(w:World)(Q:Cx M B w)(C:XOk M B x N)(h:ScI w sb mp q s)(c5:s.env.length<=1000000):
 bv Tryz.prog 71 #[.pointer (some ⟨sb,0,none⟩),.agg N.toArray] w (aI s x) (λa v f=>v=.int .i64 a/\Ext w f) (Ext w):=by
 have r:=Hd Q;have u:=Hd C;have a0:=Hd h;obtain⟨Z,rfl,P⟩:=RX_iff.1 C.rx;have c6:=P.oneCell;obtain⟨A,c2,c4,H,a3,b6,b7,b8,b9,c0,c1⟩:=cA w (.int .i64 x.op) (.string x.name) (.int .i64 x.n) (.int .i64 x.w) (.int .u64 x.v) Z 40;have l:=Hd H;have z:=Hd (λ(f:World) (G:Ext A f)=>lQ f.heap.size s.env x f q _ (r.o.tabs.ext (r.o.ext.trans (l.o.trans G))) (u.o.at_ (r.o.later (l.o.trans G))) ((SlT.keep a0.o.env (.inr (.inr rfl)) (l.o.trans G).kp (λ_ _ _ h=>h)).sl) (ac _) u.o.size u.o.vx zO);unfold cu at z;obtain⟨p,F⟩:∃p,p=bA s.env x:=⟨_,rfl⟩;have K:=Hd (show aI s x=ofK p by rw[F];rfl);rw[<-F] at z;obtain⟨i,c⟩:=p;have O:=cellAt (H.at_ (h.blk.cell 0));have c9:∀e:Later A,e.w.cell? ⟨sb,0,none⟩=some q:=O;have c7:=h.env.oneCell;clear F O H a3 P C Q h;go_enter func71,ntmps71;go_wp2_with fail
 refine nl (W:=A) (eqG [.agg #[.int .i64 x.op,.string x.name,.int .i64 x.n,.int .i64 x.w,.int .u64 x.v,Z],.pointer (some ⟨sb,0,none⟩),.pointer (some ⟨sb,0,none⟩),.pointer (some ⟨sb,0,none⟩),q,.tuple #[.int .i64 i,.int .i64 c],.tuple #[.int .i64 i,.int .i64 c],.int .i64 i,.int .i64 c,.int .i64 i,.int .i64 c]) (λV=>match V with|_=>true) zK zK ?_ (ag _) (λV v w f h m=>dz h m) ?_ ?_
 ·simp[GuardsSay,eqG]<;>(intro h;cases h)
 ·refine⟨?_,?_,?_,?_,?_,?_,?_,?_,?_,?_,?_,trivial⟩;rotate_left 5
  ·intro g Y k b j;obtain⟨d,rfl⟩:=ae k;have a4:=ab b 0 8 zK rfl;simp[eqG] at a4;have a8:=ab b 4 12 zK rfl;simp[eqG] at a8;clear b j;go_simp;refine(z.o d.w d.ext).mono ?_;rintro e c8 ⟨rfl,m⟩;go_simp;first|exact⟨_,rfl,m,rfl⟩|exact⟨m,rfl⟩|exact rfl|exact⟨_,rfl,rfl⟩
  all_goals
   intro g Y k b j;obtain⟨d,rfl⟩:=ae k;try (have a5:=ab b 1 9 zD rfl;simp[eqG] at a5)
   try (have a6:=ab b 2 10 zD rfl;simp[eqG] at a6)
   try (have a7:=ab b 3 11 zD rfl;simp[eqG] at a7)
   try (have a9:=ab b 5 13 zD rfl;simp[eqG] at a9)
   try (have b0:=ab b 6 7 zD rfl;simp[eqG] at b0)
   try (have b1:=ab b 7 14 zD rfl;simp[eqG] at b1)
   try (have b2:=ab b 8 15 zD rfl;simp[eqG] at b2)
   have b4:=ah j 3 zK;simp at b4;have b3:=ah j 0 zK;simp at b3;clear b j;exact zA
 ·intro g Y a1;obtain⟨k,U,R,D,a2⟩:=a1;obtain⟨d,rfl⟩:=ae k;have I:g.tmps.getD 5 undef=.int .i64 i:=D 9 5 rfl rfl;have J:g.tmps.getD 6 undef=.int .i64 c:=D 10 6 rfl rfl;clear D a2;rw[ey U R];obtain⟨c3,T,S⟩:=tmpsF g;simp only[T,S] at I J⊢;simp[List.range,List.range.loop,I,J];clear I J U R;clear T S;have L:=Hd (l.o.trans d.ext);by_cases E:c=0
  ·subst E;have y:=Hd (mU d.w);have t:=Hd (K.o.trans (nR rfl));go_wp2_with (go_at_call 67;refine y.o.mono ?_;rintro _ b5 ⟨rfl,rfl⟩)
   go_ret;exact .ok t.o ⟨rfl,L.o⟩
  ·have y:=Hd (iT c E d.w);have t:=Hd (K.o.trans (nQ E));go_wp2_with fail
   go_at_call 67;refine y.o.mono ?_;rintro _ b5 ⟨rfl,rfl⟩;exact⟨rfl,.no t.o L.o⟩
theorem jq(M:World)(B:Nat)(x:X)(N:List Value)(sb mp:Nat)(q:Value)(s:Sc)(w:World)(Q:Cx M B w)(C:XOk M B x N)(h:ScI w sb mp q s)(c5:s.env.length<=1000000):
 bv Tryz.prog 74 #[.pointer (some ⟨sb,0,none⟩),.agg N.toArray] w (cj s x) (λa v f=>v=.int .i64 a/\Ext w f) (Ext w):=by
 have r:=Hd Q;have u:=Hd C;have a0:=Hd h;obtain⟨Z,rfl,P⟩:=RX_iff.1 C.rx;have c6:=P.oneCell;obtain⟨A,c2,c4,H,a3,b6,b7,b8,b9,c0,c1⟩:=cA w (.int .i64 x.op) (.string x.name) (.int .i64 x.n) (.int .i64 x.w) (.int .u64 x.v) Z 40;have l:=Hd H;have z:=Hd (λ(f:World) (G:Ext A f)=>Ah f.heap.size s.env x f q _ (r.o.tabs.ext (r.o.ext.trans (l.o.trans G))) (u.o.at_ (r.o.later (l.o.trans G))) ((SlT.keep a0.o.env (.inr (.inr rfl)) (l.o.trans G).kp (λ_ _ _ h=>h)).sl) (ac _) u.o.size u.o.vx zO);unfold cu at z;obtain⟨p,F⟩:∃p,p=hH s.env x:=⟨_,rfl⟩;have K:=Hd (show cj s x=ofK p by rw[F];rfl);rw[<-F] at z;obtain⟨i,c⟩:=p;have O:=cellAt (H.at_ (h.blk.cell 0));have c9:∀e:Later A,e.w.cell? ⟨sb,0,none⟩=some q:=O;have c7:=h.env.oneCell;clear F O H a3 P C Q h;go_enter func74,ntmps74;go_wp2_with fail
 refine nl (W:=A) (eqG [.agg #[.int .i64 x.op,.string x.name,.int .i64 x.n,.int .i64 x.w,.int .u64 x.v,Z],.pointer (some ⟨sb,0,none⟩),.pointer (some ⟨sb,0,none⟩),.pointer (some ⟨sb,0,none⟩),q,.tuple #[.int .i64 i,.int .i64 c],.tuple #[.int .i64 i,.int .i64 c],.int .i64 i,.int .i64 c,.int .i64 i,.int .i64 c]) (λV=>match V with|_=>true) zK zK ?_ (ag _) (λV v w f h m=>dz h m) ?_ ?_
 ·simp[GuardsSay,eqG]<;>(intro h;cases h)
 ·refine⟨?_,?_,?_,?_,?_,?_,?_,?_,?_,?_,?_,trivial⟩;rotate_left 5
  ·intro g Y k b j;obtain⟨d,rfl⟩:=ae k;have a4:=ab b 0 8 zK rfl;simp[eqG] at a4;have a8:=ab b 4 12 zK rfl;simp[eqG] at a8;clear b j;go_simp;refine(z.o d.w d.ext).mono ?_;rintro e c8 ⟨rfl,m⟩;go_simp;first|exact⟨_,rfl,m,rfl⟩|exact⟨m,rfl⟩|exact rfl|exact⟨_,rfl,rfl⟩
  all_goals
   intro g Y k b j;obtain⟨d,rfl⟩:=ae k;try (have a5:=ab b 1 9 zD rfl;simp[eqG] at a5)
   try (have a6:=ab b 2 10 zD rfl;simp[eqG] at a6)
   try (have a7:=ab b 3 11 zD rfl;simp[eqG] at a7)
   try (have a9:=ab b 5 13 zD rfl;simp[eqG] at a9)
   try (have b0:=ab b 6 7 zD rfl;simp[eqG] at b0)
   try (have b1:=ab b 7 14 zD rfl;simp[eqG] at b1)
   try (have b2:=ab b 8 15 zD rfl;simp[eqG] at b2)
   have b4:=ah j 3 zK;simp at b4;have b3:=ah j 0 zK;simp at b3;clear b j;exact zA
 ·intro g Y a1;obtain⟨k,U,R,D,a2⟩:=a1;obtain⟨d,rfl⟩:=ae k;have I:g.tmps.getD 5 undef=.int .i64 i:=D 9 5 rfl rfl;have J:g.tmps.getD 6 undef=.int .i64 c:=D 10 6 rfl rfl;clear D a2;rw[ey U R];obtain⟨c3,T,S⟩:=tmpsF g;simp only[T,S] at I J⊢;simp[List.range,List.range.loop,I,J];clear I J U R;clear T S;have L:=Hd (l.o.trans d.ext);by_cases E:c=0
  ·subst E;have y:=Hd (mU d.w);have t:=Hd (K.o.trans (nR rfl));go_wp2_with (go_at_call 67;refine y.o.mono ?_;rintro _ b5 ⟨rfl,rfl⟩)
   go_ret;exact .ok t.o ⟨rfl,L.o⟩
  ·have y:=Hd (iT c E d.w);have t:=Hd (K.o.trans (nQ E));go_wp2_with fail
   go_at_call 67;refine y.o.mono ?_;rintro _ b5 ⟨rfl,rfl⟩;exact⟨rfl,.no t.o L.o⟩
theorem qo(a:Option Addr)(n b:Nat)(g:n<=b)(i:n<=1000000000)(w:World):
 Calls Tryz.prog 104 #[.slice a n b] w λe f=>e=.returned (.slice a n n)/\f=w:=by
 have d:Tryz.prog.underlying 80=some (.slice (Tryz.prog.elem 80)):=by kernel_rfl
 have c:∀w:World,(sizeOf (Tryz.prog.elem 80)).run Tryz.prog w=.ok 2 w:=λ_=>by kernel_rfl
 have j:∀w:World,(Instr.slice 80 (.slice a n b) none (some (.int .i64 n)) (some (.int .i64 n))).run Tryz.prog w=.ok (.slice a n n) w:=λw=>by
  rw[run_slice_hm (ht:=d) (h:=(n:Int)) (m:=(n:Int)) (h0:=by omega) (h2:=by omega) (h3:=by omega),c];simp[Result.andThen,Bk]
 clear d c
 go_in
 go_wp2_with fail
 go_ret;exact⟨rfl,rfl⟩
theorem xP:(Tryz.prog.info? 85).map (λi=>(i.zero,i.size,i.bytes))=some (some (.agg #[.string ⟨#[]⟩,.int .i64 0]),2,24):=by kernel_rfl
theorem iz(s:Sc)(P c:Value)(l:ByteArray)(v:Int)(w:World)(L:SlT 85 RNm w 2 s.env P)(d8:c.oneCell'=true)(d5:s.env.length<=1000000):
 Calls Tryz.prog 72 #[.agg #[P,c,.string s.path],.string l,.int .i64 v] w λb7 R=>∃Q,b7=.returned (.agg #[Q,c,.string s.path])/\SlT 85 RNm R 2 (s.env++[(l,v)]) Q/\Ext w R:=by
 have W:=Hd L;obtain⟨q,E,rfl,a4,-⟩:=L;obtain⟨b,F,y,a⟩:=eS w (.slice q s.env.length E) c (.string s.path) 126;obtain⟨m,G,A,g⟩:=eS b (.slice none 0 0) (.map none) (.string ⟨#[]⟩) 126;obtain⟨c0,H,C,J⟩:=dd m (.string l) (.int .i64 v) 85;have d0:=F.symm;have d1:=G.symm;have d2:=H.symm;have B:=A.trans C;have z:=y.trans B;obtain⟨c2,c3,c4⟩:=(a.ext A).get3;have a1:=Hd (qo q s.env.length E a4 zO m);obtain⟨c1,c5,b9,b0,M,hF⟩:=(SlT.keep W.o (.inr (.inr rfl)) z.kp (λ_ _ _ t=>t)).sl.fl;injection b0 with b1 b2 b3;subst b1;obtain⟨b8,a7,a9,a8,a6⟩:=info_parts xP;have Y:=Hd M;have X:=Hd hF;have V:=Hd J.cells;have T:=Hd (a.ext B);have U:=Hd (g.ext C);have d6:=a.lt;have d7:=g.lt;have d9:w.heap.size<b.heap.size:=a.lt;have Z:=Hd z;have u:w.heap.size<=b.heap.size:=y.size;clear F G H y A C B z a g J M hF b2 b3
 go_in
 go_wp2_with (first
  |(go_at_call 104;refine a1.o.mono ?_;rintro _ m ⟨rfl,rfl⟩)
  |(at_builtin;refine va rfl _ _ 80 rfl 85 b8 _ 2 24 underlying80 a7 a9 a8 a6 rfl zD q s.env.length b9 rfl Y.o m.heap.size 0 1 1 [.string l,.int .i64 v] rfl rfl V.o zO zO zO ?_;intro e6 D x p
    obtain⟨d,f,rfl⟩:=uo x;have a:=T.o.ext p;have g:=U.o.ext p;obtain⟨c7,c8,c9⟩:=a.get3;have c6:=a.frozen 0;obtain⟨h,j⟩:∃h,h=D.setCell ⟨w.heap.size,0,none⟩ (.slice d (s.env.length+1) f):=⟨_,rfl⟩;have I:Blk h w.heap.size 126 [.slice d (s.env.length+1) f,c,.string s.path]:=by rw[j];simpa using a.set_ 0 (.slice d (s.env.length+1) f)
    have n:Blk h b.heap.size 126 [.slice none 0 0,.map none,.string ⟨#[]⟩]:=by rw[j];exact g.far (show b.heap.size≠w.heap.size by omega) _
    have N:Ext w h:=by rw[j];exact(Z.o.trans p).setCell (ac _) _
    obtain⟨e0,e1,e2⟩:=I.get3;obtain⟨e3,e4,e5⟩:=n.free3;obtain⟨e7,e8,e9⟩:=n.get3;obtain⟨i,k⟩:∃i,i=((h.setCell ⟨b.heap.size,0,none⟩ (.slice d (s.env.length+1) f)).setCell ⟨b.heap.size,1,none⟩ c).setCell ⟨b.heap.size,2,none⟩ (.string s.path):=⟨_,rfl⟩;have K:Blk i b.heap.size 126 [.slice d (s.env.length+1) f,c,.string s.path]:=by rw[k];exact n.store3 _ _ _
    have O:Ext w i:=by rw[k];exact((N.setCell u _).setCell u _).setCell u _
    obtain⟨b4,b5,b6⟩:=K.get3;have S:=Hd (show SlT 85 RNm i 2 (s.env++[(l,v)]) (.slice d (s.env.length+1) f) from by
     have a2:=tp x X.o;refine SlT.keep a2 (.inr (.inr rfl)) ?_ (λ_ _ _ t=>t);have a5:Chg (λr=>r=w.heap.size\/r=b.heap.size) D i:=by rw[k,j];exact((((Chg.refl _ D).setCell (.inl rfl) _).setCell (.inr rfl) _).setCell (.inr rfl) _).setCell (.inr rfl) _
     exact a5.kp (λr a3 _=>a3.elim (λe=>⟨_,e▸a.tag,by unfold dx;decide⟩) (λe=>⟨_,e▸g.tag,by unfold dx;decide⟩)))
    have a0:=Hd O;have d3:=j.symm;have d4:=k.symm
    clear x p a g j k I n N K O))
 refine bodyPost_ret (v:=.agg #[.slice d (s.env.length+1) f,c,.string s.path]) ?_ rfl ⟨_,rfl,S.o,a0.o⟩;simp[results,results72,go_sem,b4,b5,b6]
theorem OwnL.tag{α:Type}{R:α->List Value->Prop}{base:Nat}{e:TypeId}{d:Nat}{l:List α}{v:Value}{X:World}(h:OwnL R base e d l v X){g:Nat}(a:v.ownBlock=some g):base<=g/\Tag X g e:=by
 obtain⟨k,b,-⟩:=h.ex;refine⟨(b.lt g a).1,?_⟩;rcases b.2 with⟨rfl,-⟩|⟨j,f,i,rfl,-,c,-⟩
 ·cases a
 ·simp[Value.ownBlock] at a;subst a;exact⟨_,_,c⟩
theorem gR{w j c:World}{b:Option Nat}{mb i:Nat}{u:Value}(f:Ext w j)(o:j.grownBy c b){g:Nat}{T d:TypeId}(ht:Tag w g T)(r:∀h,b=some h->∃a,Tag w h a/\a≠T)(p:Tag w mb d)(q:d≠T):(c.setCell ⟨mb,i,none⟩ u).heap[g]? =w.heap[g]? :=by
 have k:g≠mb:=λe=>q (p.one (e▸ht))
 have l:some g≠b:=λe=>by
  obtain⟨a,m,n⟩:=r g e.symm;exact n (m.one ht)
 rw[Below.heap_setCell c ⟨mb,i,none⟩ u g k,o.block g (Nat.lt_of_lt_of_le ht.lt f.size) l,f.heap ht.lt]
theorem qZ{w h f:World}{d:Option Nat}{N0 mb sb mp i:Nat}{u:Value}(b:Ext w h)(c:h.grownBy f d)(m:∀a,d=some a->N0<=a/\(Tag w a 57\/Tag w a 70\/Tag w a 62)):FrI N0 mb sb mp w (f.setCell ⟨mb,i,none⟩ u):=by
 refine⟨c.os.trans b.os,c.tape.trans b.tape,c.output.trans b.output,?_,λa g j n o k=>?_⟩
 ·have:=ad b.size c.size;simpa [World.setCell] using this
 ·have l:some a≠d:=λe=>k (m a e.symm)
  rw[Below.heap_setCell f ⟨mb,i,none⟩ u a j,c.block a (Nat.lt_of_lt_of_le g b.size) l,b.heap g]
theorem jI{w m h:World}{l:Option Nat}{mb i:Nat}{u:Value}{j:TypeId}(x:Ext w m)(p:m.grownBy h l)(t:∀c,l=some c->∃b,Tag w c b/\¬dx b)(r:Tag w mb j)(s:¬dx j):Kp w (h.setCell ⟨mb,i,none⟩ u):=by
 intro f a;have g:∀d,dx d->Tag w f d->(h.setCell ⟨mb,i,none⟩ u).heap[f]? =w.heap[f]? :=λd k v=>gR x p v (λc q=>by
  obtain⟨b,n,o⟩:=t c q;exact⟨b,n,λe=>o (e▸k)⟩) r (λe=>s (e▸k))
 rcases a with a|a|a
 ·exact g _ (.inl rfl) a
 ·exact g _ (.inr (.inl rfl)) a
 ·exact g _ (.inr (.inr rfl)) a
theorem lJ{α:Type}{R b:α->List Value->Prop}{base mb i:Nat}{e c:TypeId}{g:Nat}{l:List α}{v u:Value}{a:World}(h:OwnL R base e g l v a)(n:Tag a mb c)(o:c≠e)(k:∀x d,R x d->b x d):OwnL b base e g l v (a.setCell ⟨mb,i,none⟩ u):=
 h.chg (λf _ m=>Below.heap_setCell a ⟨mb,i,none⟩ u f (λj=>o (n.one (show Tag a mb e from(show f=mb from j)▸m)))) k
theorem vN:(Tryz.prog.info? 70).map (λi=>(i.zero,i.size,i.bytes))=some (some (.agg #[.bool false,.slice none 0 0]),2,32):=by kernel_rfl
theorem tI:(Tryz.prog.info? 57).map (λi=>(i.zero,i.size,i.bytes))=some (some (.agg #[.string ⟨#[]⟩,.int .i64 0,.int .i64 0,.int .u64 0]),4,40):=by kernel_rfl
theorem OwnL.ext_imp{α:Type}{R a:α->List Value->Prop}{base:Nat}{e:TypeId}{c:Nat}{l:List α}{v:Value}{X Y:World}(h:OwnL R base e c l v X)(f:Ext X Y)(d:∀x b,R x b->a x b):OwnL a base e c l v Y:=(h.later f).imp d
def MkR(N0 mb sb mp:Nat)(d:Value)(w:World)(b:Mk)(a:World):Prop:=∃f e c,MkI a N0 mb d f e c b/\FrI N0 mb sb mp w a
theorem iy(N0 mb sb mp:Nat)(E N a9 M:Value)(m:Mk)(c:Bool)(l:List DT)(V:Value)(w:World)(h:MkI w N0 mb E N a9 M m)(K:SlT6 w l V)(b5:m.d.procs.length<=1024):
 bv Tryz.prog 107 #[.pointer (some ⟨mb,0,none⟩),.bool c,V] w (ca c l m) (λa7 v b0=>v=aO/\MkR N0 mb sb mp E w a7 b0) (FrI N0 mb sb mp w):=by
 have f:=Hd h;have Z:=Hd K;obtain⟨C,D,rfl⟩:=h.prc.form;obtain⟨A,B,rfl⟩:=SlT.form K;have Q:=h.blk.cell 2;simp only[List.getElem?_cons_succ,List.getElem?_cons_zero] at Q;clear K;by_cases y:m.d.procs.length<1024
 rotate_left
 ·have G:=Hd (show ca c l m=.error 2 by unfold ca;rw[if_neg y]);have H:=Hd (ei 2 zD w);have a5:¬((m.d.procs.length:Int)<1024):=by omega
  clear h y;go_enter func107,ntmps107;go_wp2_with fail
  go_at_call 35;refine H.o.mono ?_;rintro _ w ⟨rfl,rfl⟩;exact⟨rfl,.no G.o (FrI.refl _ _ _ _ _)⟩
 ·have G:=Hd (show ca c l m=.ok {m with d:={m.d with procs:=m.d.procs++[⟨c,l⟩]}} by unfold ca;rw[if_pos y]);have H:=Hd (dZ 2 w);have a5:((m.d.procs.length:Int)<1024):=by omega
  obtain⟨n,R,g,S⟩:=dd w (.bool c) (.slice A l.length B) 70;have b3:=R.symm;have P:=Hd (f.o.prc.ext_imp g (λx a0 a6=>RPc.keep g.kp x a0 a6));have X:=Hd (show Flat n 2 (some ⟨w.heap.size,0,none⟩) 1 [.bool c,.slice A l.length B] from⟨rfl,(by intro a8 q;simp at q;rcases q with rfl|rfl<;>rfl),λ_=>⟨_,_,rfl,S.cells⟩⟩);have Y:=Hd (show Fl (RPc n) 2 [(⟨c,l⟩:Pc)] [.bool c,.slice A l.length B] from Fl.one_ rfl (by intro a8 q;simp at q;rcases q with rfl|rfl<;>rfl) ⟨_,rfl,Z.o.keep g.kp⟩);have r:=Hd g;have a2:N0<=n.heap.size:=ad h.base (ad (Nat.le_of_lt h.blk.lt) g.size);have b2:=g.at_ Q;have F:=Hd (h.blk.ext g);clear h y R g S;go_enter func107,ntmps107;go_wp2_with fail
  go_at_call 35;refine H.o.mono ?_;rintro _ w ⟨rfl,rfl⟩
  go_wp2_with (first
   |(at_builtin;go_loud (
     refine kS rfl _ _ 47 rfl N0 70 _ 2 32 vN underlying47 rfl zD zD m.d.procs [⟨c,l⟩] (.slice C m.d.procs.length D) rfl P.o (some ⟨w.heap.size,0,none⟩) 1 [.bool c,.slice A l.length B] rfl X.o Y.o zO zS a2 ?_;intro b6 O L j a3;obtain⟨t,z,U⟩:=L.form;rw[show(m.d.procs++[(⟨c,l⟩:Pc)]).length=m.d.procs.length+1 from by simp] at U;subst U;have k:∀b,(Value.slice C m.d.procs.length D).ownBlock=some b->N0<=b/\Tag w b 70:=λb a=>f.o.prc.tag a
     have T:some mb≠(Value.slice C m.d.procs.length D).ownBlock:=λe=>absurd ((k mb e.symm).2.one f.o.blk.tag) zD
     have p:Blk O mb 99 [E,N,.slice C m.d.procs.length D,M,.int .i64 m.count,.int .i64 m.bits]:=(j.block mb F.o.lt T).trans F.o;have b1:=p.cell 2;have b7:=p.frozen 2;simp only[List.getElem?_cons_succ,List.getElem?_cons_zero] at b1;obtain⟨s,I⟩:∃s,s=O.setCell ⟨mb,2,none⟩ (.slice t (m.d.procs.length+1) z):=⟨_,rfl⟩;have b4:=I.symm;have W:=Hd (show MkI s N0 mb E N (.slice t (m.d.procs.length+1) z) M {m with d:={m.d with procs:=m.d.procs++[⟨c,l⟩]}}/\FrI N0 mb sb mp w s from by
      rw[I];have a:=jI (i:=2) (u:=.slice t (m.d.procs.length+1) z) r.o j (λb a=>⟨_,(k b a).2,by unfold dx;decide⟩) f.o.blk.tag (by unfold dx;decide);have a4:Kp n (O.setCell ⟨mb,2,none⟩ (.slice t (m.d.procs.length+1) z)):=jI (af n) j (λb a=>⟨_,(P.o.tag a).2,by unfold dx;decide⟩) F.o.tag (by unfold dx;decide);refine⟨⟨by simpa using p.set_ 2 _,?_,?_,?_,f.o.base⟩,qZ r.o j (λb a=>⟨(k b a).1,.inr (.inl (k b a).2)⟩)⟩
      ·exact f.o.sig.chg (λa1 _ J=>gR r.o j J (λb a=>⟨_,(k b a).2,zD⟩) f.o.blk.tag zD) (λ_ _ h=>h)
      ·exact lJ L p.tag zD (RPc.keep a4)
      ·exact f.o.chk.chg (λa1 _ J=>gR r.o j J (λb a=>⟨_,(k b a).2,zD⟩) f.o.blk.tag zD) (RCk.keep a))
     clear L j a3 k T p I)))
  go_end0
  exact .ok G.o ⟨rfl,_,_,_,W.o⟩
def dm(c:Nat)(T:TypeId)(b vals:List Value)(i:Nat)(v:Value)(w:World):Prop:=if i=c then∃a,v=.slice (some ⟨a,0,none⟩) 1 1/\Blk w a T b else v=vals.getD i undef
theorem wN{b:Nat}{T:TypeId}{a vals:List Value}{i:Nat}{v:Value}{w c:World}(h:dm b T a vals i v w)(g:Ext w c):dm b T a vals i v c:=by
 unfold dm at h⊢;split
 ·rename_i hi
  rw[if_pos hi] at h;obtain⟨d,e,f⟩:=h;exact⟨d,e,f.ext g⟩
 ·rename_i hi
  rw[if_neg hi] at h;exact h
theorem jG{w:World}{mp:Nat}(o:Obj):Chg (λk=>k=mp) w (aH w mp o):=⟨rfl,rfl,rfl,by simp[aH],λk _ a=>by simp[aH,Array.getElem?_setIfInBounds_ne (show mp≠k from λe=>a e.symm)]⟩
theorem MkI.map{w f:World}{N0 mb mp:Nat}{k n l j:Value}{m:Mk}{env:ByteArray->Option Int}(h:MkI w N0 mb k n l j m)(q:EnvM w mp env)(p:Chg (λr=>r=mp) w f):MkI f N0 mb k n l j m/\Kp w f:=by
 have d:∀a i,Tag w a i->f.heap[a]? =w.heap[a]? :=λa i b=>p.block a b.lt (λe=>q.noTag (e▸b))
 have g:Kp w f:=λo c=>by
  rcases c with c|c|c<;>exact d o _ c
 exact⟨⟨(d mb _ h.blk.tag).trans h.blk,h.sig.chg (λa _ b=>d a _ b) (λ_ _ h=>h),h.prc.chg (λa _ b=>d a _ b) (RPc.keep g),h.chk.chg (λa _ b=>d a _ b) (RCk.keep g),h.base⟩,g⟩
theorem FrI.of_map{N0 mb sb mp:Nat}{w c:World}(a:Chg (λb=>b=mp) w c):FrI N0 mb sb mp w c:=⟨a.os,a.tape,a.output,a.size,λb e _ _ d _=>a.block b e d⟩
def ScR(sb mp:Nat)(a:Sc)(c:World):Prop:=∃b,ScI c sb mp b a
theorem mt(N0 mb sb mp:Nat)(H k1 c7 c6 O:Value)(m:Mk)(s:Sc)(b:ByteArray)(a kind g:Int)(w:World)(h:MkI w N0 mb H k1 c7 c6 m)(d5:ScI w sb mp O s)(a3:sb≠mb)
 (l5:m.d.sigs.length<=512) (l3:0<=m.bits) (l4:m.bits<=4096) (l9:0<=a) (m0:a<=64) (l7:s.path.size<=1000000000) (l6:b.size<=1000000000):
 bv Tryz.prog 73 #[.pointer (some ⟨mb,0,none⟩),.pointer (some ⟨sb,0,none⟩),.string b,.int .i64 a,.int .i64 kind,.int .u64 g] w (cI b a kind g s m)
  (λg5 v e0=>v=.int .i64 m.d.sigs.length/\MkR N0 mb sb mp H w g5.2 e0/\ScR sb mp g5.1 e0) (FrI N0 mb sb mp w):=by
 have J:=Hd h;have S:=Hd d5;have l8:¬(9223372036854775807<s.path.size+b.size):=by omega
 obtain⟨C,D,rfl⟩:=h.sig.form;obtain⟨j,a5⟩:∃j,j=w.setCell ⟨mb,5,none⟩ (.int .i64 (m.bits+a)):=⟨_,rfl⟩;have f2:=a5.symm;have d3:FrS mb w j:=by rw[a5];exact Chg.setCell (X:=λk=>k=mb) (Chg.refl _ w) (p:=⟨mb,5,none⟩) rfl _
 have V:Blk j mb 99 [H,.slice C m.d.sigs.length D,c7,c6,.int .i64 m.count,.int .i64 (m.bits+a)]:=by rw[a5];simpa using h.blk.set_ 5 (.int .i64 (m.bits+a))
 have g0:Blk j sb 126 [O,.map (some mp),.string s.path]:=d3.blk d5.blk a3;have e4:=h.blk.cell 1;have e5:=h.blk.cell 5;have k6:=h.blk.frozen 5;have c9:=V.cell 1;have e6:=V.cell 5;simp only[List.getElem?_cons_succ,List.getElem?_cons_zero] at e4 e5 c9 e6;have I:=Hd d3;have E:=Hd V;have e3:=Hd g0;clear h d5 d3 V g0 a5;by_cases B:m.d.sigs.length<512/\m.bits+a<=4096
 rotate_left
 ·have R:=Hd (show cI b a kind g s m=.error 2 by unfold cI;rw[if_neg B]);have K:=Hd (ei 2 zD j);have e2:=Hd (show FrI N0 mb sb mp w j from .of_chg I.o);by_cases d0:m.d.sigs.length<512
  ·have e7:((m.d.sigs.length:Int)<512):=by omega
   have h4:¬(m.bits+a<=4096):=λh=>B ⟨d0,h⟩
   clear B;go_enter func73,ntmps73;go_wp2_with fail
   go_at_call 35;refine K.o.mono ?_;rintro _ j ⟨rfl,rfl⟩;exact⟨rfl,.no R.o e2.o⟩
  ·have e7:¬((m.d.sigs.length:Int)<512):=by omega
   clear B;go_enter func73,ntmps73;go_wp2_with fail
   go_at_call 35;refine K.o.mono ?_;rintro _ j ⟨rfl,rfl⟩;exact⟨rfl,.no R.o e2.o⟩
 ·have R:=Hd (show cI b a kind g s m=.ok ({s with sigs:=az s.sigs b m.d.sigs.length},{m with bits:=m.bits+a,d:={m.d with sigs:=m.d.sigs++[⟨s.path++b,a,kind,g⟩]}}) by unfold cI;rw[if_pos B]);have K:=Hd (dZ 2 j);have e7:((m.d.sigs.length:Int)<512):=by omega
  have h4:=B.2;clear B;go_enter func73,ntmps73;go_wp2_with fail
  go_at_call 35;refine K.o.mono ?_;rintro _ j ⟨rfl,rfl⟩;have k7:=Hd f2;have k2:=cellAt c9;have k3:=cellAt (e3.o.cell 2);clear K f2 e4 e5 k6 c9 e6;go_wp2_with fail
  refine wp_region_any zK ?_;refine wpAny_take (i:=0) (v:=.pointer (some ⟨mb,0,none⟩)) rfl zK zK zK (λ_ _ _ h=>h) (pf 0 rfl rfl rfl) ?_;simp only[Act.put,List.setIfInBounds_toArray,List.set_cons_zero,List.set_cons_succ];refine ni 17 [0] #[true,false,false,false,false,false,false,false,false,false,false,false,false,false,false,false,false] (W:=j) (Ext) (dm 16 57 [.string (s.path++b),.int .i64 a,.int .i64 kind,.int .u64 g] [.pointer (some ⟨mb,0,none⟩),.pointer (some ⟨mb,0,none⟩),.pointer (some ⟨mb,0,none⟩),.pointer (some ⟨mb,1,none⟩),.pointer (some ⟨mb,1,none⟩),.slice C m.d.sigs.length D,.pointer (some ⟨sb,0,none⟩),.pointer (some ⟨sb,0,none⟩),.pointer (some ⟨sb,2,none⟩),.string s.path,.string b,.string (s.path++b),.int .i64 a,.int .i64 kind,.int .u64 g,.agg #[.string (s.path++b),.int .i64 a,.int .i64 kind,.int .u64 g]]) (λ_ _=>False) (λ_=>true) (bo) zK zK rfl zK zK zK zK (λh=>absurd h zD) ?_ ((bo).drew _ _ (af _)) (λm1 v w e0 h h9=>wN h h9) ?_ zK ?_ (λz k9 w f h7=>h7.elim) ?_
  ·exact⟨rfl,rfl,rfl,rfl,rfl,rfl,rfl,rfl,rfl,rfl,rfl,rfl,rfl,rfl,rfl,rfl,rfl,trivial⟩
  ·refine⟨?_,?_,?_,?_,?_,?_,?_,?_,?_,?_,?_,?_,?_,?_,?_,?_,?_,trivial⟩;rotate_left 16
   ·intro z g8 N f t;obtain⟨n,rfl⟩:=ae N;have i6:=ab f 15 53 zK rfl;simp[dm] at i6;clear f t;go_simp;obtain⟨k8,f3,g3,u⟩:=bK n.w (.string (s.path++b)) (.int .i64 a) (.int .i64 kind) (.int .u64 g) 57;have l1:=f3.symm;have Q:=Hd (aq g3 u);clear f3 g3 u;go_simp;first|exact⟨_,rfl,Q.o.1,_,rfl,Q.o.2⟩|exact⟨Q.o.1,_,rfl,Q.o.2⟩
   all_goals
    intro z g8 N f t;obtain⟨n,rfl⟩:=ae N;try (have i0:=ab f 1 39 zD rfl;simp[dm] at i0)
    try (have i7:=ab f 2 40 zD rfl;simp[dm] at i7)
    try (have i8:=ab f 3 41 zD rfl;simp[dm] at i8)
    try (have i9:=ab f 4 42 zD rfl;simp[dm] at i9)
    try (have j0:=ab f 6 44 zD rfl;simp[dm] at j0)
    try (have j1:=ab f 7 45 zD rfl;simp[dm] at j1)
    try (have j2:=ab f 8 46 zD rfl;simp[dm] at j2)
    try (have j3:=ab f 9 47 zD rfl;simp[dm] at j3)
    try (have i1:=ab f 10 48 zD rfl;simp[dm] at i1)
    try (have i2:=ab f 11 49 zD rfl;simp[dm] at i2)
    try (have i3:=ab f 12 50 zD rfl;simp[dm] at i3)
    try (have i4:=ab f 13 51 zD rfl;simp[dm] at i4)
    try (have i5:=ab f 14 52 zD rfl;simp[dm] at i5)
    have j4:=ah t 0 zK;simp at j4;have j5:=ah t 1 zK;simp at j5;have j6:=ah t 2 zK;simp at j6;have j7:=ah t 3 zK;simp at j7;have j8:=ah t 4 zK;simp at j8;have j9:=ah t 5 zK;simp at j9;clear f t;exact zA
  ·intro m2 f7 d f;simp at f7;subst f7;obtain rfl:38=d:=by simpa using f
   exact rfl
  ·intro z g8 r;obtain⟨N,g1,f4,Z,c⟩:=r;obtain⟨n,rfl⟩:=ae N;have a6:=ah c 0 zK;simp at a6;have a7:=ah c 1 zK;simp at a7;have y:=ah c 2 zK;simp at y;have b2:=ah c 3 zK;simp at b2;have b3:=ah c 4 zK;simp at b3;have b4:=ah c 5 zK;simp at b4;have b6:=ah c 6 zK;simp at b6;have c3:=ah c 7 zK;simp at c3;have c4:=ah c 8 zK;simp at c4;have c5:=ah c 9 zK;simp at c5;have a8:=ah c 10 zK;simp at a8;have a9:=ah c 11 zK;simp at a9;have b0:=ah c 12 zK;simp at b0;have b1:=ah c 13 zK;simp at b1;have d7:z.tmps.getD 38 undef=.pointer (some ⟨mb,0,none⟩):=Z 0 38 rfl rfl;have d8:z.tmps.getD 43 undef=.slice C m.d.sigs.length D:=Z 5 43 rfl rfl;obtain⟨l,d9,x⟩:=(show∃l,z.tmps.getD 54 undef=.slice (some ⟨l,0,none⟩) 1 1/\Blk n.w l 57 [.string (s.path++b),.int .i64 a,.int .i64 kind,.int .u64 g] from Z 16 54 rfl rfl);have b5:=ah c 59 zK;simp at b5;have b7:=ah c 60 zK;simp at b7;have b8:=ah c 61 zK;simp at b8;have b9:=ah c 62 zK;simp at b9;have c0:=ah c 63 zK;simp at c0;have c1:=ah c 64 zK;simp at c1;have c2:=ah c 65 zK;simp at c2;clear Z c;rw[ey g1 f4];obtain⟨l0,f6,f5⟩:=tmpsF z;simp only[f6,f5] at a6 a7 y b2 b3 b4 b6 c3 c4 c5 a8 a9 b0 b1 d7 d8 d9 b5 b7 b8 b9 c0 c1 c2⊢;simp only[List.drop_succ_cons,List.drop_zero];simp[List.range,List.range.loop,a6,a7,y,b2,b3,b4,b6,c3,c4,c5,a8,a9,b0,b1,d7,d8,d9,b5,b7,b8,b9,c0,c1,c2];clear a6 a7 y b2 b3 b4 b6 c3 c4 c5 a8 a9 b0 b1 d7 d8 d9 b5 b7 b8 b9 c0 c1 c2 g1 f4;clear f6 f5;have a2:mp≠mb:=λe=>S.o.map.noTag (e▸J.o.blk.tag)
   have P:=Hd (J.o.turn I.o m.count (m.bits+a) E.o);have h2:=Hd (P.o.sig.later n.ext);have h0:=Hd (show Flat n.w 4 (some ⟨l,0,none⟩) 1 [.string (s.path++b),.int .i64 a,.int .i64 kind,.int .u64 g] from⟨rfl,(by intro k0 M;simp at M;rcases M with rfl|rfl|rfl|rfl<;>rfl),λ_=>⟨_,_,rfl,x.cells⟩⟩);have h1:=Hd (show Fl RSg 4 [(⟨s.path++b,a,kind,g⟩:Sg)] [.string (s.path++b),.int .i64 a,.int .i64 kind,.int .u64 g] from Fl.one_ rfl (by intro k0 M;simp at M;rcases M with rfl|rfl|rfl|rfl<;>rfl) rfl);have h5:N0<=n.w.heap.size:=ad J.o.base (ad (Nat.le_of_lt E.o.lt) n.ext.size);have e1:=Hd (E.o.ext n.ext);clear x k2 k3
   go_wp2_with (first
    |(at_builtin;go_loud (
      refine kS rfl _ _ 46 rfl N0 57 _ 4 40 tI underlying46 rfl zD zD m.d.sigs [⟨s.path++b,a,kind,g⟩] (.slice C m.d.sigs.length D) rfl h2.o (some ⟨l,0,none⟩) 1 [.string (s.path++b),.int .i64 a,.int .i64 kind,.int .u64 g] rfl h0.o h1.o zO zS h5 ?_;intro m3 g7 d4 L h6;obtain⟨c8,y,g2⟩:=d4.form;rw[show(m.d.sigs++[(⟨s.path++b,a,kind,g⟩:Sg)]).length=m.d.sigs.length+1 from by simp] at g2;subst g2;have G:∀k,(Value.slice C m.d.sigs.length D).ownBlock=some k->N0<=k/\Tag j k 57:=λk r=>P.o.sig.tag r
      have f9:some mb≠(Value.slice C m.d.sigs.length D).ownBlock:=λe=>absurd ((G mb e.symm).2.one E.o.tag) zD
      have u:Blk g7 mb 99 [H,.slice C m.d.sigs.length D,c7,c6,.int .i64 m.count,.int .i64 (m.bits+a)]:=(L.block mb e1.o.lt f9).trans e1.o;have k4:=u.cell 1;have m4:=u.frozen 1;simp only[List.getElem?_cons_succ,List.getElem?_cons_zero] at k4;obtain⟨q,A⟩:∃q,q=g7.setCell ⟨mb,1,none⟩ (.slice c8 (m.d.sigs.length+1) y):=⟨_,rfl⟩;have l2:=A.symm;have a0:∀g6 g4,FrI N0 mb g6 g4 j q:=λg6 g4=>by rw[A];exact qZ n.ext L (λk r=>⟨(G k r).1,.inl (G k r).2⟩)
      have a1:Kp j q:=by rw[A];exact jI n.ext L (λk r=>⟨_,(G k r).2,by unfold dx;decide⟩) E.o.tag (by unfold dx;decide)
      have d6:∀l T,Tag j l T->T≠57->T≠99->q.heap[l]? =j.heap[l]? :=λl T x d0 h3=>by rw[A];exact gR n.ext L x (λk r=>⟨_,(G k r).2,λe=>d0 e.symm⟩) E.o.tag (λe=>h3 e.symm)
      have f0:MkI q N0 mb H (.slice c8 (m.d.sigs.length+1) y) c7 c6 {m with bits:=m.bits+a,d:={m.d with sigs:=m.d.sigs++[⟨s.path++b,a,kind,g⟩]}}:=by
       refine⟨?_,?_,P.o.prc.chg (λl _ x=>d6 l _ x zD zD) (RPc.keep a1),P.o.chk.chg (λl _ x=>d6 l _ x zD zD) (RCk.keep a1),J.o.base⟩
       ·rw[A];simpa using u.set_ 1 (.slice c8 (m.d.sigs.length+1) y)
       ·rw[A];exact lJ d4 u.tag zD (λ_ _ h=>h)
      have a4:Blk q sb 126 [O,.map (some mp),.string s.path]:=(a0 mb mb).blk e3.o ⟨zD,zD,zD⟩ a3 a3 a3;have U:EnvM q mp s.sigs:=(a0 mb mb).map (S.o.map.of_eq (I.o.block mp S.o.map.lt a2)) a2 a2 a2;have e9:SlT 85 RNm q 2 s.env O:=(SlT.keep S.o.env (.inr (.inr rfl)) (FrS.kp I.o J.o.blk.tag) (λ_ _ _ h=>h)).keep (.inr (.inr rfl)) a1 (λ_ _ _ h=>h);obtain⟨o,h8,d1⟩:=U.put b m.d.sigs.length;obtain⟨F,d2⟩:∃F,F=aH q mp o:=⟨_,rfl⟩;have Y:Chg (λk=>k=mp) q F:=by rw[d2];exact jG o
      rw[<-d2] at h8 d1;obtain⟨f1,f8⟩:=f0.map U Y;have e8:FrI N0 mb sb mp w F:=(FrI.of_chg I.o).trans ((a0 sb mp).trans (FrI.of_map Y));have k5:=a4.cell 1;simp only[List.getElem?_cons_succ,List.getElem?_cons_zero] at k5
      have g9:=Hd (show MkR N0 mb sb mp H w {m with bits:=m.bits+a,d:={m.d with sigs:=m.d.sigs++[⟨s.path++b,a,kind,g⟩]}} F/\ScR sb mp {s with sigs:=az s.sigs b m.d.sigs.length} F from
       ⟨⟨_,_,_,f1,e8⟩,O,(Y.blk a4 (λe=>U.noTag (e▸a4.tag))),e9.keep (.inr (.inr rfl)) f8 (λ_ _ _ h=>h),d1⟩)
      clear d4 L h6 G f9 u A a0 a1 d6 f0 a4 U e9 d1 d2 Y f1 f8 e8)))
   go_ret;exact .ok R.o ⟨rfl,g9.o⟩
def bg:=@Chg.refl
def dk:=@Chg.setCell
def cb:=@FrI.of_ext
end
