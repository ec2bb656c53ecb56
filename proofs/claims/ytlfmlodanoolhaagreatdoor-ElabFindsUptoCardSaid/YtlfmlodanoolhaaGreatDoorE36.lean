import Derived.Lib.ItoaNum
import Derived.Test.YtlfmlodanoolhaaGreatDoorE33
import Derived.Test.YtlfmlodanoolhaaGreatDoorE34
import Derived.Test.YtlfmlodanoolhaaGreatDoorE14
set_option linter.all false
set_option maxRecDepth 200000
set_option maxHeartbeats 32000000
namespace Go.Proofs.YtlfmlodanoolhaaGreatDoor
open Go Go.RowKit
inductive DE where
 |mk (op w v sig hi lo n:Int) (l:List DE)
inductive DT where
 |mk (op sig hi lo:Int) (e:List DE) (l:List DT)
structure Sg where
 name:ByteArray
 w:Int
 kind:Int
 init:Int
structure Pc where
 clk:Bool
 l:List DT
structure Ck where
 name:ByteArray
 e:DE
structure Dsn where
 sigs:List Sg
 procs:List Pc
 chks:List Ck
structure Mk where
 d:Dsn
 count:Int
 bits:Int
structure Sc where
 env:List (ByteArray×Int)
 sigs:ByteArray→Option Int
 path:ByteArray
abbrev Rs(α:Type):=Except Int α
def DE.op:DE→Int|.mk op _ _ _ _ _ _ _=>op
def DE.w:DE→Int|.mk _ w _ _ _ _ _ _=>w
def DE.v:DE→Int|.mk _ _ v _ _ _ _ _=>v
def DE.sig:DE→Int|.mk _ _ _ s _ _ _ _=>s
def DE.hi:DE→Int|.mk _ _ _ _ h _ _ _=>h
def DE.lo:DE→Int|.mk _ _ _ _ _ l _ _=>l
def DE.n:DE→Int|.mk _ _ _ _ _ _ n _=>n
def DE.l:DE→List DE|.mk _ _ _ _ _ _ _ l=>l
def DT.op:DT→Int|.mk op _ _ _ _ _=>op
def DT.sig:DT→Int|.mk _ s _ _ _ _=>s
def DT.hi:DT→Int|.mk _ _ h _ _ _=>h
def DT.lo:DT→Int|.mk _ _ _ l _ _=>l
def DT.e:DT→List DE|.mk _ _ _ _ e _=>e
def DT.l:DT→List DT|.mk _ _ _ _ _ l=>l
def z0o(p:Prop) [Decidable p](e:Int):Rs Unit:=if p then .ok () else .error e
def z7a(n:Int)(m:Mk):Rs Mk:=if m.count+n≤65536 then .ok {m with count:=m.count+n} else .error 2
def z3h{α:Type}(f:ByteArray→Option α)(s:ByteArray)(z:α):ByteArray→Option α:=fun u=>if s=u then some z else f u
def z2n(nm:ByteArray)(w kind init:Int)(s:Sc)(m:Mk):Rs (Sc×Mk):=
 if m.d.sigs.length<512∧m.bits+w≤4096 then
  .ok ({s with sigs:=z3h s.sigs nm m.d.sigs.length},{m with bits:=m.bits+w,d:={m.d with sigs:=m.d.sigs++[⟨s.path++nm,w,kind,init⟩]}})
 else .error 2
def z1g(clk:Bool)(l:List DT)(m:Mk):Rs Mk:=
 if m.d.procs.length<1024 then .ok {m with d:={m.d with procs:=m.d.procs++[⟨clk,l⟩]}} else .error 2
def ofK(r:Int×Int):Rs Int:=if r.2=0 then .ok r.1 else .error r.2
noncomputable def z1p(s:Sc)(x:X):Rs Int:=ofK (z3f s.env x)
noncomputable def z2q(s:Sc)(x:X):Rs Int:=ofK (q5c s.env x)
noncomputable def k2c(s:Sc)(x:X):Rs (Int×Int):=if(k5u s.env x).2=0 then .ok (k5u s.env x).1 else .error (k5u s.env x).2
def z6n(s:Sc)(nm:ByteArray):Rs Int:=match s.sigs nm with|some a=>.ok a|none=>.error 80
def z9s(l:List Sg)(a:Int):Sg:=l.getD a.toNat ⟨⟨#[]⟩,0,0,0⟩
def xAt(l:List X)(i:Nat):X:=l.getD i (.mk 0 ⟨#[]⟩ 0 0 0 [])
noncomputable def z5q(sg:List Sg)(s:Sc)(x:X):Rs (Int×Int×Int):=do
 let at_←z6n s x.name
 let w:=(z9s sg at_).w
 if x.op=2 then
  let _←z0o (0≤w - 1∧w - 1<w) 84
  return(at_,w - 1,0)
 else
  let hi←z1p s (xAt x.l 0)
  let lo←z1p s (xAt x.l (x.l.length - 1))
  let _←z0o (0≤lo∧lo≤hi∧hi<w) 84
  return(at_,hi,lo)
def z7p(clk:Bool)(k:Int):Bool:=if clk then k==4 else(k==3||k==2)
noncomputable def z2t(sg:List Sg)(s:Sc)(clk:Bool)(x:X):Rs (Int×Int×Int):=do
 let _←z0o (x.op=2∨x.op=3∨x.op=4) 85
 let r←z5q sg s x
 let k:=(z9s sg r.1).kind
 let _←z0o (z7p clk k=true) 85
 return r
def z4g:List (Rs (DE×Int))→Int→Rs (List DE×Int)
 |[],n=>.ok ([],n)
 |r::rs,n=>do
  let y←r
  let z←z4g rs (min (n+y.2) 65537)
  return(y.1::z.1,z.2)
def z5i(y:DE×Int):Rs (DE×Int):=if y.2≤65536 then .ok y else .error 2
def opD(op:Int):Int:=if op=5 then 4 else if op=6 then 5 else if op=7 then 6 else if op=8 then 7 else 0
def k2l(r:Int×Int×Int):DE:=.mk 2 0 0 r.1 r.2.1 r.2.2 0 []
def q2x(w v:Int):DE:=.mk 1 w v 0 0 0 0 []
noncomputable def q0s(sg:List Sg)(s:Sc)(x:X)(es:List (Rs (DE×Int))):Rs (DE×Int):=
 if x.op=1 then .ok (q2x x.w x.v,1)
 else if x.op=2 then match z3m s.env x.name with
  |some v=>.ok (q2x 0 v,1)
  |none=>do let r←z5q sg s x;return(k2l r,1)
 else if x.op=3 then do let r←z5q sg s x;return(k2l r,1)
 else if x.op=4 then do
  let a←z6n s x.name
  let z←z4g es 1
  z5i (.mk 3 0 0 a 0 0 0 z.1,z.2)
 else if x.op=9 then do
  let n←z1p s (xAt x.l 0)
  let _←z0o (1≤n∧n≤64) 83
  let y←es.getD 1 (.error 0)
  z5i (.mk 7 0 0 0 0 0 0 (List.replicate n.toNat y.1),1+n*y.2)
 else if x.op=10 then do
  let w←z2q s (xAt x.l 0)
  let z←z4g (es.drop 1) 1
  z5i (.mk 8 w 0 0 0 0 x.n z.1,z.2)
 else do
  let z←z4g es 1
  z5i (.mk (opD x.op) 0 0 0 0 0 x.n z.1,z.2)
mutual
noncomputable def z1f(sg:List Sg)(s:Sc):X→Rs (DE×Int)
 |.mk op nm n w v l=>q0s sg s (.mk op nm n w v l) (j4b sg s l)
noncomputable def j4b(sg:List Sg)(s:Sc):List X→List (Rs (DE×Int))
 |[]=>[]
 |x::r=>z1f sg s x::j4b sg s r
end
theorem k0o(sg:List Sg)(s:Sc)(l:List X):j4b sg s l=l.map (z1f sg s):=by
 induction l with
 |nil=>rfl
 |cons x r ih=>simp[j4b,ih]
theorem z3j(sg:List Sg)(s:Sc)(x:X):z1f sg s x=q0s sg s x (x.l.map (z1f sg s)):=by
 cases x;rw[z1f,k0o];rfl
noncomputable def z0q(s:Sc)(x:X)(m:Mk):Rs (DE×Mk):=do
 let y←z1f m.d.sigs s x
 let m'←z7a y.2 m
 return(y.1,m')
def j4n(r:Int×Int×Int)(e:DE):DT:=.mk 1 r.1 r.2.1 r.2.2 [e] []
noncomputable def z2p(s:Sc)(clk:Bool)(to x:X)(m:Mk):Rs (DT×Mk):=do
 let m1←z7a 1 m
 let r←z2t m1.d.sigs s clk to
 let y←z0q s x m1
 return(j4n r y.1,y.2)
def q0x{α:Type}:List (Mk→Rs (α×Mk))→Mk→Rs (List α×Mk)
 |[],m=>.ok ([],m)
 |f::fs,m=>do
  let y←f m
  let z←q0x fs y.2
  return(y.1::z.1,z.2)
def q8o(body:Int→Mk→Rs (List DT×Mk)):Nat→Int→Mk→Rs (List DT×Mk)
 |0,_,m=>.ok ([],m)
 |n+1,v,m=>do
  let m1←z7a 1 m
  let y←body v m1
  let z←q8o body n (v+1) y.2
  return(y.1++z.1,z.2)
noncomputable def q0i(s:Sc)(x:X)(m:Mk):Rs (DE×Mk):=do
 let b←k2c s x
 let m1←z7a 1 m
 return(q2x b.1 b.2,m1)
def Sc.con(s:Sc)(nm:ByteArray)(v:Int):Sc:={s with env:=s.env++[(nm,v)]}
noncomputable def y1e(x:S)(es:List (Sc→Mk→Rs (DT×Mk)))(s:Sc)(m:Mk):Rs (DT×Mk):=do
 let m1←z7a 1 m
 let y←q0x (x.x.map fun l=>q0i s l) m1
 let z←q0x (es.map fun f=>f s) y.2
 return(.mk 4 0 0 0 y.1 z.1,z.2)
def q4r(f:Sc→Mk→Rs (DT×Mk))(s:Sc)(m:Mk):Rs (DT×Mk):=do
 let m1←z7a 1 m
 let y←f s m1
 return(.mk 5 0 0 0 [] [y.1],y.2)
noncomputable def q6n(clk:Bool)(x:S)(es as_:List (Sc→Mk→Rs (DT×Mk)))(s:Sc)(m:Mk):Rs (DT×Mk):=
 if x.op=1 then z2p s clk (xAt x.x 0) (xAt x.x 1) m
 else do
  let m1←z7a 1 m
  if x.op=5 then
   let z←q0x (es.map fun f=>f s) m1
   return(.mk 5 0 0 0 [] z.1,z.2)
  else if x.op=6 then
   let a←z1p s (xAt x.x 0)
   let b←z1p s (xAt x.x 1)
   let z←q8o (fun v=>q0x (es.map fun f=>f (s.con x.name v))) (b - a).toNat a m1
   return(.mk 5 0 0 0 [] z.1,z.2)
  else if x.op=3 then
   let y←z0q s (xAt x.x 0) m1
   let z←q0x (as_.map fun f=>f s) y.2
   return(.mk 3 0 0 0 [y.1] z.1,z.2)
  else if x.op=2 then
   let y←z0q s (xAt x.x 0) m1
   let z←q0x ((x.l.zip es).map fun p=>if p.1.op=2 then q4r p.2 s else p.2 s) y.2
   return(.mk 2 0 0 0 [y.1] z.1,z.2)
  else return(.mk 5 0 0 0 [] [],m1)
mutual
noncomputable def z1t(clk:Bool):S→Sc→Mk→Rs (DT×Mk)
 |.mk op nm x l=>q6n clk (.mk op nm x l) (q8i clk l) (k5f clk l)
noncomputable def q7m(clk:Bool):S→Sc→Mk→Rs (DT×Mk)
 |.mk op nm x l=>y1e (.mk op nm x l) (q8i clk l)
noncomputable def q8i(clk:Bool):List S→List (Sc→Mk→Rs (DT×Mk))
 |[]=>[]
 |x::r=>z1t clk x::q8i clk r
noncomputable def k5f(clk:Bool):List S→List (Sc→Mk→Rs (DT×Mk))
 |[]=>[]
 |x::r=>q7m clk x::k5f clk r
end
theorem q8h(clk:Bool)(l:List S):q8i clk l=l.map (z1t clk):=by
 induction l with
 |nil=>rfl
 |cons x r ih=>simp[q8i,ih]
theorem k5e(clk:Bool)(l:List S):k5f clk l=l.map (q7m clk):=by
 induction l with
 |nil=>rfl
 |cons x r ih=>simp[k5f,ih]
theorem z7d(clk:Bool)(x:S):z1t clk x=q6n clk x (x.l.map (z1t clk)) (x.l.map (q7m clk)):=by
 cases x;rw[z1t,q8h,k5e];rfl
theorem k1r(clk:Bool)(x:S):q7m clk x=y1e x (x.l.map (z1t clk)):=by
 cases x;rw[q7m,q8h];rfl
noncomputable def z2b(clk:Bool)(s:Sc)(l:List S)(m:Mk):Rs (List DT×Mk):=q0x (l.map fun x=>z1t clk x s) m
def j5c(body:Int→Mk→Rs Mk):Nat→Int→Mk→Rs Mk
 |0,_,m=>.ok m
 |n+1,v,m=>do
  let m1←z7a 1 m
  let m2←body v m1
  j5c body n (v+1) m2
def k1c(n:Int):ByteArray:=⟨(Go.Lib.itoa n).toArray⟩
def tDot:ByteArray:=⟨#[46]⟩
def tOpen:ByteArray:=⟨#[91]⟩
def tShut:ByteArray:=⟨#[93,46]⟩
def Sc.pass(s:Sc)(nm of:ByteArray)(v:Int):Sc:=⟨s.env++[(of,v)],s.sigs,s.path++(nm++tOpen++k1c v++tShut)⟩
mutual
noncomputable def z1m(inst:Itm→Sc→Mk→Rs Mk):Itm→Sc→Mk→Rs (Sc×Mk)
 |.mk op nm of x st l els ps bs,s,m=>
  if op=1 then do let v←z1p s (xAt x 0);return(s.con nm v,m)
  else if op=2 then do let w←z2q s (xAt x 0);z2n nm w 3 0 s m
  else if op=3 then do
   let w←z2q s (xAt x 0)
   let b←k2c s (xAt x 1)
   z2n nm w 4 b.2 s m
  else if op=4 then do
   let y←z2p s false (xAt x 0) (xAt x 1) m
   let m2←z1g false [y.1] y.2
   return(s,m2)
  else if op=5∨op=6 then do
   let y←z2b (decide (op=6)) s st m
   let m2←z1g (decide (op=6)) y.1 y.2
   return(s,m2)
  else if op=10 then do
   let y←z0q s (xAt x 0) m
   return(s,{y.2 with d:={y.2.d with chks:=y.2.d.chks++[⟨s.path++nm,y.1⟩]}})
  else if op=7 then do let m2←inst (.mk op nm of x st l els ps bs) s m;return(s,m2)
  else if op=8 then do
   let v←z1p s (xAt x 0)
   if v≠0 then z1r inst l s m else z1r inst els s m
  else if op=9 then do
   let a←z1p s (xAt x 0)
   let b←z1p s (xAt x 1)
   let m2←j5c (fun v m1=>do let z←z1r inst l (s.pass nm of v) m1;return z.2) (b - a).toNat a m
   return(s,m2)
  else return(s,m)
noncomputable def z1r(inst:Itm→Sc→Mk→Rs Mk):List Itm→Sc→Mk→Rs (Sc×Mk)
 |[],s,m=>.ok (s,m)
 |t::r,s,m=>do
  let m1←z7a 1 m
  let z←z1m inst t s m1
  z1r inst r z.1 z.2
end
noncomputable def z2w{α:Type}(knows:ByteArray→Prop)(e:Int)(val:X→Rs α):List Bnd→(ByteArray→Option α)→Rs (ByteArray→Option α)
 |[],out=>.ok out
 |b::r,out=>do
  let _←@z0o (out b.name=none∧knows b.name) (Classical.propDecidable _) e
  let v←val b.x
  z2w knows e val r (z3h out b.name v)
noncomputable def z2v(z4e:ByteArray→Option Int):List Bnd→Sc→Rs Sc
 |[],s=>.ok s
 |p::r,s=>do
  let v←match z4e p.name with|some v=>.ok v|none=>z1p s p.x
  z2v z4e r (s.con p.name v)
noncomputable def z3v(kind:Prt→Int):List Prt→Sc→Mk→Rs (Sc×Mk)
 |[],s,m=>.ok (s,m)
 |p::r,s,m=>do
  let w←z2q s p.w
  let z←z2n p.name w (kind p) 0 s m
  z3v kind r z.1 z.2
noncomputable def q4k(of:Mdl)(z4e:ByteArray→Option Int)(path:ByteArray)(kind:Prt→Int)(m:Mk):Rs (Sc×Mk):=do
 let s←z2v z4e of.params ⟨[],fun _=>none,path⟩
 z3v kind of.ports s m
def k8i(sg:List Sg)(a:Int):DE:=.mk 2 0 0 a ((z9s sg a).w - 1) 0 0 []
noncomputable def q4z(s inn:Sc)(ends:ByteArray→Option X):List Prt→Mk→Rs Mk
 |[],m=>.ok m
 |p::r,m=>if p.o=true then q4z s inn ends r m else do
  let m1←z7a 1 m
  let a:=(inn.sigs p.name).getD 0
  let y←z0q s ((ends p.name).getD (.mk 0 ⟨#[]⟩ 0 0 0 [])) m1
  let m2←z1g false [.mk 1 a ((z9s m1.d.sigs a).w - 1) 0 [y.1] []] y.2
  q4z s inn ends r m2
noncomputable def z5p(s:Sc)(ports:ByteArray→Option Int)(ends:ByteArray→Option X):List Prt→Mk→Rs Mk
 |[],m=>.ok m
 |p::r,m=>match ends p.name,p.o with
  |some x,true=>do
   let m1←z7a 1 m
   let t←z2t m1.d.sigs s false x
   let m2←z7a 1 m1
   let a:=(ports p.name).getD 0
   let m3←z1g false [j4n t (k8i m2.d.sigs a)] m2
   z5p s ports ends r m3
  |_,_=>z5p s ports ends r m
noncomputable def z9q(ends:ByteArray→Option X):List Prt→Rs Unit
 |[]=>.ok ()
 |p::r=>do
  let _←z0o ((ends p.name).isSome=true∨p.o=true) 81
  z9q ends r
noncomputable def z6o(f:List Mdl):Nat→Itm→Sc→Mk→Rs Mk
 |0,_,_,_=>.error 0
 |k+1,t,s,m=>do
  let of:=(z5z f t.of).getD ⟨⟨#[]⟩,[],[],[]⟩
  let z4e←z2w (fun nm=>∃b,b∈of.params∧b.name=nm) 82 (fun x=>z1p s x) t.params (fun _=>none)
  let ends←z2w (fun nm=>∃p,p∈of.ports∧p.name=nm) 81 (fun x=>.ok x) t.binds (fun _=>none)
  let _←z9q ends of.ports
  let h←q4k of z4e (s.path++t.name++tDot) (fun _=>3) m
  let m1←q4z s h.1 ends of.ports h.2
  let z←z1r (z6o f k) of.items h.1 m1
  z5p s h.1.sigs ends of.ports z.2
noncomputable def z9k(of:Mdl):List (ByteArray×Int)→(ByteArray→Option Int)→Rs (ByteArray→Option Int)
 |[],out=>.ok out
 |p::r,out=>do
  let _←@z0o (out p.1=none∧∃b,b∈of.params∧b.name=p.1) (Classical.propDecidable _) 82
  let _←z0o (0≤p.2∧p.2≤2147483647) 62
  z9k of r (z3h out p.1 p.2)
def noMk:Mk:=⟨⟨[],[],[]⟩,0,0⟩
noncomputable def z6a(f:List Mdl)(top:ByteArray)(ps:List (ByteArray×Int)):Rs Dsn:=
 if z5j f≠0 then .error (z5j f) else match z5z f top with
 |none=>.error 71
 |some of=>do
  let z4e←z9k of ps (fun _=>none)
  let h←q4k of z4e ⟨#[]⟩ (fun p=>if p.o=true then 2 else 1) noMk
  let z←z1r (z6o f f.length) of.items h.1 h.2
  return z.2.d
noncomputable def z4b(f:List Mdl)(top:ByteArray)(ps:List (ByteArray×Int)):Dsn×Int:=match z6a f top ps with
 |.ok d=>(d,0)
 |.error e=>(⟨[],[],[]⟩,e)
theorem z0h{α β:Type}{r:Rs α}{f:α→Rs β}{b:β}(h:(do let a←r;f a)=.ok b):∃a,r=.ok a∧f a=.ok b:=by
 cases r with
 |error e=>cases h
 |ok a=>exact⟨a,rfl,h⟩
theorem q0h{y z:DE×Int}(h:z5i y=.ok z):z=y∧y.2≤65536:=by
 unfold z5i at h;split at h
 ·injection h with h;exact⟨h.symm,by assumption⟩
 ·cases h
theorem j4t{p:Prop} [Decidable p]{e:Int}{u:Unit}(h:z0o p e=.ok u):p:=by
 unfold z0o at h;split at h
 ·assumption
 ·cases h
theorem q0c:∀(l:List (Rs (DE×Int))) (n:Int) (z:List DE×Int),(∀r,r∈l→∀y,r=.ok y→0≤y.2)→0≤n→z4g l n=.ok z→0≤z.2
 |[],n,z,_,hn,h=>by injection h with h;rw[←h];exact hn
 |r::rs,n,z,hf,hn,h=>by
  obtain⟨y,hy,h⟩:=z0h h;obtain⟨z',hz,h⟩:=z0h h;injection h with h;have h0:=hf r (y1s ..) y hy;rw[←h];exact q0c rs _ z' (fun r' hr=>hf r' (y1r _ hr)) (by omega) hz
theorem k4k{sg:List Sg}{s:Sc}:∀(x:X) (y:DE×Int),z1f sg s x=.ok y→0≤y.2:=by
 intro x;induction x using X.ind with
 |h x ih=>
  intro y h;rw[z3j] at h;have hp:∀r,r∈x.l.map (z1f sg s)→∀y,r=.ok y→0≤y.2:=fun r hr y hy=>by
   obtain⟨z,hz,rfl⟩:=y2f.1 hr;exact ih z hz y hy
  unfold q0s at h;split at h
  ·injection h with h;rw[←h];exact(show(0:Int)≤1 by decide)
  split at h
  ·split at h
   ·injection h with h;rw[←h];exact(show(0:Int)≤1 by decide)
   ·obtain⟨r,hr,h⟩:=z0h h;injection h with h;rw[←h];exact(show(0:Int)≤1 by decide)
  split at h
  ·obtain⟨r,hr,h⟩:=z0h h;injection h with h;rw[←h];exact(show(0:Int)≤1 by decide)
  split at h
  ·obtain⟨a,ha,h⟩:=z0h h;obtain⟨z,hz,h⟩:=z0h h;rw[(q0h h).1];exact q0c _ _ z hp (by decide) hz
  split at h
  ·obtain⟨n,hn,h⟩:=z0h h;obtain⟨u,hu,h⟩:=z0h h;obtain⟨z,hz,h⟩:=z0h h;have h1:=j4t hu;have h2:0≤z.2:=by
    rw[List.getD_eq_getElem?_getD] at hz;cases he:(x.l.map (z1f sg s))[1]? with
    |none=>rw[he] at hz;cases hz
    |some r=>rw[he] at hz;exact hp r (List.mem_of_getElem? he) z hz
   rw[(q0h h).1];have:=Int.mul_nonneg (show 0≤n by omega) h2;show 0≤1+n*z.2;omega
  split at h
  ·obtain⟨a,ha,h⟩:=z0h h;obtain⟨z,hz,h⟩:=z0h h;rw[(q0h h).1];exact q0c _ _ z (fun r hr=>hp r (List.mem_of_mem_drop hr)) (by decide) hz
  ·obtain⟨z,hz,h⟩:=z0h h;rw[(q0h h).1];exact q0c _ _ z hp (by decide) hz
def Inc{α:Type}(k:Int)(f:Mk→Rs (α×Mk)):Prop:=∀m r,f m=.ok r→m.count+k≤r.2.count∧r.2.d=m.d∧r.2.bits=m.bits
theorem z7o{n:Int}{m m':Mk}(h:z7a n m=.ok m'):m'.count=m.count+n∧m'.d=m.d∧m'.bits=m.bits∧m'.count≤65536:=by
 unfold z7a at h;split at h
 ·injection h with h;rw[←h];exact⟨rfl,rfl,rfl,by assumption⟩
 ·cases h
theorem z8m(s:Sc)(x:X):Inc 0 (z0q s x):=by
 intro m r h;obtain⟨y,hy,h⟩:=z0h h;obtain⟨m',hm,h⟩:=z0h h;injection h with h;obtain⟨h1,h2,h3,-⟩:=z7o hm;have:=k4k x y hy;rw[←h];exact⟨by show _≤m'.count;omega,h2,h3⟩
theorem q5y(s:Sc)(clk:Bool)(t x:X):Inc 1 (z2p s clk t x):=by
 intro m r h;obtain⟨m1,hm,h⟩:=z0h h;obtain⟨q,hq,h⟩:=z0h h;obtain⟨y,hy,h⟩:=z0h h;injection h with h;obtain⟨h1,h2,h3,-⟩:=z7o hm;obtain⟨h4,h5,h6⟩:=z8m s x m1 y hy;rw[←h];exact⟨by show _≤y.2.count;omega,h5.trans h2,h6.trans h3⟩
theorem j9w(s:Sc)(x:X):Inc 1 (q0i s x):=by
 intro m r h;obtain⟨b,hb,h⟩:=z0h h;obtain⟨m1,hm,h⟩:=z0h h;injection h with h;obtain⟨h1,h2,h3,-⟩:=z7o hm;rw[←h];exact⟨by show _≤m1.count;omega,h2,h3⟩
theorem q4i{α:Type}:∀(fs:List (Mk→Rs (α×Mk))),(∀f,f∈fs→Inc 1 f)→∀m r,q0x fs m=.ok r→m.count+(r.1.length:Int)≤r.2.count∧r.2.d=m.d∧r.2.bits=m.bits∧r.1.length=fs.length
 |[],_,m,r,h=>by injection h with h;rw[←h];exact⟨by simp,rfl,rfl,rfl⟩
 |f::fs,hf,m,r,h=>by
  obtain⟨y,hy,h⟩:=z0h h;obtain⟨z,hz,h⟩:=z0h h;injection h with h;obtain⟨h1,h2,h3⟩:=hf f (y1s ..) m y hy;obtain⟨h4,h5,h6,h7⟩:=q4i fs (fun g hg=>hf g (y1r _ hg)) y.2 z hz;rw[←h];refine⟨?_,h5.trans h2,h6.trans h3,by simp[h7]⟩;show m.count+((y.1::z.1).length:Int)≤z.2.count;rw[List.length_cons];omega
theorem Inc.row{α:Type}{fs:List (Mk→Rs (α×Mk))}(h:∀f,f∈fs→Inc 1 f):Inc 0 (q0x fs):=fun m r hr=>by
 obtain⟨h1,h2,h3,-⟩:=q4i fs h m r hr;exact⟨by omega,h2,h3⟩
theorem j3u{body:Int→Mk→Rs (List DT×Mk)}(hb:∀v m r,body v m=.ok r→m.count+(r.1.length:Int)≤r.2.count∧r.2.d=m.d∧r.2.bits=m.bits):∀(n:Nat) (v:Int) (m:Mk) (r:List DT×Mk),q8o body n v m=.ok r→m.count+(r.1.length:Int)≤r.2.count∧r.2.d=m.d∧r.2.bits=m.bits
 |0,v,m,r,h=>by injection h with h;rw[←h];exact⟨by simp,rfl,rfl⟩
 |n+1,v,m,r,h=>by
  obtain⟨m1,hm,h⟩:=z0h h;obtain⟨y,hy,h⟩:=z0h h;obtain⟨z,hz,h⟩:=z0h h;injection h with h;obtain⟨h1,h2,h3,-⟩:=z7o hm;obtain⟨h4,h5,h6⟩:=hb v m1 y hy;obtain⟨h7,h8,h9⟩:=j3u hb n (v+1) y.2 z hz;rw[←h];refine⟨?_,h8.trans (h5.trans h2),h9.trans (h6.trans h3)⟩;show m.count+((y.1++z.1).length:Int)≤z.2.count;rw[List.length_append];omega
theorem j3t(clk:Bool):∀x:S,(∀s,Inc 1 (z1t clk x s))∧(∀s,Inc 1 (q7m clk x s)):=by
 intro x;induction x using S.ind with
 |h x ih=>
  have hs:∀s f,f∈(x.l.map (z1t clk)).map (fun f=>f s)→Inc 1 f:=fun s f hf=>by
   rw[List.map_map] at hf;obtain⟨y,hy,rfl⟩:=y2f.1 hf;exact(ih y hy).1 s
  have ha:∀s f,f∈(x.l.map (q7m clk)).map (fun f=>f s)→Inc 1 f:=fun s f hf=>by
   rw[List.map_map] at hf;obtain⟨y,hy,rfl⟩:=y2f.1 hf;exact(ih y hy).2 s
  refine⟨fun s m r h=>?_,fun s m r h=>?_⟩
  ·rw[z7d] at h;unfold q6n at h;split at h
   ·exact q5y _ _ _ _ m r h
   obtain⟨m1,hm,h⟩:=z0h h;obtain⟨h1,h2,h3,-⟩:=z7o hm;split at h
   ·obtain⟨z,hz,h⟩:=z0h h;injection h with h;obtain⟨h4,h5,h6⟩:=Inc.row (hs s) m1 z hz;rw[←h];exact⟨by show _≤z.2.count;omega,h5.trans h2,h6.trans h3⟩
   split at h
   ·obtain⟨a,ha',h⟩:=z0h h;obtain⟨b,hb,h⟩:=z0h h;obtain⟨z,hz,h⟩:=z0h h;injection h with h;obtain⟨h4,h5,h6⟩:=j3u (fun v m r hr=>by
     obtain⟨g1,g2,g3,-⟩:=q4i _ (hs _) m r hr;exact⟨g1,g2,g3⟩) _ _ m1 z hz
    rw[←h];exact⟨by show _≤z.2.count;omega,h5.trans h2,h6.trans h3⟩
   split at h
   ·obtain⟨y,hy,h⟩:=z0h h;obtain⟨z,hz,h⟩:=z0h h;injection h with h;obtain⟨g1,g2,g3⟩:=z8m _ _ m1 y hy;obtain⟨h4,h5,h6⟩:=Inc.row (ha s) y.2 z hz;rw[←h];exact⟨by show _≤z.2.count;omega,h5.trans (g2.trans h2),h6.trans (g3.trans h3)⟩
   split at h
   ·obtain⟨y,hy,h⟩:=z0h h;obtain⟨z,hz,h⟩:=z0h h;injection h with h;obtain⟨g1,g2,g3⟩:=z8m _ _ m1 y hy;obtain⟨h4,h5,h6⟩:=Inc.row (fs:=(x.l.zip (x.l.map (z1t clk))).map fun p=>if p.1.op=2 then q4r p.2 s else p.2 s) (fun f hf=>by
     obtain⟨p,hp,rfl⟩:=y2f.1 hf;obtain⟨p1,p2⟩:=p;have hp2:=(List.of_mem_zip hp).2;obtain⟨y',hy',rfl⟩:=y2f.1 hp2;simp only;split
     ·intro m r h;obtain⟨m1,hm,h⟩:=z0h h;obtain⟨z,hz,h⟩:=z0h h;injection h with h;obtain⟨a1,a2,a3,-⟩:=z7o hm;obtain⟨b1,b2,b3⟩:=(ih y' hy').1 s m1 z hz;rw[←h];exact⟨by show _≤z.2.count;omega,b2.trans a2,b3.trans a3⟩
     ·exact(ih y' hy').1 s) y.2 z hz
    rw[←h];exact⟨by show _≤z.2.count;omega,h5.trans (g2.trans h2),h6.trans (g3.trans h3)⟩
   ·injection h with h;rw[←h];exact⟨by show _≤m1.count;omega,h2,h3⟩
  ·rw[k1r] at h;obtain⟨m1,hm,h⟩:=z0h h;obtain⟨y,hy,h⟩:=z0h h;obtain⟨z,hz,h⟩:=z0h h;injection h with h;obtain⟨h1,h2,h3,-⟩:=z7o hm;obtain⟨g1,g2,g3⟩:=Inc.row (fs:=x.x.map fun l=>q0i s l) (fun f hf=>by
    obtain⟨l,-,rfl⟩:=y2f.1 hf;exact j9w s l) m1 y hy
   obtain⟨h4,h5,h6⟩:=Inc.row (hs s) y.2 z hz;rw[←h];exact⟨by show _≤z.2.count;omega,h5.trans (g2.trans h2),h6.trans (g3.trans h3)⟩
theorem j7n{clk:Bool}{s:Sc}{l:List S}{m:Mk}{r:List DT×Mk}(h:z2b clk s l m=.ok r):m.count+(r.1.length:Int)≤r.2.count:=(q4i _ (fun f hf=>by
 obtain⟨y,-,rfl⟩:=y2f.1 hf;exact(j3t clk y).1 s) m r h).1
theorem q0o{s:Sc}{x:X}{v:Int}(h:z1p s x=.ok v):z1j v:=by
 unfold z1p ofK at h;split at h
 ·rename_i h0
  injection h with h;unfold z3f at h h0;split at h0
  ·rename_i hc
   rw[if_pos hc] at h;have hk:=j3g (z3m s.env) x;unfold okK at hk;rw[←h];rcases hk with⟨-,hi⟩|⟨hn,-⟩
   ·exact hi
   ·exfalso;omega
  ·exact absurd h0 (by decide)
 ·cases h
theorem q3n{s:Sc}{x:X}{v:Int}(h:z2q s x=.ok v):1≤v∧v≤64:=by
 unfold z2q ofK at h;split at h
 ·rename_i h0
  injection h with h;unfold q5c at h h0;split at h0
  ·exact absurd h0 (by decide)
  ·rename_i hc
   rw[if_neg hc] at h;have:¬((z3f s.env x).1<1∨64<(z3f s.env x).1):=fun e=>hc ⟨h0,e⟩
   omega
 ·cases h
theorem z3p{nm:ByteArray}{wd kind init:Int}{s:Sc}{m:Mk}{r:Sc×Mk}(h:z2n nm wd kind init s m=.ok r):
 r=({s with sigs:=z3h s.sigs nm m.d.sigs.length},{m with bits:=m.bits+wd,d:={m.d with sigs:=m.d.sigs++[⟨s.path++nm,wd,kind,init⟩]}})∧m.d.sigs.length<512∧m.bits+wd≤4096:=by
 unfold z2n at h;split at h
 ·rename_i hc
  injection h with h;exact⟨h.symm,hc.1,hc.2⟩
 ·cases h
theorem z2u{clk:Bool}{l:List DT}{m m':Mk}(h:z1g clk l m=.ok m'):m'={m with d:={m.d with procs:=m.d.procs++[⟨clk,l⟩]}}∧m.d.procs.length<1024:=by
 unfold z1g at h;split at h
 ·injection h with h;exact⟨h.symm,by assumption⟩
 ·cases h
section
variable (inst : Itm → Sc → Mk → Rs Mk) (t : Itm) (s : Sc) (m : Mk)
theorem q4f(h:t.op=1):z1m inst t s m=(do let v←z1p s (xAt t.x 0);return(s.con t.name v,m)):=by
 obtain⟨op,nm,of,x,st,l,els,ps,bs⟩:=t;simp only[Itm.op] at h;subst h;rw[z1m];rfl
theorem q5u(h:t.op=2):z1m inst t s m=(do let w←z2q s (xAt t.x 0);z2n t.name w 3 0 s m):=by
 obtain⟨op,nm,of,x,st,l,els,ps,bs⟩:=t;simp only[Itm.op] at h;subst h;rw[z1m];rfl
theorem q9d(h:t.op=3):z1m inst t s m=(do let w←z2q s (xAt t.x 0);let b←k2c s (xAt t.x 1);z2n t.name w 4 b.2 s m):=by
 obtain⟨op,nm,of,x,st,l,els,ps,bs⟩:=t;simp only[Itm.op] at h;subst h;rw[z1m];rfl
theorem q2n(h:t.op=4):z1m inst t s m=(do let y←z2p s false (xAt t.x 0) (xAt t.x 1) m;let m2←z1g false [y.1] y.2;return(s,m2)):=by
 obtain⟨op,nm,of,x,st,l,els,ps,bs⟩:=t;simp only[Itm.op] at h;subst h;rw[z1m];rfl
theorem q1s(h:t.op=5∨t.op=6):z1m inst t s m=(do let y←z2b (decide (t.op=6)) s t.s m;let m2←z1g (decide (t.op=6)) y.1 y.2;return(s,m2)):=by
 obtain⟨op,nm,of,x,st,l,els,ps,bs⟩:=t;simp only[Itm.op] at h;rcases h with h|h<;>subst h<;>rw[z1m]<;>rfl
theorem q4g(h:t.op=10):z1m inst t s m=(do let y←z0q s (xAt t.x 0) m;return(s,{y.2 with d:={y.2.d with chks:=y.2.d.chks++[⟨s.path++t.name,y.1⟩]}})):=by
 obtain⟨op,nm,of,x,st,l,els,ps,bs⟩:=t;simp only[Itm.op] at h;subst h;rw[z1m];rfl
theorem q5w(h:t.op=7):z1m inst t s m=(do let m2←inst t s m;return(s,m2)):=by
 obtain⟨op,nm,of,x,st,l,els,ps,bs⟩:=t;simp only[Itm.op] at h;subst h;rw[z1m];rfl
theorem j3o(h:t.op=8):z1m inst t s m=(do let v←z1p s (xAt t.x 0);if v≠0 then z1r inst t.l s m else z1r inst t.els s m):=by
 obtain⟨op,nm,of,x,st,l,els,ps,bs⟩:=t;simp only[Itm.op] at h;subst h;rw[z1m];rfl
theorem q5v(h:t.op=9):z1m inst t s m=(do
 let a←z1p s (xAt t.x 0)
 let b←z1p s (xAt t.x 1)
 let m2←j5c (fun v m1=>do let z←z1r inst t.l (s.pass t.name t.of v) m1;return z.2) (b - a).toNat a m
 return(s,m2)):=by
 obtain⟨op,nm,of,x,st,l,els,ps,bs⟩:=t;simp only[Itm.op] at h;subst h;rw[z1m];rfl
end
def y0e(inst:Itm→Sc→Mk→Rs Mk):Prop:=∀t s m m',inst t s m=.ok m'→m.d.sigs.length≤m'.d.sigs.length
theorem j0h{n:Int}{m m':Mk}(h:z7a n m=.ok m'):m'.d=m.d:=by
 unfold z7a at h;split at h
 ·injection h with h;rw[←h]
 ·cases h
theorem q5k{body:Int→Mk→Rs Mk}(hb:∀v m m',body v m=.ok m'→m.d.sigs.length≤m'.d.sigs.length):∀(n:Nat) (v:Int) (m m':Mk),j5c body n v m=.ok m'→m.d.sigs.length≤m'.d.sigs.length
 |0,v,m,m',h=>by injection h with h;rw[h];exact y1j _
 |n+1,v,m,m',h=>by
  obtain⟨m1,h1,h⟩:=z0h h;obtain⟨m2,h2,h⟩:=z0h h;have:=q5k hb n (v+1) m2 m' h;have h3:=hb v m1 m2 h2;rw[j0h h1] at h3;omega
theorem z3n{inst:Itm→Sc→Mk→Rs Mk}:∀(l:List Itm),(∀t,t∈l→∀s m r,z1m inst t s m=.ok r→m.d.sigs.length≤r.2.d.sigs.length)→∀s m r,z1r inst l s m=.ok r→m.d.sigs.length≤r.2.d.sigs.length
 |[],_,s,m,r,h=>by rw[z1r] at h;injection h with h;rw[←h];exact y1j _
 |t::l,hl,s,m,r,h=>by
  rw[z1r] at h;obtain⟨m1,h1,h⟩:=z0h h;obtain⟨z,h2,h⟩:=z0h h;have h3:=hl t (y1s ..) _ _ _ h2;have h4:=z3n l (fun t ht=>hl t (y1r _ ht)) _ _ _ h;rw[j0h h1] at h3;omega
theorem j5t{inst:Itm→Sc→Mk→Rs Mk}{t:Itm}{s:Sc}{m:Mk}(h:¬(1≤t.op∧t.op≤10)):z1m inst t s m=.ok (s,m):=by
 obtain⟨op,nm,of,x,st,l,els,ps,bs⟩:=t;simp only[Itm.op] at h;rw[z1m];rw[if_neg (by omega),if_neg (by omega),if_neg (by omega),if_neg (by omega),if_neg (by omega),if_neg (by omega),if_neg (by omega),if_neg (by omega),if_neg (by omega)];rfl
theorem q1t{inst:Itm→Sc→Mk→Rs Mk}(hi:y0e inst):∀(t:Itm) (s:Sc) (m:Mk) (r:Sc×Mk),z1m inst t s m=.ok r→m.d.sigs.length≤r.2.d.sigs.length:=by
 intro t;induction t using Itm.ind with
 |h t ih1 ih2=>
  intro s m r h;by_cases h1:t.op=1
  ·rw[q4f inst t s m h1] at h;obtain⟨v,-,h⟩:=z0h h;injection h with h;rw[←h];exact y1j _
  by_cases h2:t.op=2
  ·rw[q5u inst t s m h2] at h;obtain⟨v,-,h⟩:=z0h h;rw[(z3p h).1];simp
  by_cases h3:t.op=3
  ·rw[q9d inst t s m h3] at h;obtain⟨v,-,h⟩:=z0h h;obtain⟨b,-,h⟩:=z0h h;rw[(z3p h).1];simp
  by_cases h4:t.op=4
  ·rw[q2n inst t s m h4] at h;obtain⟨y,h5,h⟩:=z0h h;obtain⟨m2,h6,h⟩:=z0h h;injection h with h;rw[←h,(z2u h6).1];show _≤y.2.d.sigs.length;rw[(q5y s false _ _ m y h5).2.1];exact y1j _
  by_cases h5:t.op=5∨t.op=6
  ·rw[q1s inst t s m h5] at h;obtain⟨y,h6,h⟩:=z0h h;obtain⟨m2,h7,h⟩:=z0h h;injection h with h;rw[←h,(z2u h7).1];show _≤y.2.d.sigs.length;rw[(q4i _ (fun f hf=>by obtain⟨x,-,rfl⟩:=List.mem_map.1 hf;exact(j3t _ x).1 s) m y h6).2.1];exact y1j _
  by_cases h6:t.op=10
  ·rw[q4g inst t s m h6] at h;obtain⟨y,h7,h⟩:=z0h h;injection h with h;rw[←h];show _≤y.2.d.sigs.length;rw[(z8m s _ m y h7).2.1];exact y1j _
  by_cases h7:t.op=7
  ·rw[q5w inst t s m h7] at h;obtain⟨m2,h8,h⟩:=z0h h;injection h with h;rw[←h];exact hi _ _ _ _ h8
  by_cases h8:t.op=8
  ·rw[j3o inst t s m h8] at h;obtain⟨v,-,h⟩:=z0h h;split at h
   ·exact z3n t.l (fun y hy=>ih1 y hy) s m r h
   ·exact z3n t.els (fun y hy=>ih2 y hy) s m r h
  by_cases h9:t.op=9
  ·rw[q5v inst t s m h9] at h;obtain⟨a,-,h⟩:=z0h h;obtain⟨b,-,h⟩:=z0h h;obtain⟨m2,h10,h⟩:=z0h h;injection h with h;rw[←h];refine q5k (fun v m m' hv=>?_) _ _ _ _ h10;obtain⟨z,hz,hv⟩:=z0h hv;injection hv with hv;rw[←hv];exact z3n t.l (fun y hy=>ih1 y hy) _ _ _ hz
  rw[j5t (by omega)] at h;injection h with h;rw[←h];exact y1j _
theorem ofIs_mem{l:List Itm}{s:ByteArray}:s∈q2m l↔∃t,t∈l∧s∈ofI t:=by
 induction l with
 |nil=>simp[q2m]
 |cons x l ih=>simp[q2m,ih]
theorem ofI_mem{t:Itm}{s:ByteArray}:s∈ofI t↔(t.op=7∧s=t.of)∨s∈q2m t.l∨s∈q2m t.els:=by
 rw[k5t];by_cases h:t.op=7
 ·simp[h]
 ·simp[h]
def RkM(f:List Mdl):Nat→List ByteArray→Prop
 |0,l=>∀s,¬s∈l
 |k+1,l=>∀s,s∈l→∃of,z5z f s=some of∧RkM f k (q2m of.items)
theorem RkM.sub{f:List Mdl}:∀{k:Nat} {l r:List ByteArray},RkM f k l→(∀s,s∈r→s∈l)→RkM f k r
 |0,_,_,h,hs=>fun s hr=>h s (hs s hr)
 |k+1,_,_,h,hs=>fun s hr=>h s (hs s hr)
theorem q2u{f:List Mdl}(h:z5j f=0):z6t f=0∧(z0v f).Nodup∧(∀m,m∈f→z6i m)∧(∀m,m∈f→∀s,s∈z4t m→s∈z0v f)∧(z3w f).length=f.length:=by
 unfold z5j at h;split at h
 ·rename_i h0
  unfold z5h at h;split at h
  ·rename_i h1
   split at h
   ·rename_i h2
    split at h
    ·exact absurd h (by decide)
    ·rename_i h3
     have:=(q1m f).1.le;exact⟨h0,h1.1,h1.2,h2,by omega⟩
   ·exact absurd h (by decide)
  ·exact absurd h (by decide)
 ·rename_i h0;exact absurd h h0
theorem k4g{f:List Mdl}(hn:(z0v f).Nodup){m:Mdl}(hm:m∈f):z5z f m.name=some m:=by
 induction f with
 |nil=>cases hm
 |cons a r ih=>
  unfold z5z;rw[List.find?_cons];obtain⟨h1,h2⟩:=List.nodup_cons.1 (show(a.name::z0v r).Nodup from hn);rcases List.mem_cons.1 hm with rfl|hr
  ·rw[yes_iff.2 rfl]
  ·rw[yes_no.2 (fun e=>h1 (by rw[e];exact y2f.2 ⟨m,hr,rfl⟩))];exact ih h2 hr
theorem j4z{f:List Mdl}(hn:(z0v f).Nodup){out:List ByteArray}(ho:Ordered f out):∀k,k≤out.length→RkM f k (out.take k):=by
 intro k;induction k with
 |zero=>intro _ s hs;simp at hs
 |succ k ih=>
  intro hk s hs;obtain⟨j,hj,rfl⟩:=List.getElem_of_mem hs;rw[List.length_take] at hj;rw[List.getElem_take];obtain⟨m,h1,h2,h3⟩:=ho.pre j (by omega);rw[←h2];refine⟨m,k4g hn h1,(ih (by omega)).sub fun s hs=>?_⟩;have h4:=h3 s (mem_uses.2 hs);exact(List.take_subset_take_left _ (by omega:j≤k)) h4
theorem k6m{f:List Mdl}(h:z5j f=0){m:Mdl}(hm:m∈f):RkM f f.length (q2m m.items):=by
 obtain⟨-,hn,-,hu,hl⟩:=q2u h;have ho:=(q1m f).1;have hr:=j4z hn ho f.length (by omega);rw[←hl,List.take_length] at hr;rw[←hl];refine hr.sub fun s hs=>?_
 have h1:=hu m hm s (mem_uses.2 hs);have hf:(z0v f).length=(z3w f).length:=by simp[z0v,hl]
 by_cases h2:s∈z3w f
 ·exact h2
 ·exfalso;have:=j3j (o:=s::z3w f) (l:=z0v f) (List.nodup_cons.2 ⟨h2,ho.nodup⟩) (fun t ht=>by
   rcases List.mem_cons.1 ht with rfl|ht
   ·exact h1
   ·exact ho.sub t ht)
  rw[List.length_cons] at this;omega
def Tag(w:World)(b:Nat)(T:TypeId):Prop:=∃cur fz,w.heap[b]? =some (.cells cur T fz)
theorem Tag.one{w:World}{b:Nat}{T T':TypeId}(h:Tag w b T)(k:Tag w b T'):T=T':=by
 obtain⟨c,z,h⟩:=h;obtain⟨c',z',k⟩:=k;rw[h] at k;injection k with k;injection k
theorem Blk.tag{w:World}{g:Nat}{t:TypeId}{cs:List Value}(h:Blk w g t cs):Tag w g t:=⟨_,_,h⟩
theorem Tag.lt{w:World}{b:Nat}{T:TypeId}(h:Tag w b T):b<w.heap.size:=by
 obtain⟨c,z,h⟩:=h;exact(y1n.1 h).1
theorem Tag.of_eq{w w':World}{b:Nat}{T:TypeId}(h:Tag w b T)(he:w'.heap[b]? =w.heap[b]?):Tag w' b T:=by
 obtain⟨c,z,h⟩:=h;exact⟨c,z,he.trans h⟩
theorem MV.noTag{w:World}{m:Nat}{L:List (Value×Value)}(h:MV w m L){T:TypeId}(k:Tag w m T):False:=by
 obtain⟨es,clock,h,-⟩:=h;obtain⟨c,z,k⟩:=k;rw[h] at k;cases k
def SlT{α:Type}(T:TypeId)(R:α→List Value→Prop)(w:World)(sz:Nat)(l:List α)(v:Value):Prop:=
 ∃a cap,v=.slice a l.length cap∧l.length≤cap∧∀k,(h:k<l.length)→∃b o cs,a=some ⟨b,o,none⟩∧Tag w b T∧cs.length=sz∧Cells w b (o+k*sz) cs∧(∀v,v∈cs→v.oneCell'=true)∧R l[k] cs
def Kp(w w':World):Prop:=∀b,(Tag w b 60∨Tag w b 73∨Tag w b 85)→w'.heap[b]? =w.heap[b]?
theorem Ext.kp{w w':World}(h:Ext w w'):Kp w w':=fun b hb=>by
 have hlt:b<w.heap.size:=by rcases hb with hb|hb|hb<;>exact hb.lt
 exact h.heap hlt
def j0q(T:TypeId):Prop:=T=60∨T=73∨T=85
theorem Kp.at_{w w':World}(h:Kp w w'){b:Nat}{T:TypeId}(hT:j0q T)(hb:Tag w b T):w'.heap[b]? =w.heap[b]? :=by
 rcases hT with rfl|rfl|rfl
 ·exact h b (.inl hb)
 ·exact h b (.inr (.inl hb))
 ·exact h b (.inr (.inr hb))
theorem SlT.keep{α:Type}{T:TypeId}{R R':α→List Value→Prop}{w w':World}{sz:Nat}{l:List α}{v:Value}(h:SlT T R w sz l v)(hT:j0q T)(hk:Kp w w')(hR:∀y,y∈l→∀cs,R y cs→R' y cs):SlT T R' w' sz l v:=by
 obtain⟨a,cap,hv,hc,hr⟩:=h;refine⟨a,cap,hv,hc,fun k hlt=>?_⟩;obtain⟨b,o,cs,ha,ht,hl,hC,h1,hR1⟩:=hr k hlt;have he:=hk.at_ hT ht;exact⟨b,o,cs,ha,ht.of_eq he,hl,fun j u hu=>(y2b (a:=⟨b,o+k*sz+j,none⟩) he).trans (hC j u hu),h1,hR _ (y1l hlt) _ hR1⟩
theorem SlT.nil{α:Type}{T:TypeId}{R:α→List Value→Prop}{w:World}{sz:Nat}:SlT T R w sz [] (.slice none 0 0):=⟨none,0,rfl,y1j _,fun k hk=>absurd hk (by simp)⟩
theorem SlT.oneCell{α:Type}{T:TypeId}{R:α→List Value→Prop}{w:World}{sz:Nat}{l:List α}{v:Value}(h:SlT T R w sz l v):v.oneCell'=true:=by
 obtain⟨a,cap,rfl,_,_⟩:=h;rfl
theorem SlT.form{α:Type}{T:TypeId}{R:α→List Value→Prop}{w:World}{sz:Nat}{l:List α}{v:Value}(h:SlT T R w sz l v):∃a cap,v=.slice a l.length cap:=by
 obtain⟨a,cap,hv,_,_⟩:=h;exact⟨a,cap,hv⟩
theorem SlT.sl{α:Type}{T:TypeId}{R:α→List Value→Prop}{w:World}{sz:Nat}{l:List α}{v:Value}(h:SlT T R w sz l v):Sl R w w.heap.size sz l v:=by
 obtain⟨a,cap,hv,hc,hr⟩:=h;refine⟨a,cap,hv,hc,fun k hlt=>?_⟩;obtain⟨b,o,cs,ha,ht,hl,hC,h1,hR1⟩:=hr k hlt;exact⟨b,o,cs,ha,ht.lt,hl,hC,h1,hR1⟩
theorem OwnL.slT{α:Type}{R:α→List Value→Prop}{base:Nat}{e:TypeId}{sz:Nat}{l:List α}{v:Value}{X:World}(hsz:0<sz)(h:OwnL R base e sz l v X):SlT e R X sz l v:=by
 obtain⟨a,cap,hv,hc,hr⟩:=h.sl hsz;obtain⟨xs,ho,-⟩:=h.ex;refine⟨a,cap,hv,hc,fun k hlt=>?_⟩;obtain⟨b,o,cs,ha,hb,hl,hC,h1,hR1⟩:=hr k hlt;refine⟨b,o,cs,ha,?_,hl,hC,h1,hR1⟩;rcases ho.2 with⟨h0,h2⟩|⟨g,cap',cur,h0,-,h2,-⟩
 ·rw[hv] at h0;injection h0 with h0;rw[ha] at h0;cases h0
 ·rw[hv,ha] at h0;injection h0 with h0;injection h0 with h0;injection h0 with h0;subst h0;exact⟨_,_,h2⟩
theorem k1t(b:Addr):b.add 0=b:=by unfold Addr.add;simp
theorem j1d(a:Option Addr)(n s:Nat):Go.sliced a 0 n n s=.slice a n n:=by
 unfold Go.sliced
 congr 1
 split
 ·rfl
 ·cases a with
  |none=>rfl
  |some b=>simp[k1t]
theorem q3u{P:Program}(w:World)(t ty e:TypeId)(i:TypeInfo)(z:Value)(size bytes:Nat)(ht:P.underlying t=some (.slice e))(hi:P.info? e=some i)(hz:i.zero=some z)
 (hsize:i.size=size) (hby:i.bytes=bytes) (hzs:z.cells.size=size) (hb:bytes≤1000)
 (A0:Option Addr) (n:Nat) (xs:List Value) (hxs:Flat w size A0 n xs) (ad:Addr) (m c:Nat) (news:List Value) (hl:news.length=m*size) (hnews:∀j u,news[j]? =some u→w.cell? (ad.add j)=some u)
 (hn:n≤1000000000) (hm:m≤1000000000) (h0:0<m):
 ∃v' w',(Builtin.append_ #[t,t] ty #[.slice A0 n n,.slice (some ad) m c]).run P w=.ok v' w'∧w'.ownsRow w.heap.size e size v' (n+m) (xs++news)∧Ext w w':=by
 subst hsize;subst hby
 have hlen:(xs++news).length=(n+m)*i.size:=by rw[List.length_append,hxs.1,hl,Nat.add_mul]
 have hbytes:(n+m)*i.bytes≤140737488355328:=by
  calc (n+m)*i.bytes≤2000000000*1000:=Nat.mul_le_mul (by omega) hb
   _≤140737488355328:=by decide
 have h63:n+m≤maxLen:=by simp only[maxLen];omega
 have grown:∀(old:Nat),old<n+m→
  (w.drew.alloc (.cells (xs.toArray++news.toArray++Builtin.zeroCells z.cells (grownCap w (n+m) old e - (n+m))) e)).ownsRow w.heap.size e i.size
    (.slice (some ⟨w.heap.size,0,none⟩) (n+m) (grownCap w (n+m) old e)) (n+m) (xs++news)∧
  Ext w (w.drew.alloc (.cells (xs.toArray++news.toArray++Builtin.zeroCells z.cells (grownCap w (n+m) old e - (n+m))) e)):=by
  intro old ho;have hge:=grownCap_ge w (n+m) old e;have hcm:grownCap w (n+m) old e≤maxLen:=grownCap_le_maxLen w (n+m) old e h63;refine⟨⟨hlen,.inr ⟨w.heap.size,_,_,rfl,y1j _,heap_alloc_new w.drew _,hge,hcm,?_,?_⟩⟩,((y1g w).drew).alloc _⟩
  ·simp only[Array.size_append,List.size_toArray,size_zeroCells,hzs,hxs.1,hl,←Nat.add_mul]
   congr 1
   omega
  ·simp only[Array.toList_append,List.append_assoc];rw[←List.append_assoc,←hlen];exact List.take_left
 rcases A0 with _|b
 ·have hn0:n=0:=by
   rcases Nat.eq_zero_or_pos n with h|h
   ·exact h
   ·obtain⟨_,_,h,_⟩:=hxs.2.2 h;cases h
  subst hn0;obtain rfl:xs=[]:=y1q (by simpa using hxs.1);have hr:=run_append_nil (P:=P) w t ty e i z ht hi hz ad m c news hl hnews h0 (by omega) (by have hb:=hbytes;simp only[Nat.zero_add] at hb;omega);have hgr:=grown 0 (by omega);simp only[Nat.zero_add,List.nil_append,Array.empty_append] at hgr⊢;exact⟨_,_,hr,hgr.1,hgr.2⟩
 ·have holds:∀j u,xs[j]? =some u→w.cell? (b.add j)=some u:=by
   intro j u hu;rcases Nat.eq_zero_or_pos n with h|h
   ·subst h;obtain rfl:xs=[]:=y1q (by simpa using hxs.1);simp at hu
   ·obtain⟨b',o,h',hc⟩:=hxs.2.2 h;injection h' with h';subst h';rw[z4d];exact hc j u hu
  have hr:=run_append_grow (P:=P) w t ty e i z ht hi hz b n n xs hxs.1 holds ad m c news hl hnews (by omega) (by omega) (growslice_fits (by omega) hbytes);have hgr:=grown n (by omega);exact⟨_,_,hr,hgr.1,hgr.2⟩
theorem z9v{P:Program}{w:World}{ops:Array Oper}{rest:List Oper}{o:Oper}{a:Act}{Q:Exit→Act→World→Prop}(hgd:o.guard=none)(s x:Operand)(t:TypeId)
 (ho:o.op=.call {callee:=.builtin .append,args:=#[s,x],argTypes:=#[t,t]})
 (e:TypeId) (i:TypeInfo) (z:Value) (size bytes:Nat) (ht:P.underlying t=some (.slice e)) (hi:P.info? e=some i) (hz:i.zero=some z)
 (hsize:i.size=size) (hby:i.bytes=bytes) (hzs:z.cells.size=size) (hb:bytes≤1000)
 (A0:Option Addr) (n:Nat) (xs:List Value) (hs:a.eval s=.slice A0 n n) (hxs:Flat w size A0 n xs)
 (b q m c:Nat) (news:List Value) (hx:a.eval x=.slice (some ⟨b,q,none⟩) m c) (hl:news.length=m*size) (hnews:Cells w b q news)
 (hn:n≤1000000000) (hm:m≤1000000000) (h0:0<m)
 (h:∀v' w',w'.ownsRow w.heap.size e size v' (n+m) (xs++news)→Ext w w'→wpList P ops Q rest (a.put o.dst v') w'):wpList P ops Q (o::rest) a w:=
 wpList_plain hgd fun _ hK=>by
  obtain⟨v',w',hrun,h2,h3⟩:=q3u (P:=P) w t o.type e i z size bytes ht hi hz hsize hby hzs hb A0 n xs hxs ⟨b,q,none⟩ m c news hl (fun j u hu=>by rw[z4d];exact hnews j u hu) hn hm h0;unfold Oper.wp execOp;simp only[ho,resolve,invoke,builtin,Sem.run_bind,Sem.run_pure,Result.andThen_ok,List.map_toArray,List.map_cons,List.map_nil,hs,hx,hrun];exact hK _ _ (h v' w' h2 h3)
def RE8(w:World):DE→List Value→Prop
 |.mk op wd v sig hi lo n l,cs=>∃a cap,cs=[.int .i64 op,.int .i64 wd,.int .u64 v,.int .i64 sig,.int .i64 hi,.int .i64 lo,.int .i64 n,.slice a l.length cap]∧l.length≤cap∧
   ∀k,(h:k<l.length)→∃b o c,a=some ⟨b,o,none⟩∧Tag w b 60∧c.length=8∧Cells w b (o+k*8) c∧(∀v,v∈c→v.oneCell'=true)∧RE8 w l[k] c
termination_by x=>SizeOf.sizeOf x
decreasing_by
 have:=List.sizeOf_lt_of_mem (y1l h);simp only[DE.mk.sizeOf_spec];omega
theorem RE8_iff{w:World}{x:DE}{cs:List Value}:
 RE8 w x cs↔∃v,cs=[.int .i64 x.op,.int .i64 x.w,.int .u64 x.v,.int .i64 x.sig,.int .i64 x.hi,.int .i64 x.lo,.int .i64 x.n,v]∧SlT 60 (RE8 w) w 8 x.l v:=by
 obtain⟨op,wd,v,sig,hi,lo,n,l⟩:=x;rw[RE8];constructor
 ·rintro⟨a,cap,h1,h2,h3⟩;exact⟨_,h1,a,cap,rfl,h2,h3⟩
 ·rintro⟨_,h1,a,cap,rfl,h2,h3⟩;exact⟨a,cap,h1,h2,h3⟩
mutual
theorem DE.ind{P:DE→Prop}(h:∀x,(∀y,y∈x.l→P y)→P x):∀x,P x
 |.mk op w v sig hi lo n l=>h _ (DE.indL h l)
theorem DE.indL{P:DE→Prop}(h:∀x,(∀y,y∈x.l→P y)→P x):∀(l:List DE) (y:DE),y∈l→P y
 |[],_,hy=>by cases hy
 |a::r,y,hy=>by
  cases hy with
  |head=>exact DE.ind h a
  |tail _ ht=>exact DE.indL h r y ht
end
mutual
theorem DT.ind{P:DT→Prop}(h:∀x,(∀y,y∈x.l→P y)→P x):∀x,P x
 |.mk op sig hi lo e l=>h _ (DT.indL h l)
theorem DT.indL{P:DT→Prop}(h:∀x,(∀y,y∈x.l→P y)→P x):∀(l:List DT) (y:DT),y∈l→P y
 |[],_,hy=>by cases hy
 |a::r,y,hy=>by
  cases hy with
  |head=>exact DT.ind h a
  |tail _ ht=>exact DT.indL h r y ht
end
theorem RE8.keep{w w':World}(hk:Kp w w')(x:DE):∀cs,RE8 w x cs→RE8 w' x cs:=by
 induction x using DE.ind with
 |h x ih=>
  intro cs h;obtain⟨v,rfl,hr⟩:=RE8_iff.1 h;exact RE8_iff.2 ⟨v,rfl,hr.keep (.inl rfl) hk ih⟩
theorem RE8.one{w:World}{x:DE}{cs:List Value}(h:RE8 w x cs):∀u,u∈cs→u.oneCell'=true:=by
 obtain⟨v,rfl,hs⟩:=RE8_iff.1 h;intro u hu;simp only[List.mem_cons,List.not_mem_nil,or_false] at hu;rcases hu with rfl|rfl|rfl|rfl|rfl|rfl|rfl|rfl<;>first|rfl|exact hs.oneCell
theorem RE8.len{w:World}{x:DE}{cs:List Value}(h:RE8 w x cs):cs.length=8:=by
 obtain⟨v,rfl,hs⟩:=RE8_iff.1 h;rfl
def RT6(w:World):DT→List Value→Prop
 |.mk op sig hi lo e l,cs=>∃ve,SlT 60 (RE8 w) w 8 e ve∧∃a cap,cs=[.int .i64 op,.int .i64 sig,.int .i64 hi,.int .i64 lo,ve,.slice a l.length cap]∧l.length≤cap∧
   ∀k,(h:k<l.length)→∃b o c,a=some ⟨b,o,none⟩∧Tag w b 73∧c.length=6∧Cells w b (o+k*6) c∧(∀v,v∈c→v.oneCell'=true)∧RT6 w l[k] c
termination_by x=>SizeOf.sizeOf x
decreasing_by
 have:=List.sizeOf_lt_of_mem (y1l h);simp only[DT.mk.sizeOf_spec];omega
theorem RT6_iff{w:World}{x:DT}{cs:List Value}:
 RT6 w x cs↔∃v4 v5,cs=[.int .i64 x.op,.int .i64 x.sig,.int .i64 x.hi,.int .i64 x.lo,v4,v5]∧SlT 60 (RE8 w) w 8 x.e v4∧SlT 73 (RT6 w) w 6 x.l v5:=by
 obtain⟨op,sig,hi,lo,e,l⟩:=x;rw[RT6];constructor
 ·rintro⟨ve,h0,a,cap,h1,h2,h3⟩;exact⟨_,_,h1,h0,a,cap,rfl,h2,h3⟩
 ·rintro⟨_,_,h1,h0,a,cap,rfl,h2,h3⟩;exact⟨_,h0,a,cap,h1,h2,h3⟩
theorem RT6.keep{w w':World}(hk:Kp w w')(x:DT):∀cs,RT6 w x cs→RT6 w' x cs:=by
 induction x using DT.ind with
 |h x ih=>
  intro cs h;obtain⟨v4,v5,rfl,h4,h5⟩:=RT6_iff.1 h;exact RT6_iff.2 ⟨v4,v5,rfl,h4.keep (.inl rfl) hk (fun y _=>RE8.keep hk y),h5.keep (.inr (.inl rfl)) hk ih⟩
theorem RT6.one{w:World}{x:DT}{cs:List Value}(h:RT6 w x cs):∀u,u∈cs→u.oneCell'=true:=by
 obtain⟨v4,v5,rfl,h4,h5⟩:=RT6_iff.1 h;intro u hu;simp only[List.mem_cons,List.not_mem_nil,or_false] at hu;rcases hu with rfl|rfl|rfl|rfl|rfl|rfl<;>first|rfl|exact h4.oneCell|exact h5.oneCell
theorem RT6.len{w:World}{x:DT}{cs:List Value}(h:RT6 w x cs):cs.length=6:=by
 obtain⟨v4,v5,rfl,-,-⟩:=RT6_iff.1 h;rfl
def SlT6(w:World)(l:List DT)(v:Value):Prop:=SlT 73 (RT6 w) w 6 l v
theorem SlT6.keep{w w':World}{l:List DT}{v:Value}(h:SlT6 w l v)(hk:Kp w w'):SlT6 w' l v:=SlT.keep h (.inr (.inl rfl)) hk (fun y _=>RT6.keep hk y)
def RSg(x:Sg)(cs:List Value):Prop:=cs=[.string x.name,.int .i64 x.w,.int .i64 x.kind,.int .u64 x.init]
def RPc(w:World)(x:Pc)(cs:List Value):Prop:=∃v,cs=[.bool x.clk,v]∧SlT6 w x.l v
def RCk(w:World)(x:Ck)(cs:List Value):Prop:=∃c,cs=.string x.name::c∧RE8 w x.e c
theorem RPc.keep{w w':World}(hk:Kp w w')(x:Pc):∀cs,RPc w x cs→RPc w' x cs:=by
 rintro cs ⟨v,rfl,h⟩;exact⟨v,rfl,h.keep hk⟩
theorem RCk.keep{w w':World}(hk:Kp w w')(x:Ck):∀cs,RCk w x cs→RCk w' x cs:=by
 rintro cs ⟨v,rfl,h⟩;exact⟨v,rfl,RE8.keep hk _ _ h⟩
structure ScI(w:World)(sb mp:Nat)(ve:Value)(s:Sc):Prop where
 blk:Blk w sb 126 [ve,.map (some mp),.string s.path]
 env:SlT 85 RNm w 2 s.env ve
 map:EnvM w mp s.sigs
theorem EnvM.lt{w:World}{m:Nat}{env:ByteArray→Option Int}(h:EnvM w m env):m<w.heap.size:=by
 obtain⟨L,h,-⟩:=h;exact h.lt
theorem EnvM.of_eq{w w':World}{m:Nat}{env:ByteArray→Option Int}(h:EnvM w m env)(he:w'.heap[m]? =w.heap[m]?):EnvM w' m env:=by
 obtain⟨L,⟨es,clock,hb,hL⟩,h2,h3⟩:=h;exact⟨L,⟨es,clock,he.trans hb,hL⟩,h2,h3⟩
theorem EnvM.noTag{w:World}{m:Nat}{env:ByteArray→Option Int}(h:EnvM w m env){T:TypeId}(k:Tag w m T):False:=by
 obtain⟨L,h,-⟩:=h;exact h.noTag k
structure MkI(w:World)(N0 mb:Nat)(vf vs vp vc:Value)(m:Mk):Prop where
 blk:Blk w mb 99 [vf,vs,vp,vc,.int .i64 m.count,.int .i64 m.bits]
 sig:OwnL RSg N0 57 4 m.d.sigs vs w
 prc:OwnL (RPc w) N0 70 2 m.d.procs vp w
 chk:OwnL (RCk w) N0 62 9 m.d.chks vc w
 base:N0≤mb
structure Chg(X:Nat→Prop)(w w':World):Prop where
 os:w'.os=w.os
 tape:w'.tape=w.tape
 output:w'.output=w.output
 size:w.heap.size≤w'.heap.size
 block:∀k,k<w.heap.size→¬X k→w'.heap[k]? =w.heap[k]?
theorem Chg.refl(X:Nat→Prop)(w:World):Chg X w w:=⟨rfl,rfl,rfl,y1j _,fun _ _ _=>rfl⟩
theorem Chg.trans{X:Nat→Prop}{a b c:World}(h:Chg X a b)(k:Chg X b c):Chg X a c:=
 ⟨k.os.trans h.os,k.tape.trans h.tape,k.output.trans h.output,y1k h.size k.size,fun i hi hx=>(k.block i (y1m hi h.size) hx).trans (h.block i hi hx)⟩
theorem Chg.mono{X Y:Nat→Prop}{w w':World}(h:Chg X w w')(hXY:∀k,k<w.heap.size→X k→Y k):Chg Y w w':=
 ⟨h.os,h.tape,h.output,h.size,fun i hi hy=>h.block i hi fun hx=>hy (hXY i hi hx)⟩
theorem Ext.chg{X:Nat→Prop}{w w':World}(h:Ext w w'):Chg X w w':=⟨h.os,h.tape,h.output,h.size,fun k hk _=>h.block k hk⟩
theorem Chg.ext{X:Nat→Prop}{a w w':World}(h:Chg X w w')(hx:Ext a w)(hX:∀k,X k→a.heap.size≤k):Ext a w':=
 ⟨h.os.trans hx.os,h.tape.trans hx.tape,h.output.trans hx.output,y1k hx.size h.size,fun k hk=>(h.block k (y1m hk hx.size) fun hh=>absurd (hX k hh) (by omega)).trans (hx.block k hk)⟩
theorem Chg.cell{X:Nat→Prop}{w w':World}(h:Chg X w w'){p:Addr}{v:Value}(hc:w.cell? p=some v)(hX:¬X p.block):w'.cell? p=some v:=by
 refine(y2b (h.block _ ?_ hX)).trans hc;rcases Nat.lt_or_ge p.block w.heap.size with hlt|hge
 ·exact hlt
 ·rw[World.cell?,Array.getElem?_eq_none hge] at hc;cases hc
theorem Chg.blk{X:Nat→Prop}{w w':World}(h:Chg X w w'){g:Nat}{t:TypeId}{cs:List Value}(hb:Blk w g t cs)(hX:¬X g):Blk w' g t cs:=(h.block g hb.lt hX).trans hb
theorem Chg.drew{X:Nat→Prop}{a w:World}(h:Chg X a w):Chg X a w.drew:=⟨h.os,h.tape,h.output,h.size,h.block⟩
theorem Chg.setCell{X:Nat→Prop}{a w:World}(h:Chg X a w){p:Addr}(hp:X p.block)(u:Value):Chg X a (w.setCell p u):=
 ⟨h.os,h.tape,h.output,by simpa [World.setCell] using h.size,fun k hk hx=>(Below.heap_setCell w p u k (fun e=>hx (by rw[e];exact hp))).trans (h.block k hk hx)⟩
theorem Chg.grown{X:Nat→Prop}{a w w':World}{r:Option Nat}(h:Chg X a w)(hg:w.grownBy w' r)(hr:∀k,r=some k→k<a.heap.size→X k):Chg X a w':=
 ⟨hg.os.trans h.os,hg.tape.trans h.tape,hg.output.trans h.output,y1k h.size hg.size,fun k hk hx=>(hg.block k (y1m hk h.size) (fun e=>hx (hr k e.symm hk))).trans (h.block k hk hx)⟩
theorem Chg.kp{X:Nat→Prop}{w w':World}(h:Chg X w w')(hX:∀b,X b→b<w.heap.size→∃T,Tag w b T∧¬j0q T):Kp w w':=by
 intro b hb;have hlt:b<w.heap.size:=by rcases hb with hb|hb|hb<;>exact hb.lt
 refine h.block b hlt fun hx=>?_
 obtain⟨T,hT,hn⟩:=hX b hx hlt;rcases hb with hb|hb|hb
 ·exact hn (.inl (hT.one hb))
 ·exact hn (.inr (.inl (hT.one hb)))
 ·exact hn (.inr (.inr (hT.one hb)))
theorem k6k{w:World}{base:Nat}{t:TypeId}{sz n:Nat}{v:Value}{xs:List Value}(h:w.ownsRow base t sz v n xs):∃a cap,v=.slice a n cap:=by
 rcases h.2 with⟨rfl,rfl⟩|⟨g,cap,cur,rfl,-⟩<;>exact⟨_,_,rfl⟩
theorem k8c{w:World}{base:Nat}{v:Value}{nm:ByteArray}{z:Int}{xs:List Value}{env:List (ByteArray×Int)}(h:w.ownsRow base 85 2 v (env.length+1) (xs++[.string nm,.int .i64 z]))(hF:Fl RNm 2 env xs):SlT 85 RNm w 2 (env++[(nm,z)]) v:=
 OwnL.slT (by decide) ⟨_,by rw[List.length_append];exact h,hF.append (Fl.one_ (x:=(nm,z)) rfl (by intro u hu;simp at hu;rcases hu with rfl|rfl<;>rfl) rfl)⟩
abbrev FrS(mb:Nat):World→World→Prop:=Chg (fun k=>k=mb)
def RowTy(w:World)(N0 b:Nat):Prop:=N0≤b∧(Tag w b 57∨Tag w b 70∨Tag w b 62)
structure FrI(N0 mb sb mp:Nat)(w w':World):Prop where
 os:w'.os=w.os
 tape:w'.tape=w.tape
 output:w'.output=w.output
 size:w.heap.size≤w'.heap.size
 block:∀k,k<w.heap.size→k≠mb→k≠sb→k≠mp→¬RowTy w N0 k→w'.heap[k]? =w.heap[k]?
theorem RowTy.of_eq{w w':World}{N0 b:Nat}(he:w'.heap[b]? =w.heap[b]?):RowTy w' N0 b↔RowTy w N0 b:=by
 unfold RowTy Tag;rw[he]
theorem FrI.refl(N0 mb sb mp:Nat)(w:World):FrI N0 mb sb mp w w:=⟨rfl,rfl,rfl,y1j _,fun _ _ _ _ _ _=>rfl⟩
theorem FrI.trans{N0 mb sb mp:Nat}{a b c:World}(h:FrI N0 mb sb mp a b)(k:FrI N0 mb sb mp b c):FrI N0 mb sb mp a c:=
 ⟨k.os.trans h.os,k.tape.trans h.tape,k.output.trans h.output,y1k h.size k.size,fun i hi h1 h2 h3 h4=>by
  have e:=h.block i hi h1 h2 h3 h4;exact(k.block i (y1m hi h.size) h1 h2 h3 (fun hh=>h4 ((RowTy.of_eq e).1 hh))).trans e⟩
theorem FrI.fresh{N0 mb sb mp sb' mp':Nat}{w w':World}(h:FrI N0 mb sb' mp' w w')(W:World)(hx:FrI N0 mb sb mp W w)(h1:W.heap.size≤sb'∨sb'=sb)(h2:W.heap.size≤mp'∨mp'=mp):FrI N0 mb sb mp W w':=
 ⟨h.os.trans hx.os,h.tape.trans hx.tape,h.output.trans hx.output,y1k hx.size h.size,fun i hi h3 h4 h5 h6=>by
  have e:=hx.block i hi h3 h4 h5 h6;refine(h.block i (y1m hi hx.size) h3 ?_ ?_ (fun hh=>h6 ((RowTy.of_eq e).1 hh))).trans e
  ·rcases h1 with h1|h1
   ·omega
   ·rw[h1];exact h4
  ·rcases h2 with h2|h2
   ·omega
   ·rw[h2];exact h5⟩
theorem FrI.of_chg{N0 mb sb mp:Nat}{w w':World}(h:FrS mb w w'):FrI N0 mb sb mp w w':=⟨h.os,h.tape,h.output,h.size,fun k hk h1 _ _ _=>h.block k hk h1⟩
theorem FrI.of_ext{N0 mb sb mp:Nat}{w w':World}(h:Ext w w'):FrI N0 mb sb mp w w':=⟨h.os,h.tape,h.output,h.size,fun k hk _ _ _ _=>h.block k hk⟩
theorem FrI.ext{N0 mb sb mp:Nat}{a w w':World}(h:FrI N0 mb sb mp w w')(hx:Ext a w)(h0:a.heap.size≤N0)(h1:a.heap.size≤mb)(h2:a.heap.size≤sb)(h3:a.heap.size≤mp):Ext a w':=
 ⟨h.os.trans hx.os,h.tape.trans hx.tape,h.output.trans hx.output,y1k hx.size h.size,fun k hk=>(h.block k (y1m hk hx.size) (by omega) (by omega) (by omega) (fun hh=>by have:=hh.1;omega)).trans (hx.block k hk)⟩
def k8m(T:TypeId):Prop:=T≠57∧T≠70∧T≠62
theorem j3h{w:World}{N0 g:Nat}{T:TypeId}(h:Tag w g T)(hT:k8m T):¬RowTy w N0 g:=by
 rintro⟨-,h1|h1|h1⟩
 ·exact hT.1 (h.one h1)
 ·exact hT.2.1 (h.one h1)
 ·exact hT.2.2 (h.one h1)
theorem FrI.blk{N0 mb sb mp:Nat}{w w':World}(h:FrI N0 mb sb mp w w'){g:Nat}{t:TypeId}{cs:List Value}(hb:Blk w g t cs)(ht:k8m t)(h1:g≠mb)(h2:g≠sb)(h3:g≠mp):Blk w' g t cs:=
 (h.block g hb.lt h1 h2 h3 (j3h hb.tag ht)).trans hb
theorem FrI.map{N0 mb sb mp:Nat}{w w':World}(h:FrI N0 mb sb mp w w'){g:Nat}{env:ByteArray→Option Int}(hb:EnvM w g env)(h1:g≠mb)(h2:g≠sb)(h3:g≠mp):EnvM w' g env:=
 hb.of_eq (h.block g hb.lt h1 h2 h3 (fun hh=>by rcases hh.2 with h|h|h<;>exact hb.noTag h))
theorem FrI.kp{N0 mb sb mp:Nat}{w w':World}(h:FrI N0 mb sb mp w w')(hm:Tag w mb 99)(hs:sb<w.heap.size→Tag w sb 126)(hp:mp<w.heap.size→∃env,EnvM w mp env):Kp w w':=by
 intro b hb;have hlt:b<w.heap.size:=by rcases hb with hb|hb|hb<;>exact hb.lt
 have hT:∃T,Tag w b T∧(T=60∨T=73∨T=85):=by
  rcases hb with hb|hb|hb
  ·exact⟨_,hb,.inl rfl⟩
  ·exact⟨_,hb,.inr (.inl rfl)⟩
  ·exact⟨_,hb,.inr (.inr rfl)⟩
 obtain⟨T,hT,hc⟩:=hT;refine h.block b hlt ?_ ?_ ?_ (j3h hT ?_)
 ·rintro rfl;have:=hT.one hm;rcases hc with rfl|rfl|rfl<;>exact absurd this (by decide)
 ·rintro rfl;have:=hT.one (hs hlt);rcases hc with rfl|rfl|rfl<;>exact absurd this (by decide)
 ·rintro rfl;obtain⟨env,he⟩:=hp hlt;exact he.noTag hT
 ·rcases hc with rfl|rfl|rfl<;>exact⟨by decide,by decide,by decide⟩
theorem FrS.kp{mb:Nat}{w w':World}(h:FrS mb w w')(hm:Tag w mb 99):Kp w w':=by
 intro b hb;have hlt:b<w.heap.size:=by rcases hb with hb|hb|hb<;>exact hb.lt
 refine h.block b hlt ?_;rintro rfl;rcases hb with hb|hb|hb<;>exact absurd (hb.one hm) (by decide)
def bl(s:ByteArray):List UInt8:=s.data.toList
theorem k1p(a b:ByteArray):bl (a++b)=bl a++bl b:=by simp[bl,ByteArray.data_append]
theorem k9x{a b:ByteArray}(h:bl a=bl b):a=b:=by
 cases a;cases b;unfold bl at h;simp only at h;rw[Array.toList_inj.1 h]
theorem z7f(a:ByteArray):(⟨#[]⟩:ByteArray)++a=a:=k9x (by rw[k1p];rfl)
theorem j3y{t:Itm}(hm:MayI t)(h:t.op≠4∧t.op≠5∧t.op≠6∧t.op≠8):z2y t.name:=by
 obtain⟨ho,-⟩:=MayI_iff.1 hm;obtain⟨-,-,hf,-⟩:=ho;rcases hf with⟨-,h2⟩|⟨h2,-⟩
 ·exact h2
 ·exact absurd h h2
def z7t(l:List Bnd)(o:ByteArray→Option X):ByteArray→Option X:=l.foldl (fun o b=>z3h o b.name b.x) o
theorem j0k{K:ByteArray→Prop}{e:Int}:∀(l:List Bnd) (o r:ByteArray→Option X),z2w K e (fun x=>.ok x) l o=.ok r→r=z7t l o
 |[],o,r,h=>by injection h with h;rw[←h];rfl
 |b::l,o,r,h=>by
  rw[z2w] at h;obtain⟨u,-,h⟩:=z0h h;exact j0k l (z3h o b.name b.x) r h
theorem q4t{α:Type}{K:ByteArray→Prop}{e:Int}{val:X→Rs α}(b:Bnd)(l:List Bnd)(o:ByteArray→Option α)(h:o b.name=none∧K b.name):z2w K e val (b::l) o=(do let v←val b.x;z2w K e val l (z3h o b.name v)):=by
 rw[z2w];unfold z0o;rw[if_pos h];rfl
theorem j0n{α:Type}{K:ByteArray→Prop}{e:Int}{val:X→Rs α}(b:Bnd)(l:List Bnd)(o:ByteArray→Option α)(h:¬(o b.name=none∧K b.name)):z2w K e val (b::l) o=.error e:=by
 rw[z2w];unfold z0o;rw[if_neg h];rfl
theorem j0j{f:List Mdl}(h:z6t f=0):f.length≤64∧z0e z0x f≤65536∧z0j q1z f≤64∧∀m,m∈f→j2j m:=by
 unfold z6t at h;split at h
 ·exact absurd h (by decide)
 ·rename_i hl
  rw[q8a,yes_iff] at h;exact⟨by omega,h⟩
theorem j6d{x:X}(ho:x.op=1)(hw:x.w=0)(hv:z1j x.v)(hm:MayX x)(s:Sc):z1p s x=.ok x.v:=by
 obtain⟨⟨hp,-⟩,-⟩:=MayX_iff.1 hm;obtain⟨op,nm,n,w,v,l⟩:=x;simp only[X.op,X.w,X.v,X.l] at ho hw hv hp⊢;subst ho hw;have hl:l=[]:=by
  unfold z4u at hp;exact y1q (by omega)
 subst hl;have h1:z0l (.mk 1 nm n 0 v [])=1:=by rw[z3u];rfl
 have h2:z2o (.mk 1 nm n 0 v [])=1:=by rw[q0p];rfl
 unfold z1p z3f;rw[if_pos (checkX_zero.2 ⟨by rw[h1];decide,by rw[h2];decide,hm⟩),j4d];unfold z6g;rw[if_pos hv];rfl
theorem z8j(z:Int):MayX (.mk 1 ⟨#[]⟩ 0 0 z []):=.mk _ ⟨.inl ⟨.inl rfl,rfl⟩,.inr (.inr (.inr ⟨(show(1:Int)≠5∧(1:Int)≠6∧(1:Int)≠10 by decide),rfl⟩)),.inr ⟨rfl,(show(0:Int)≤0 by decide),(show(0:Int)≤64 by decide),.inl rfl⟩,.inr ⟨(show¬z3z 1 by unfold z3z;decide),rfl⟩⟩ (fun y hy=>by cases hy)
def y1u:=@Chg.refl
def y1y:=@Chg.setCell
def y1z:=@FrI.of_ext
end Go.Proofs.YtlfmlodanoolhaaGreatDoor
