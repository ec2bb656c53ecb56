import Derived.Test.YtlfmlodanoolhaaGreatDoorV4
import Derived.Test.YtlfmlodanoolhaaGreatDoorV11
set_option linter.all false
set_option maxRecDepth 200000
set_option maxHeartbeats 0
namespace Go.Proofs.YtlfmlodanoolhaaGreatDoor
section
open Go Go.RowKit
noncomputable def ep(o:List ByteArray)(s:ByteArray):List ByteArray:=@ite _ (s∈o) (Classical.propDecidable _) o (o++[s])
noncomputable def cX(o:List ByteArray)(l:List ByteArray):List ByteArray:=l.foldl ep o
theorem jT{o:List ByteArray}{s:ByteArray}(h:s∈o):ep o s=o:=by unfold ep;rw[if_pos h]
theorem iu{o:List ByteArray}{s:ByteArray}(h:¬s∈o):ep o s=o++[s]:=by unfold ep;rw[if_neg h]
theorem uE(o a b:List ByteArray):cX o (a++b)=cX (cX o a) b:=by simp[cX,List.foldl_append]
theorem zr(o:List ByteArray):cX o []=o:=rfl
theorem zs(o:List ByteArray)(s:ByteArray):cX o [s]=ep o s:=rfl
theorem wZ(o:List ByteArray)(s:ByteArray):(ep o s).length<=o.length+1:=by
 by_cases a:s∈o
 ·rw[jT a];omega
 ·rw[iu a];simp
theorem rk(l:List ByteArray):∀o:List ByteArray,(cX o l).length<=o.length+l.length:=by
 induction l with
 |nil=>intro o;simp[cX]
 |cons s r ih=>
  intro o;have a:=ih (ep o s);have b:=wZ o s;simp only[cX,List.foldl_cons,List.length_cons] at*;omega
def bF(env:List (ByteArray×Int))(s:ByteArray):Option Int:=env.foldl (λb a=>if a.1=s then some a.2 else b) none
theorem ol(env:List (ByteArray×Int))(p:ByteArray×Int)(s:ByteArray):bF (env++[p]) s=if p.1=s then some p.2 else bF env s:=by
 simp[bF,List.foldl_append]
theorem wR{α:Type}{P:List α->Prop}(h0:P [])(c:∀l a,P l->P (l++[a]))(l:List α):P l:=by
 have:∀l:List α,P l.reverse:=λl=>by
  induction l with
  |nil=>exact h0
  |cons a r ih=>rw[List.reverse_cons];exact c _ _ ih
 have b:=this l.reverse;rwa[List.reverse_reverse] at b
def cv(b:Bool):Int:=if b then 1 else 0
theorem pD(b:Bool):0<=cv b/\cv b<=1:=by cases b<;>decide
def bU(z:Int):Prop:=0<=z/\z<=2147483647
instance (z:Int):Decidable (bU z):=by unfold bU;infer_instance
def cO(z:Int):Int×Int:=if bU z then(z,0) else(0,62)
def kD(a b:Int):Int:=if a=0 then 0 else if 31<=b\/2147483647<a*2 ^ b.toNat then -1 else a*2 ^ b.toNat
def bO(n a b:Int):Int:=
 if n=14 then a+b else if n=15 then a - b else if n=16 then a*b else if n=17 then kD a b else if n=18 then a / 2 ^ (min b 63).toNat
 else if n=19 then cv (a==b) else if n=20 then cv (a !=b) else if n=21 then cv (decide (a<b)) else if n=22 then cv (decide (a<=b)) else if n=23 then cv (decide (b<a)) else if n=24 then cv (decide (b<=a))
 else if n=25 then cv (a !=0 && b !=0) else cv (a !=0||b !=0)
def opK(op n:Int):Prop:=op=5/\n=6\/op=6/\14<=n/\n<=26\/op=7
instance (op n:Int):Decidable (opK op n):=by unfold opK;infer_instance
def jc(o:Option Int):Int×Int:=match o with|none=>(0,60)|some z=>cO z
def eG(env:ByteArray->Option Int)(op:Int)(b:ByteArray)(n w v:Int)(a:List (Int×Int)):Int×Int:=
 if op=1/\w=0 then cO v
 else if op=2 then jc (env b)
 else if opK op n then
  (if(a.getD 0 (0,61)).2≠0 then(0,(a.getD 0 (0,61)).2)
  else if op=5 then(cv ((a.getD 0 (0,61)).1==0),0)
  else if op=7 then a.getD (if(a.getD 0 (0,61)).1=0 then 2 else 1) (0,61)
  else if(a.getD 1 (0,61)).2≠0 then(0,(a.getD 1 (0,61)).2)
  else cO (bO n (a.getD 0 (0,61)).1 (a.getD 1 (0,61)).1))
 else(0,61)
mutual
def aN(env:ByteArray->Option Int):X->Int×Int
 |.mk op nm n w v l=>eG env op nm n w v (kz env l)
def kz(env:ByteArray->Option Int):List X->List (Int×Int)
 |[]=>[]
 |x::r=>aN env x::kz env r
 end
theorem xt(env:ByteArray->Option Int)(l:List X):kz env l=l.map (aN env):=by induction l with|nil=>rfl|cons x r ih=>simp[kz,ih]
theorem fp(env:ByteArray->Option Int)(x:X):aN env x=eG env x.op x.name x.n x.w x.v (x.l.map (aN env)):=by cases x;rw[aN,xt];rfl
def okK(a:Int×Int):Prop:=a.2=0/\bU a.1\/(a.2=60\/a.2=61\/a.2=62)/\a.1=0
theorem lH(z:Int):okK (cO z):=by
 unfold cO;split
 ·exact .inl ⟨rfl,by assumption⟩
 ·exact .inr ⟨.inr (.inr rfl),rfl⟩
theorem ui(b:Bool):okK (cv b,0):=.inl ⟨rfl,(pD b).1,by have:=(pD b).2;show cv b<=_;omega⟩
theorem lG{b:List (Int×Int)}(h:∀a,a∈b->okK a)(i:Nat):okK (b.getD i (0,61)):=by
 rw[List.getD_eq_getElem?_getD];cases hi:b[i]? with
 |none=>exact .inr ⟨.inr (.inl rfl),rfl⟩
 |some a=>exact h a (List.mem_of_getElem? hi)
theorem pY{a:Int×Int}(h:okK a)(b:a.2≠0):okK (0,a.2):=by
 rcases h with h|h
 ·exact absurd h.1 b
 ·exact .inr ⟨h.1,rfl⟩
theorem qP(env:ByteArray->Option Int)(x:X):okK (aN env x):=by
 induction x using X.ind with
 |h x ih=>
  rw[fp];have a:∀b,b∈x.l.map (aN env)->okK b:=λb c=>by obtain⟨e,d,rfl⟩:=y8f.1 c;exact ih e d
  unfold eG;split
  ·exact lH _
  ·split
   ·unfold jc;split
    ·exact .inr ⟨.inl rfl,rfl⟩
    ·exact lH _
   ·split
    ·split
     ·exact pY (lG a 0) (by assumption)
     ·split
      ·exact ui _
      ·split
       ·exact lG a _
       ·split
        ·exact pY (lG a 1) (by assumption)
        ·exact lH _
    ·exact .inr ⟨.inr (.inl rfl),rfl⟩
theorem lx{env:ByteArray->Option Int}{x:X}:0<=(aN env x).1/\(aN env x).1<=2147483647:=by
 rcases qP env x with⟨-,a⟩|⟨-,a⟩
 ·exact a
 ·rw[a];decide
theorem qr(env:ByteArray->Option Int)(z:Int)(a:ByteArray)(n:Int)(l:List X):aN env (.mk 1 a n 0 z l)=cO z:=by
 rw[fp];simp[eG,X.op,X.w,X.v]
noncomputable def ce(f:List Mdl)(s:ByteArray):Option Mdl:=f.find? λa=>yes (a.name=s)
mutual
def ofI:Itm->List ByteArray
 |.mk op _ of _ _ l els _ _=>(if op=7 then [of] else [])++(bX l++bX els)
def bX:List Itm->List ByteArray
 |[]=>[]
 |x::r=>ofI x++bX r
 end
theorem nP(x:Itm):ofI x=(if x.op=7 then [x.of] else [])++(bX x.l++bX x.els):=by cases x;rw[ofI];rfl
noncomputable def cg(m:Mdl):List ByteArray:=cX [] (bX m.items)
mutual
def eI:Itm->List Itm
 |.mk op nm of x s l els ps bs=>.mk op nm of x s l els ps bs::(bJ l++bJ els)
def bJ:List Itm->List Itm
 |[]=>[]
 |x::r=>eI x++bJ r
 end
theorem ne(x:Itm):eI x=x::(bJ x.l++bJ x.els):=by cases x;rw[eI];rfl
theorem kI(l a:List Itm):bJ (l++a)=bJ l++bJ a:=by
 induction l with
 |nil=>rfl
 |cons x l ih=>simp[bJ,ih]
def dE(x:Itm):List ByteArray:=if x.op=7 then [x.of] else []
theorem ta:∀x:Itm,(eI x).flatMap dE=ofI x:=by
 intro x;induction x using Itm.ind with
 |h x h1 h2=>
  have c:∀l:List Itm,(∀a,a∈l->(eI a).flatMap dE=ofI a)->(bJ l).flatMap dE=bX l:=by
   intro l;induction l with
   |nil=>intro _;rfl
   |cons a r ih=>
    intro b;show(eI a++bJ r).flatMap dE=ofI a++bX r;rw[List.flatMap_append,b a (List.mem_cons_self ..),ih λe d=>b e (List.mem_cons_of_mem _ d)]
  rw[ne,nP,List.flatMap_cons,List.flatMap_append,c _ h1,c _ h2];rfl
theorem qc(l:List Itm):(bJ l).flatMap dE=bX l:=by
 induction l with
 |nil=>rfl
 |cons x r ih=>show(eI x++bJ r).flatMap dE=ofI x++bX r;rw[List.flatMap_append,ta,ih]
def cy(op:Int):Prop:=op=1\/op=2\/op=3\/op=7\/op=10\/op=9
instance (op:Int):Decidable (cy op):=by unfold cy;infer_instance
mutual
noncomputable def tnI:Itm->List ByteArray
 |.mk op nm _ _ _ l els _ _=>if cy op then [nm] else if op=8 then cX (ap l) (ap els) else []
noncomputable def ap:List Itm->List ByteArray
 |[]=>[]
 |x::r=>tnI x++ap r
 end
theorem gb(x:Itm):tnI x=if cy x.op then [x.name] else if x.op=8 then cX (ap x.l) (ap x.els) else []:=by cases x;rw[tnI];rfl
theorem jt(l a:List Itm):ap (l++a)=ap l++ap a:=by
 induction l with
 |nil=>rfl
 |cons x l ih=>simp[ap,ih]
mutual
def fm:Itm->Prop
 |.mk op _ _ _ _ l els _ _=>op=8->(cN l/\(ap l).Nodup)/\(cN els/\(ap els).Nodup)
def cN:List Itm->Prop
 |[]=>True
 |x::r=>fm x/\cN r
 end
def iI(l:List Itm):Prop:=cN l/\(ap l).Nodup
theorem jK(x:Itm):fm x↔(x.op=8->iI x.l/\iI x.els):=by cases x;rw[fm];rfl
theorem pt(l a:List Itm):cN (l++a)↔cN l/\cN a:=by
 induction l with
 |nil=>simp[cN]
 |cons x l ih=>simp[cN,ih,and_assoc]
theorem tokIs_iff{l:List Itm}:cN l↔∀x,x∈l->fm x:=by
 induction l with
 |nil=>simp[cN]
 |cons x l ih=>simp[cN,ih]
mutual
def lpS:(ByteArray->Prop)->S->Prop
 |C,.mk op nm _ l=>(op=6->¬C nm)/\bE (λs=>C s\/op=6/\s=nm) l
def bE:(ByteArray->Prop)->List S->Prop
 |_,[]=>True
 |C,x::r=>lpS C x/\bE C r
 end
theorem mO(C:ByteArray->Prop)(x:S):lpS C x↔(x.op=6->¬C x.name)/\bE (λs=>C s\/x.op=6/\s=x.name) x.l:=by cases x;rw[lpS];rfl
theorem oU(C:ByteArray->Prop)(l a:List S):bE C (l++a)↔bE C l/\bE C a:=by
 induction l with
 |nil=>simp[bE]
 |cons x l ih=>simp[bE,ih,and_assoc]
mutual
noncomputable def inI:(ByteArray->Prop)->Itm->Prop
 |C,.mk op _ of _ s l els _ _=>bE C s/\(op=8->bf C l/\bf C els)/\(op=9->iI l/\¬of∈ap l/\(∀a,a∈ap l\/a=of->¬C a)/\bf (λa=>C a\/a∈ap l\/a=of) l)
noncomputable def bf:(ByteArray->Prop)->List Itm->Prop
 |_,[]=>True
 |C,x::r=>inI C x/\bf C r
 end
theorem ji(C:ByteArray->Prop)(x:Itm):inI C x↔bE C x.s/\(x.op=8->bf C x.l/\bf C x.els)/\(x.op=9->iI x.l/\¬x.of∈ap x.l/\(∀a,a∈ap x.l\/a=x.of->¬C a)/\bf (λa=>C a\/a∈ap x.l\/a=x.of) x.l):=by
 cases x;rw[inI];rfl
theorem oT(C:ByteArray->Prop)(l a:List Itm):bf C (l++a)↔bf C l/\bf C a:=by
 induction l with
 |nil=>simp[bf]
 |cons x l ih=>simp[bf,ih,and_assoc]
theorem tP:∀(x:S) (C a:ByteArray->Prop),(∀s,a s->C s)->lpS C x->lpS a x:=by
 intro x;induction x using S.ind with
 |h x ih=>
  intro C a d b;obtain⟨f,g⟩:=(mO C x).1 b;refine(mO a x).2 ⟨λi j=>f i (d _ j),?_⟩;have k:∀l:List S,(∀c,c∈l->c∈x.l)->∀C a:ByteArray->Prop,(∀s,a s->C s)->bE C l->bE a l:=by
   intro l;induction l with
   |nil=>intro _ C a _ _;exact trivial
   |cons c r ih2=>intro e C a d b;exact⟨ih c (e c (cc ..)) C a d b.1,ih2 (λp o=>e p (bi _ o)) C a d b.2⟩
  exact k x.l (λc n=>n) _ _ (λs m=>m.elim (λb=>.inl (d s b)) .inr) g
theorem lC{C a:ByteArray->Prop}(c:∀s,a s->C s)(l:List S):bE C l->bE a l:=by
 induction l with
 |nil=>intro _;exact trivial
 |cons x r ih=>intro b;exact⟨tP x C a c b.1,ih b.2⟩
theorem tF:∀(x:Itm) (C a:ByteArray->Prop),(∀s,a s->C s)->inI C x->inI a x:=by
 intro x;induction x using Itm.ind with
 |h x ih1 ih2=>
  intro C a b c;have f:∀l:List Itm,(∀e,e∈l->∀C a:ByteArray->Prop,(∀s,a s->C s)->inI C e->inI a e)->∀C a:ByteArray->Prop,(∀s,a s->C s)->bf C l->bf a l:=by
   intro l;induction l with
   |nil=>intro _ C a _ _;exact trivial
   |cons e r ih3=>intro j C a b c;exact⟨j e (cc ..) C a b c.1,ih3 (λz y=>j z (bi _ y)) C a b c.2⟩
  obtain⟨p,g,q⟩:=(ji C x).1 c;refine(ji a x).2 ⟨lC b _ p,λi=>⟨f _ ih1 C a b (g i).1,f _ ih2 C a b (g i).2⟩,λt=>?_⟩;obtain⟨m,n,o,d⟩:=q t;exact⟨m,n,λk w u=>o k w (b k u),f _ ih1 _ _ (λs v=>v.elim (λc=>.inl (b s c)) .inr) d⟩
theorem qB{C a:ByteArray->Prop}(c:∀s,a s->C s)(l:List Itm):bf C l->bf a l:=by
 induction l with
 |nil=>intro _;exact trivial
 |cons x r ih=>intro b;exact⟨tF x C a c b.1,ih b.2⟩
theorem gM{C b:ByteArray->Prop}(h:∀s,C s↔b s)(l:List S):bE C l↔bE b l:=⟨lC (λs a=>(h s).2 a) l,lC (λs a=>(h s).1 a) l⟩
theorem ij{C b:ByteArray->Prop}(h:∀s,C s↔b s)(l:List Itm):bf C l↔bf b l:=⟨qB (λs a=>(h s).2 a) l,qB (λs a=>(h s).1 a) l⟩
noncomputable def hu(m:Mdl):List ByteArray:=ap m.items++(m.ports.map Prt.name++m.params.map Bnd.name)
def dV(m:Mdl):Prop:=cN m.items/\(hu m).Nodup/\bf (λs=>s∈hu m) m.items
def ew(a:List ByteArray)(m:Mdl):Prop:=¬m.name∈a/\∀s,s∈cg m->s∈a
noncomputable def dq(f:List Mdl)(b:List ByteArray):Option Mdl:=f.find? λa=>yes (ew b a)
noncomputable def dH(f:List Mdl):Nat->List ByteArray->List ByteArray
 |0,out=>out
 |n+1,out=>match dq f out with
  |none=>out
  |some m=>dH f n (out++[m.name])
noncomputable def cY(f:List Mdl):List ByteArray:=dH f f.length []
def aX(f:List Mdl):List ByteArray:=f.map Mdl.name
noncomputable def eL(f:List Mdl):Int:=
 @ite _ ((aX f).Nodup/\∀a,a∈f->dV a) (Classical.propDecidable _)
  (@ite _ (∀a,a∈f->∀s,s∈cg a->s∈aX f) (Classical.propDecidable _) (if(cY f).length<f.length then 72 else 0) 71) 70
theorem wb{o:List ByteArray}{s t:ByteArray}:t∈ep o s↔t∈o\/t=s:=by
 by_cases a:s∈o
 ·rw[jT a];exact⟨.inl,λb=>b.elim id (λe=>e▸a)⟩
 ·rw[iu a];simp
theorem fM{t:ByteArray}(l:List ByteArray):∀o:List ByteArray,t∈cX o l↔t∈o\/t∈l:=by
 induction l with
 |nil=>intro o;simp[cX]
 |cons s r ih=>intro o;show t∈cX (ep o s) r↔_;rw[ih,wb,List.mem_cons,or_assoc]
theorem Ar(l:List ByteArray):∀o:List ByteArray,o.Nodup->(cX o l).Nodup:=by
 induction l with
 |nil=>intro o a;exact a
 |cons s r ih=>
  intro o a;refine ih (ep o s) ?_;by_cases b:s∈o
  ·rw[jT b];exact a
  ·rw[iu b];refine List.nodup_append.2 ⟨a,zS,λd ha f c=>?_⟩;simp at c;subst c;intro e;exact b (e▸ha)
theorem mem_uses{m:Mdl}{s:ByteArray}:s∈cg m↔s∈bX m.items:=by unfold cg;rw[fM];simp
theorem yy{f:List Mdl}{a:List ByteArray}{m:Mdl}(h:dq f a=some m):m∈f/\ew a m:=by
 unfold dq at h;have b:=List.find?_some h;exact⟨List.mem_of_find?_eq_some h,yes_iff.1 b⟩
theorem AN{l:List ByteArray}{s:ByteArray}(h:s∈l):(l.filter λb=>!yes (b=s)).length<l.length:=by
 induction l with
 |nil=>cases h
 |cons a r ih=>
  by_cases ha:a=s
  ·have:(r.filter λb=>!yes (b=s)).length<=r.length:=List.length_filter_le _ _;rw[List.filter_cons,if_neg (by simp[yes_iff.2 ha]),List.length_cons];omega
  ·have:=ih ((List.mem_cons.1 h).resolve_left (λe=>ha e.symm));rw[List.filter_cons,if_pos (by simp[yes_no.2 ha]),List.length_cons,List.length_cons];omega
theorem qJ{o:List ByteArray}:∀{l:List ByteArray},o.Nodup->(∀s,s∈o->s∈l)->o.length<=l.length:=by
 induction o with
 |nil=>intro l _ _;simp
 |cons s r ih=>
  intro l h b;obtain⟨d,f⟩:=List.nodup_cons.1 h;have i:=b s (cc ..);have:=ih (l:=l.filter λa=>!yes (a=s)) f λa c=>List.mem_filter.2 ⟨b a (bi _ c),by
   have g:¬a=s:=λe=>d (by rw[<-e];exact c)
   simp[yes_no.2 g]⟩
  have j:=AN i;rw[List.length_cons];omega
structure Ordered(f:List Mdl)(out:List ByteArray):Prop where
 nodup:out.Nodup
 sub:∀s,s∈out->s∈aX f
 pre:∀k (h:k<out.length),∃m,m∈f/\m.name=out[k]/\∀s,s∈cg m->s∈out.take k
theorem oX(f:List Mdl):Ordered f []:=⟨zS,(λs a=>by cases a),(λb a=>by cases a)⟩
theorem Ordered.step{f:List Mdl}{b:List ByteArray}{m:Mdl}(h:Ordered f b)(p:dq f b=some m):Ordered f (b++[m.name]):=by
 obtain⟨j,q,r⟩:=yy p;refine⟨List.nodup_append.2 ⟨h.nodup,zS,λu ha v g e=>?_⟩,λs a=>?_,λd o=>?_⟩
 ·simp at g;subst g;exact q (e▸ha)
 ·rcases y8e.1 a with c|c
  ·exact h.sub s c
  ·simp at c;subst c;exact y8f.2 ⟨m,j,rfl⟩
 ·by_cases i:d<b.length
  ·obtain⟨t,k,l,n⟩:=h.pre d i;refine⟨t,k,by rw[List.getElem_append_left i];exact l,λs a=>?_⟩;rw[List.take_append_of_le_length zO];exact n s a
  ·obtain rfl:d=b.length:=by simp at o;omega
   exact⟨m,j,zS,λs a=>by simpa using r s a⟩
theorem Ordered.le{f:List Mdl}{a:List ByteArray}(h:Ordered f a):a.length<=f.length:=by
 have:=qJ h.nodup h.sub;simpa [aX] using this
theorem yB{f:List Mdl}:∀(n:Nat) (a:List ByteArray),Ordered f a->f.length<=a.length+n->Ordered f (dH f n a)/\dq f (dH f n a)=none:=by
 intro n;induction n with
 |zero=>
  intro a b c;refine⟨b,?_⟩;show dq f a=none;cases hn:dq f a with
  |none=>rfl
  |some m=>have:=(b.step hn).le;simp at this;omega
 |succ n ih=>
  intro a b c;unfold dH;cases hn:dq f a with
  |none=>exact⟨b,hn⟩
  |some m=>exact ih _ (b.step hn) (by simp;omega)
theorem mo(f:List Mdl):Ordered f (cY f)/\dq f (cY f)=none:=yB f.length [] (oX f) zS
theorem Au{f:List Mdl}{a:List ByteArray}:∀n,dq f a=none->dH f n a=a:=by
 intro n b;cases n with
 |zero=>rfl
 |succ n=>unfold dH;rw[b]
theorem Av{f:List Mdl}{a:List ByteArray}{m:Mdl}(h:Ordered f a)(b:dq f a=some m):dH f (f.length - a.length) a=dH f (f.length - (a++[m.name]).length) (a++[m.name]):=by
 have:=(h.step b).le;simp at this;rw[show f.length - a.length=(f.length - (a++[m.name]).length)+1 by simp;omega];rw[dH,b]
end
section
open Go Go.RowKit Go.Shelf
def Marks(b:Nat)(ds:List Deferred)(W:World):Prop:=(∀d,d∈ds->∃a,d={target:=.collected a,args:=#[]}/\b<=a/\W.heap[a]? =some (.deferred (some [])))/\ds.Pairwise (·≠·)
theorem Marks.push{c:Nat}{ds:List Deferred}{f W:World}{a:Nat}(h0:Marks c ds f)(h:Marks c ds W)(n:f.heap.size<=a)(m:c<=a)(l:W.heap[a]? =some (.deferred (some []))):Marks c ({target:=.collected a,args:=#[]}::ds) W:=by
 refine⟨λd b=>?_,List.pairwise_cons.2 ⟨λd b e=>?_,h.2⟩⟩
 ·rcases List.mem_cons.1 b with rfl|b
  ·exact⟨a,rfl,m,l⟩
  ·exact h.1 d b
 ·obtain⟨g,j,_,k⟩:=h0.1 d b;rw[j] at e;have:a=g:=by
   injection e with i;injection i
  subst this;have:=(y7n.1 k).1;omega
theorem Ext.grow{W a:World}(h:Ext W a):W.grownBy a none:=⟨h.os,h.tape,h.output,h.size,λc b _=>h.block c b⟩
end
