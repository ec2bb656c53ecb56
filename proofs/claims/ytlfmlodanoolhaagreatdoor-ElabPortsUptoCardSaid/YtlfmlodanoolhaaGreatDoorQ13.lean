import Derived.Test.YtlfmlodanoolhaaGreatDoorQ4
import Derived.Test.YtlfmlodanoolhaaGreatDoorQ11
set_option linter.all false
set_option maxRecDepth 200000
set_option maxHeartbeats 0
namespace Go.Proofs.YtlfmlodanoolhaaGreatDoor
section
open Go Go.RowKit
noncomputable def eq(o:List ByteArray)(s:ByteArray):List ByteArray:=@ite _ (s∈o) (Classical.propDecidable _) o (o++[s])
noncomputable def dc(o:List ByteArray)(l:List ByteArray):List ByteArray:=l.foldl eq o
theorem jY{o:List ByteArray}{s:ByteArray}(h:s∈o):eq o s=o:=by unfold eq;rw[if_pos h]
theorem iv{o:List ByteArray}{s:ByteArray}(h:¬s∈o):eq o s=o++[s]:=by unfold eq;rw[if_neg h]
theorem Cz(o a b:List ByteArray):dc o (a++b)=dc (dc o a) b:=by simp[dc,List.foldl_append]
theorem zU(o:List ByteArray):dc o []=o:=rfl
theorem zW(o:List ByteArray)(s:ByteArray):dc o [s]=eq o s:=rfl
theorem xC(o:List ByteArray)(s:ByteArray):(eq o s).length<=o.length+1:=by
 by_cases a:s∈o
 ·rw[jY a];omega
 ·rw[iv a];simp
theorem rK(l:List ByteArray):∀o:List ByteArray,(dc o l).length<=o.length+l.length:=by
 induction l with
 |nil=>intro o;simp[dc]
 |cons s r ih=>
  intro o;have a:=ih (eq o s);have b:=xC o s;simp only[dc,List.foldl_cons,List.length_cons] at*;omega
def bI(env:List (ByteArray×Int))(s:ByteArray):Option Int:=env.foldl (λb a=>if a.1=s then some a.2 else b) none
theorem oH(env:List (ByteArray×Int))(p:ByteArray×Int)(s:ByteArray):bI (env++[p]) s=if p.1=s then some p.2 else bI env s:=by
 simp[bI,List.foldl_append]
theorem xu{α:Type}{P:List α->Prop}(h0:P [])(c:∀l a,P l->P (l++[a]))(l:List α):P l:=by
 have:∀l:List α,P l.reverse:=λl=>by
  induction l with
  |nil=>exact h0
  |cons a r ih=>rw[List.reverse_cons];exact c _ _ ih
 have b:=this l.reverse;rwa[List.reverse_reverse] at b
def cz(b:Bool):Int:=if b then 1 else 0
theorem pT(b:Bool):0<=cz b/\cz b<=1:=by cases b<;>decide
def bF(z:Int):Prop:=0<=z/\z<=2147483647
instance (z:Int):Decidable (bF z):=by unfold bF;infer_instance
def cP(z:Int):Int×Int:=if bF z then(z,0) else(0,62)
def kI(a b:Int):Int:=if a=0 then 0 else if 31<=b\/2147483647<a*2 ^ b.toNat then -1 else a*2 ^ b.toNat
def bU(n a b:Int):Int:=
 if n=14 then a+b else if n=15 then a - b else if n=16 then a*b else if n=17 then kI a b else if n=18 then a / 2 ^ (min b 63).toNat
 else if n=19 then cz (a==b) else if n=20 then cz (a !=b) else if n=21 then cz (decide (a<b)) else if n=22 then cz (decide (a<=b)) else if n=23 then cz (decide (b<a)) else if n=24 then cz (decide (b<=a))
 else if n=25 then cz (a !=0 && b !=0) else cz (a !=0||b !=0)
def opK(op n:Int):Prop:=op=5/\n=6\/op=6/\14<=n/\n<=26\/op=7
instance (op n:Int):Decidable (opK op n):=by unfold opK;infer_instance
def jh(o:Option Int):Int×Int:=match o with|none=>(0,60)|some z=>cP z
def eI(env:ByteArray->Option Int)(op:Int)(b:ByteArray)(n w v:Int)(a:List (Int×Int)):Int×Int:=
 if op=1/\w=0 then cP v
 else if op=2 then jh (env b)
 else if opK op n then
  (if(a.getD 0 (0,61)).2≠0 then(0,(a.getD 0 (0,61)).2)
  else if op=5 then(cz ((a.getD 0 (0,61)).1==0),0)
  else if op=7 then a.getD (if(a.getD 0 (0,61)).1=0 then 2 else 1) (0,61)
  else if(a.getD 1 (0,61)).2≠0 then(0,(a.getD 1 (0,61)).2)
  else cP (bU n (a.getD 0 (0,61)).1 (a.getD 1 (0,61)).1))
 else(0,61)
mutual
def aN(env:ByteArray->Option Int):X->Int×Int
 |.mk op nm n w v l=>eI env op nm n w v (kE env l)
def kE(env:ByteArray->Option Int):List X->List (Int×Int)
 |[]=>[]
 |x::r=>aN env x::kE env r
 end
theorem xS(env:ByteArray->Option Int)(l:List X):kE env l=l.map (aN env):=by induction l with|nil=>rfl|cons x r ih=>simp[kE,ih]
theorem ft(env:ByteArray->Option Int)(x:X):aN env x=eI env x.op x.name x.n x.w x.v (x.l.map (aN env)):=by cases x;rw[aN,xS];rfl
def okK(a:Int×Int):Prop:=a.2=0/\bF a.1\/(a.2=60\/a.2=61\/a.2=62)/\a.1=0
theorem lO(z:Int):okK (cP z):=by
 unfold cP;split
 ·exact .inl ⟨rfl,by assumption⟩
 ·exact .inr ⟨.inr (.inr rfl),rfl⟩
theorem uR(b:Bool):okK (cz b,0):=.inl ⟨rfl,(pT b).1,by have:=(pT b).2;show cz b<=_;omega⟩
theorem lN{b:List (Int×Int)}(h:∀a,a∈b->okK a)(i:Nat):okK (b.getD i (0,61)):=by
 rw[List.getD_eq_getElem?_getD];cases hi:b[i]? with
 |none=>exact .inr ⟨.inr (.inl rfl),rfl⟩
 |some a=>exact h a (List.mem_of_getElem? hi)
theorem qq{a:Int×Int}(h:okK a)(b:a.2≠0):okK (0,a.2):=by
 rcases h with h|h
 ·exact absurd h.1 b
 ·exact .inr ⟨h.1,rfl⟩
theorem rk(env:ByteArray->Option Int)(x:X):okK (aN env x):=by
 induction x using X.ind with
 |h x ih=>
  rw[ft];have a:∀b,b∈x.l.map (aN env)->okK b:=λb c=>by obtain⟨e,d,rfl⟩:=y9c.1 c;exact ih e d
  unfold eI;split
  ·exact lO _
  ·split
   ·unfold jh;split
    ·exact .inr ⟨.inl rfl,rfl⟩
    ·exact lO _
   ·split
    ·split
     ·exact qq (lN a 0) (by assumption)
     ·split
      ·exact uR _
      ·split
       ·exact lN a _
       ·split
        ·exact qq (lN a 1) (by assumption)
        ·exact lO _
    ·exact .inr ⟨.inr (.inl rfl),rfl⟩
theorem lE{env:ByteArray->Option Int}{x:X}:0<=(aN env x).1/\(aN env x).1<=2147483647:=by
 rcases rk env x with⟨-,a⟩|⟨-,a⟩
 ·exact a
 ·rw[a];decide
theorem qK(env:ByteArray->Option Int)(z:Int)(a:ByteArray)(n:Int)(l:List X):aN env (.mk 1 a n 0 z l)=cP z:=by
 rw[ft];simp[eI,X.op,X.w,X.v]
noncomputable def bd(f:List Mdl)(s:ByteArray):Option Mdl:=f.find? λa=>yes (a.name=s)
mutual
def ofI:Itm->List ByteArray
 |.mk op _ of _ _ l els _ _=>(if op=7 then [of] else [])++(cc l++cc els)
def cc:List Itm->List ByteArray
 |[]=>[]
 |x::r=>ofI x++cc r
 end
theorem oa(x:Itm):ofI x=(if x.op=7 then [x.of] else [])++(cc x.l++cc x.els):=by cases x;rw[ofI];rfl
noncomputable def cj(m:Mdl):List ByteArray:=dc [] (cc m.items)
mutual
def eL:Itm->List Itm
 |.mk op nm of x s l els ps bs=>.mk op nm of x s l els ps bs::(bP l++bP els)
def bP:List Itm->List Itm
 |[]=>[]
 |x::r=>eL x++bP r
 end
theorem np(x:Itm):eL x=x::(bP x.l++bP x.els):=by cases x;rw[eL];rfl
theorem kP(l a:List Itm):bP (l++a)=bP l++bP a:=by
 induction l with
 |nil=>rfl
 |cons x l ih=>simp[bP,ih]
def dG(x:Itm):List ByteArray:=if x.op=7 then [x.of] else []
theorem tQ:∀x:Itm,(eL x).flatMap dG=ofI x:=by
 intro x;induction x using Itm.ind with
 |h x h1 h2=>
  have c:∀l:List Itm,(∀a,a∈l->(eL a).flatMap dG=ofI a)->(bP l).flatMap dG=cc l:=by
   intro l;induction l with
   |nil=>intro _;rfl
   |cons a r ih=>
    intro b;show(eL a++bP r).flatMap dG=ofI a++cc r;rw[List.flatMap_append,b a (List.mem_cons_self ..),ih λe d=>b e (List.mem_cons_of_mem _ d)]
  rw[np,oa,List.flatMap_cons,List.flatMap_append,c _ h1,c _ h2];rfl
theorem qv(l:List Itm):(bP l).flatMap dG=cc l:=by
 induction l with
 |nil=>rfl
 |cons x r ih=>show(eL x++bP r).flatMap dG=ofI x++cc r;rw[List.flatMap_append,tQ,ih]
def cD(op:Int):Prop:=op=1\/op=2\/op=3\/op=7\/op=10\/op=9
instance (op:Int):Decidable (cD op):=by unfold cD;infer_instance
mutual
noncomputable def tnI:Itm->List ByteArray
 |.mk op nm _ _ _ l els _ _=>if cD op then [nm] else if op=8 then dc (ap l) (ap els) else []
noncomputable def ap:List Itm->List ByteArray
 |[]=>[]
 |x::r=>tnI x++ap r
 end
theorem gj(x:Itm):tnI x=if cD x.op then [x.name] else if x.op=8 then dc (ap x.l) (ap x.els) else []:=by cases x;rw[tnI];rfl
theorem jx(l a:List Itm):ap (l++a)=ap l++ap a:=by
 induction l with
 |nil=>rfl
 |cons x l ih=>simp[ap,ih]
mutual
def fp:Itm->Prop
 |.mk op _ _ _ _ l els _ _=>op=8->(cO l/\(ap l).Nodup)/\(cO els/\(ap els).Nodup)
def cO:List Itm->Prop
 |[]=>True
 |x::r=>fp x/\cO r
 end
def iM(l:List Itm):Prop:=cO l/\(ap l).Nodup
theorem jO(x:Itm):fp x↔(x.op=8->iM x.l/\iM x.els):=by cases x;rw[fp];rfl
theorem pK(l a:List Itm):cO (l++a)↔cO l/\cO a:=by
 induction l with
 |nil=>simp[cO]
 |cons x l ih=>simp[cO,ih,and_assoc]
theorem tokIs_iff{l:List Itm}:cO l↔∀x,x∈l->fp x:=by
 induction l with
 |nil=>simp[cO]
 |cons x l ih=>simp[cO,ih]
mutual
def lpS:(ByteArray->Prop)->S->Prop
 |C,.mk op nm _ l=>(op=6->¬C nm)/\bG (λs=>C s\/op=6/\s=nm) l
def bG:(ByteArray->Prop)->List S->Prop
 |_,[]=>True
 |C,x::r=>lpS C x/\bG C r
 end
theorem mV(C:ByteArray->Prop)(x:S):lpS C x↔(x.op=6->¬C x.name)/\bG (λs=>C s\/x.op=6/\s=x.name) x.l:=by cases x;rw[lpS];rfl
theorem pi(C:ByteArray->Prop)(l a:List S):bG C (l++a)↔bG C l/\bG C a:=by
 induction l with
 |nil=>simp[bG]
 |cons x l ih=>simp[bG,ih,and_assoc]
mutual
noncomputable def inI:(ByteArray->Prop)->Itm->Prop
 |C,.mk op _ of _ s l els _ _=>bG C s/\(op=8->bh C l/\bh C els)/\(op=9->iM l/\¬of∈ap l/\(∀a,a∈ap l\/a=of->¬C a)/\bh (λa=>C a\/a∈ap l\/a=of) l)
noncomputable def bh:(ByteArray->Prop)->List Itm->Prop
 |_,[]=>True
 |C,x::r=>inI C x/\bh C r
 end
theorem jn(C:ByteArray->Prop)(x:Itm):inI C x↔bG C x.s/\(x.op=8->bh C x.l/\bh C x.els)/\(x.op=9->iM x.l/\¬x.of∈ap x.l/\(∀a,a∈ap x.l\/a=x.of->¬C a)/\bh (λa=>C a\/a∈ap x.l\/a=x.of) x.l):=by
 cases x;rw[inI];rfl
theorem ph(C:ByteArray->Prop)(l a:List Itm):bh C (l++a)↔bh C l/\bh C a:=by
 induction l with
 |nil=>simp[bh]
 |cons x l ih=>simp[bh,ih,and_assoc]
theorem uA:∀(x:S) (C a:ByteArray->Prop),(∀s,a s->C s)->lpS C x->lpS a x:=by
 intro x;induction x using S.ind with
 |h x ih=>
  intro C a d b;obtain⟨f,g⟩:=(mV C x).1 b;refine(mV a x).2 ⟨λi j=>f i (d _ j),?_⟩;have k:∀l:List S,(∀c,c∈l->c∈x.l)->∀C a:ByteArray->Prop,(∀s,a s->C s)->bG C l->bG a l:=by
   intro l;induction l with
   |nil=>intro _ C a _ _;exact trivial
   |cons c r ih2=>intro e C a d b;exact⟨ih c (e c (bT ..)) C a d b.1,ih2 (λp o=>e p (bj _ o)) C a d b.2⟩
  exact k x.l (λc n=>n) _ _ (λs m=>m.elim (λb=>.inl (d s b)) .inr) g
theorem lJ{C a:ByteArray->Prop}(c:∀s,a s->C s)(l:List S):bG C l->bG a l:=by
 induction l with
 |nil=>intro _;exact trivial
 |cons x r ih=>intro b;exact⟨uA x C a c b.1,ih b.2⟩
theorem uq:∀(x:Itm) (C a:ByteArray->Prop),(∀s,a s->C s)->inI C x->inI a x:=by
 intro x;induction x using Itm.ind with
 |h x ih1 ih2=>
  intro C a b c;have f:∀l:List Itm,(∀e,e∈l->∀C a:ByteArray->Prop,(∀s,a s->C s)->inI C e->inI a e)->∀C a:ByteArray->Prop,(∀s,a s->C s)->bh C l->bh a l:=by
   intro l;induction l with
   |nil=>intro _ C a _ _;exact trivial
   |cons e r ih3=>intro j C a b c;exact⟨j e (bT ..) C a b c.1,ih3 (λz y=>j z (bj _ y)) C a b c.2⟩
  obtain⟨p,g,q⟩:=(jn C x).1 c;refine(jn a x).2 ⟨lJ b _ p,λi=>⟨f _ ih1 C a b (g i).1,f _ ih2 C a b (g i).2⟩,λt=>?_⟩;obtain⟨m,n,o,d⟩:=q t;exact⟨m,n,λk w u=>o k w (b k u),f _ ih1 _ _ (λs v=>v.elim (λc=>.inl (b s c)) .inr) d⟩
theorem qW{C a:ByteArray->Prop}(c:∀s,a s->C s)(l:List Itm):bh C l->bh a l:=by
 induction l with
 |nil=>intro _;exact trivial
 |cons x r ih=>intro b;exact⟨uq x C a c b.1,ih b.2⟩
theorem gQ{C b:ByteArray->Prop}(h:∀s,C s↔b s)(l:List S):bG C l↔bG b l:=⟨lJ (λs a=>(h s).2 a) l,lJ (λs a=>(h s).1 a) l⟩
theorem ik{C b:ByteArray->Prop}(h:∀s,C s↔b s)(l:List Itm):bh C l↔bh b l:=⟨qW (λs a=>(h s).2 a) l,qW (λs a=>(h s).1 a) l⟩
noncomputable def hC(m:Mdl):List ByteArray:=ap m.items++(m.ports.map Prt.name++m.params.map Bnd.name)
def dW(m:Mdl):Prop:=cO m.items/\(hC m).Nodup/\bh (λs=>s∈hC m) m.items
def ey(a:List ByteArray)(m:Mdl):Prop:=¬m.name∈a/\∀s,s∈cj m->s∈a
noncomputable def dr(f:List Mdl)(b:List ByteArray):Option Mdl:=f.find? λa=>yes (ey b a)
noncomputable def dJ(f:List Mdl):Nat->List ByteArray->List ByteArray
 |0,out=>out
 |n+1,out=>match dr f out with
  |none=>out
  |some m=>dJ f n (out++[m.name])
noncomputable def dd(f:List Mdl):List ByteArray:=dJ f f.length []
def aZ(f:List Mdl):List ByteArray:=f.map Mdl.name
noncomputable def eO(f:List Mdl):Int:=
 @ite _ ((aZ f).Nodup/\∀a,a∈f->dW a) (Classical.propDecidable _)
  (@ite _ (∀a,a∈f->∀s,s∈cj a->s∈aZ f) (Classical.propDecidable _) (if(dd f).length<f.length then 72 else 0) 71) 70
theorem wL{o:List ByteArray}{s t:ByteArray}:t∈eq o s↔t∈o\/t=s:=by
 by_cases a:s∈o
 ·rw[jY a];exact⟨.inl,λb=>b.elim id (λe=>e▸a)⟩
 ·rw[iv a];simp
theorem fO{t:ByteArray}(l:List ByteArray):∀o:List ByteArray,t∈dc o l↔t∈o\/t∈l:=by
 induction l with
 |nil=>intro o;simp[dc]
 |cons s r ih=>intro o;show t∈dc (eq o s) r↔_;rw[ih,wL,List.mem_cons,or_assoc]
theorem AI(l:List ByteArray):∀o:List ByteArray,o.Nodup->(dc o l).Nodup:=by
 induction l with
 |nil=>intro o a;exact a
 |cons s r ih=>
  intro o a;refine ih (eq o s) ?_;by_cases b:s∈o
  ·rw[jY b];exact a
  ·rw[iv b];refine List.nodup_append.2 ⟨a,zS,λd ha f c=>?_⟩;simp at c;subst c;intro e;exact b (e▸ha)
theorem mem_uses{m:Mdl}{s:ByteArray}:s∈cj m↔s∈cc m.items:=by unfold cj;rw[fO];simp
theorem yU{f:List Mdl}{a:List ByteArray}{m:Mdl}(h:dr f a=some m):m∈f/\ey a m:=by
 unfold dr at h;have b:=List.find?_some h;exact⟨List.mem_of_find?_eq_some h,yes_iff.1 b⟩
theorem Bf{l:List ByteArray}{s:ByteArray}(h:s∈l):(l.filter λb=>!yes (b=s)).length<l.length:=by
 induction l with
 |nil=>cases h
 |cons a r ih=>
  by_cases ha:a=s
  ·have:(r.filter λb=>!yes (b=s)).length<=r.length:=List.length_filter_le _ _;rw[List.filter_cons,if_neg (by simp[yes_iff.2 ha]),List.length_cons];omega
  ·have:=ih ((List.mem_cons.1 h).resolve_left (λe=>ha e.symm));rw[List.filter_cons,if_pos (by simp[yes_no.2 ha]),List.length_cons,List.length_cons];omega
theorem re{o:List ByteArray}:∀{l:List ByteArray},o.Nodup->(∀s,s∈o->s∈l)->o.length<=l.length:=by
 induction o with
 |nil=>intro l _ _;simp
 |cons s r ih=>
  intro l h b;obtain⟨d,f⟩:=List.nodup_cons.1 h;have i:=b s (bT ..);have:=ih (l:=l.filter λa=>!yes (a=s)) f λa c=>List.mem_filter.2 ⟨b a (bj _ c),by
   have g:¬a=s:=λe=>d (by rw[<-e];exact c)
   simp[yes_no.2 g]⟩
  have j:=Bf i;rw[List.length_cons];omega
structure Ordered(f:List Mdl)(out:List ByteArray):Prop where
 nodup:out.Nodup
 sub:∀s,s∈out->s∈aZ f
 pre:∀k (h:k<out.length),∃m,m∈f/\m.name=out[k]/\∀s,s∈cj m->s∈out.take k
theorem pl(f:List Mdl):Ordered f []:=⟨zS,(λs a=>by cases a),(λb a=>by cases a)⟩
theorem Ordered.step{f:List Mdl}{b:List ByteArray}{m:Mdl}(h:Ordered f b)(p:dr f b=some m):Ordered f (b++[m.name]):=by
 obtain⟨j,q,r⟩:=yU p;refine⟨List.nodup_append.2 ⟨h.nodup,zS,λu ha v g e=>?_⟩,λs a=>?_,λd o=>?_⟩
 ·simp at g;subst g;exact q (e▸ha)
 ·rcases y9b.1 a with c|c
  ·exact h.sub s c
  ·simp at c;subst c;exact y9c.2 ⟨m,j,rfl⟩
 ·by_cases i:d<b.length
  ·obtain⟨t,k,l,n⟩:=h.pre d i;refine⟨t,k,by rw[List.getElem_append_left i];exact l,λs a=>?_⟩;rw[List.take_append_of_le_length zO];exact n s a
  ·obtain rfl:d=b.length:=by simp at o;omega
   exact⟨m,j,zS,λs a=>by simpa using r s a⟩
theorem Ordered.le{f:List Mdl}{a:List ByteArray}(h:Ordered f a):a.length<=f.length:=by
 have:=re h.nodup h.sub;simpa [aZ] using this
theorem yW{f:List Mdl}:∀(n:Nat) (a:List ByteArray),Ordered f a->f.length<=a.length+n->Ordered f (dJ f n a)/\dr f (dJ f n a)=none:=by
 intro n;induction n with
 |zero=>
  intro a b c;refine⟨b,?_⟩;show dr f a=none;cases hn:dr f a with
  |none=>rfl
  |some m=>have:=(b.step hn).le;simp at this;omega
 |succ n ih=>
  intro a b c;unfold dJ;cases hn:dr f a with
  |none=>exact⟨b,hn⟩
  |some m=>exact ih _ (b.step hn) (by simp;omega)
theorem mx(f:List Mdl):Ordered f (dd f)/\dr f (dd f)=none:=yW f.length [] (pl f) zS
theorem AJ{f:List Mdl}{a:List ByteArray}:∀n,dr f a=none->dJ f n a=a:=by
 intro n b;cases n with
 |zero=>rfl
 |succ n=>unfold dJ;rw[b]
theorem AK{f:List Mdl}{a:List ByteArray}{m:Mdl}(h:Ordered f a)(b:dr f a=some m):dJ f (f.length - a.length) a=dJ f (f.length - (a++[m.name]).length) (a++[m.name]):=by
 have:=(h.step b).le;simp at this;rw[show f.length - a.length=(f.length - (a++[m.name]).length)+1 by simp;omega];rw[dJ,b]
end
section
open Go Go.RowKit Go.Shelf
def Marks(b:Nat)(ds:List Deferred)(W:World):Prop:=(∀d,d∈ds->∃a,d={target:=.collected a,args:=#[]}/\b<=a/\W.heap[a]? =some (.deferred (some [])))/\ds.Pairwise (·≠·)
theorem Marks.push{c:Nat}{ds:List Deferred}{f W:World}{a:Nat}(h0:Marks c ds f)(h:Marks c ds W)(n:f.heap.size<=a)(m:c<=a)(l:W.heap[a]? =some (.deferred (some []))):Marks c ({target:=.collected a,args:=#[]}::ds) W:=by
 refine⟨λd b=>?_,List.pairwise_cons.2 ⟨λd b e=>?_,h.2⟩⟩
 ·rcases List.mem_cons.1 b with rfl|b
  ·exact⟨a,rfl,m,l⟩
  ·exact h.1 d b
 ·obtain⟨g,j,_,k⟩:=h0.1 d b;rw[j] at e;have:a=g:=by
   injection e with i;injection i
  subst this;have:=(y8k.1 k).1;omega
theorem Ext.grow{W a:World}(h:Ext W a):W.grownBy a none:=⟨h.os,h.tape,h.output,h.size,λc b _=>h.block c b⟩
end
