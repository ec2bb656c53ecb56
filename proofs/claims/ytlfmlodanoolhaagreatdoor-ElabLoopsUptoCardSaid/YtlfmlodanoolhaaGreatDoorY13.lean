import Derived.Test.YtlfmlodanoolhaaGreatDoorY4
import Derived.Test.YtlfmlodanoolhaaGreatDoorY12
set_option linter.all false
set_option maxRecDepth 200000
set_option maxHeartbeats 32000000
namespace Go.Proofs.YtlfmlodanoolhaaGreatDoor
open Go Go.RowKit
noncomputable def ei(o:List ByteArray)(s:ByteArray):List ByteArray:=@ite _ (s∈o) (Classical.propDecidable _) o (o++[s])
noncomputable def cO(o:List ByteArray)(l:List ByteArray):List ByteArray:=l.foldl ei o
theorem je{o:List ByteArray}{s:ByteArray}(h:s∈o):ei o s=o:=by unfold ei;rw[if_pos h]
theorem hR{o:List ByteArray}{s:ByteArray}(h:¬s∈o):ei o s=o++[s]:=by unfold ei;rw[if_neg h]
theorem qT(o a b:List ByteArray):cO o (a++b)=cO (cO o a) b:=by simp[cO,List.foldl_append]
theorem wK(o:List ByteArray):cO o []=o:=rfl
theorem wL(o:List ByteArray)(s:ByteArray):cO o [s]=ei o s:=rfl
theorem uD(o:List ByteArray)(s:ByteArray):(ei o s).length<=o.length+1:=by
 by_cases a:s∈o
 ·rw[je a];omega
 ·rw[hR a];simp
theorem pF(l:List ByteArray):∀o:List ByteArray,(cO o l).length<=o.length+l.length:=by
 induction l with
 |nil=>intro o;simp[cO]
 |cons s r ih=>
  intro o;have a:=ih (ei o s);have b:=uD o s;simp only[cO,List.foldl_cons,List.length_cons] at*;omega
def bw(env:List (ByteArray×Int))(s:ByteArray):Option Int:=env.foldl (λb a=>if a.1=s then some a.2 else b) none
theorem mC(env:List (ByteArray×Int))(p:ByteArray×Int)(s:ByteArray):bw (env++[p]) s=if p.1=s then some p.2 else bw env s:=by
 simp[bw,List.foldl_append]
theorem uu{α:Type}{P:List α->Prop}(h0:P [])(c:∀l a,P l->P (l++[a]))(l:List α):P l:=by
 have:∀l:List α,P l.reverse:=λl=>by
  induction l with
  |nil=>exact h0
  |cons a r ih=>rw[List.reverse_cons];exact c _ _ ih
 have b:=this l.reverse;rwa[List.reverse_reverse] at b
def cg(b:Bool):Int:=if b then 1 else 0
theorem oa(b:Bool):0<=cg b/\cg b<=1:=by cases b<;>decide
def bF(z:Int):Prop:=0<=z/\z<=2147483647
instance (z:Int):Decidable (bF z):=by unfold bF;infer_instance
def cA(z:Int):Int×Int:=if bF z then(z,0) else(0,62)
def jI(a b:Int):Int:=if a=0 then 0 else if 31<=b\/2147483647<a*2 ^ b.toNat then -1 else a*2 ^ b.toNat
def bK(n a b:Int):Int:=
 if n=14 then a+b else if n=15 then a - b else if n=16 then a*b else if n=17 then jI a b else if n=18 then a / 2 ^ (min b 63).toNat
 else if n=19 then cg (a==b) else if n=20 then cg (a !=b) else if n=21 then cg (decide (a<b)) else if n=22 then cg (decide (a<=b)) else if n=23 then cg (decide (b<a)) else if n=24 then cg (decide (b<=a))
 else if n=25 then cg (a !=0 && b !=0) else cg (a !=0||b !=0)
def opK(op n:Int):Prop:=op=5/\n=6\/op=6/\14<=n/\n<=26\/op=7
instance (op n:Int):Decidable (opK op n):=by unfold opK;infer_instance
def iA(o:Option Int):Int×Int:=match o with|none=>(0,60)|some z=>cA z
def ew(env:ByteArray->Option Int)(op:Int)(b:ByteArray)(n w v:Int)(a:List (Int×Int)):Int×Int:=
 if op=1/\w=0 then cA v
 else if op=2 then iA (env b)
 else if opK op n then
  (if(a.getD 0 (0,61)).2≠0 then(0,(a.getD 0 (0,61)).2)
  else if op=5 then(cg ((a.getD 0 (0,61)).1==0),0)
  else if op=7 then a.getD (if(a.getD 0 (0,61)).1=0 then 2 else 1) (0,61)
  else if(a.getD 1 (0,61)).2≠0 then(0,(a.getD 1 (0,61)).2)
  else cA (bK n (a.getD 0 (0,61)).1 (a.getD 1 (0,61)).1))
 else(0,61)
mutual
def aL(env:ByteArray->Option Int):X->Int×Int
 |.mk op nm n w v l=>ew env op nm n w v (jD env l)
def jD(env:ByteArray->Option Int):List X->List (Int×Int)
 |[]=>[]
 |x::r=>aL env x::jD env r
 end
theorem uU(env:ByteArray->Option Int)(l:List X):jD env l=l.map (aL env):=by induction l with|nil=>rfl|cons x r ih=>simp[jD,ih]
theorem eV(env:ByteArray->Option Int)(x:X):aL env x=ew env x.op x.name x.n x.w x.v (x.l.map (aL env)):=by cases x;rw[aL,uU];rfl
def okK(a:Int×Int):Prop:=a.2=0/\bF a.1\/(a.2=60\/a.2=61\/a.2=62)/\a.1=0
theorem kh(z:Int):okK (cA z):=by
 unfold cA;split
 ·exact .inl ⟨rfl,by assumption⟩
 ·exact .inr ⟨.inr (.inr rfl),rfl⟩
theorem sE(b:Bool):okK (cg b,0):=.inl ⟨rfl,(oa b).1,by have:=(oa b).2;show cg b<=_;omega⟩
theorem kg{b:List (Int×Int)}(h:∀a,a∈b->okK a)(i:Nat):okK (b.getD i (0,61)):=by
 rw[List.getD_eq_getElem?_getD];cases hi:b[i]? with
 |none=>exact .inr ⟨.inr (.inl rfl),rfl⟩
 |some a=>exact h a (List.mem_of_getElem? hi)
theorem ol{a:Int×Int}(h:okK a)(b:a.2≠0):okK (0,a.2):=by
 rcases h with h|h
 ·exact absurd h.1 b
 ·exact .inr ⟨h.1,rfl⟩
theorem pk(env:ByteArray->Option Int)(x:X):okK (aL env x):=by
 induction x using X.ind with
 |h x ih=>
  rw[eV];have a:∀b,b∈x.l.map (aL env)->okK b:=λb c=>by obtain⟨e,d,rfl⟩:=y2o.1 c;exact ih e d
  unfold ew;split
  ·exact kh _
  ·split
   ·unfold iA;split
    ·exact .inr ⟨.inl rfl,rfl⟩
    ·exact kh _
   ·split
    ·split
     ·exact ol (kg a 0) (by assumption)
     ·split
      ·exact sE _
      ·split
       ·exact kg a _
       ·split
        ·exact ol (kg a 1) (by assumption)
        ·exact kh _
    ·exact .inr ⟨.inr (.inl rfl),rfl⟩
theorem kc{env:ByteArray->Option Int}{x:X}:0<=(aL env x).1/\(aL env x).1<=2147483647:=by
 rcases pk env x with⟨-,a⟩|⟨-,a⟩
 ·exact a
 ·rw[a];decide
theorem oO(env:ByteArray->Option Int)(z:Int)(a:ByteArray)(n:Int)(l:List X):aL env (.mk 1 a n 0 z l)=cA z:=by
 rw[eV];simp[ew,X.op,X.w,X.v]
noncomputable def bU(f:List Mdl)(s:ByteArray):Option Mdl:=f.find? λa=>yes (a.name=s)
mutual
def ofI:Itm->List ByteArray
 |.mk op _ of _ _ l els _ _=>(if op=7 then [of] else [])++(bJ l++bJ els)
def bJ:List Itm->List ByteArray
 |[]=>[]
 |x::r=>ofI x++bJ r
 end
theorem nQ(x:Itm):ofI x=(if x.op=7 then [x.of] else [])++(bJ x.l++bJ x.els):=by cases x;rw[ofI];rfl
noncomputable def bN(m:Mdl):List ByteArray:=cO [] (bJ m.items)
mutual
def ey:Itm->List Itm
 |.mk op nm of x s l els ps bs=>.mk op nm of x s l els ps bs::(bD l++bD els)
def bD:List Itm->List Itm
 |[]=>[]
 |x::r=>ey x++bD r
 end
theorem lv(x:Itm):ey x=x::(bD x.l++bD x.els):=by cases x;rw[ey];rfl
theorem jS(l a:List Itm):bD (l++a)=bD l++bD a:=by
 induction l with
 |nil=>rfl
 |cons x l ih=>simp[bD,ih]
def dl(x:Itm):List ByteArray:=if x.op=7 then [x.of] else []
theorem rv:∀x:Itm,(ey x).flatMap dl=ofI x:=by
 intro x;induction x using Itm.ind with
 |h x h1 h2=>
  have c:∀l:List Itm,(∀a,a∈l->(ey a).flatMap dl=ofI a)->(bD l).flatMap dl=bJ l:=by
   intro l;induction l with
   |nil=>intro _;rfl
   |cons a r ih=>
    intro b;show(ey a++bD r).flatMap dl=ofI a++bJ r;rw[List.flatMap_append,b a (List.mem_cons_self ..),ih λe d=>b e (List.mem_cons_of_mem _ d)]
  rw[lv,nQ,List.flatMap_cons,List.flatMap_append,c _ h1,c _ h2];rfl
theorem ox(l:List Itm):(bD l).flatMap dl=bJ l:=by
 induction l with
 |nil=>rfl
 |cons x r ih=>show(ey x++bD r).flatMap dl=ofI x++bJ r;rw[List.flatMap_append,rv,ih]
def dp(op:Int):Prop:=op=1\/op=2\/op=3\/op=7\/op=10\/op=9
instance (op:Int):Decidable (dp op):=by unfold dp;infer_instance
mutual
noncomputable def tnI:Itm->List ByteArray
 |.mk op nm _ _ _ l els _ _=>if dp op then [nm] else if op=8 then cO (al l) (al els) else []
noncomputable def al:List Itm->List ByteArray
 |[]=>[]
 |x::r=>tnI x++al r
 end
theorem jL(x:Itm):tnI x=if dp x.op then [x.name] else if x.op=8 then cO (al x.l) (al x.els) else []:=by cases x;rw[tnI];rfl
theorem iQ(l a:List Itm):al (l++a)=al l++al a:=by
 induction l with
 |nil=>rfl
 |cons x l ih=>simp[al,ih]
mutual
def eS:Itm->Prop
 |.mk op _ _ _ _ l els _ _=>op=8->(cq l/\(al l).Nodup)/\(cq els/\(al els).Nodup)
def cq:List Itm->Prop
 |[]=>True
 |x::r=>eS x/\cq r
 end
def ix(l:List Itm):Prop:=cq l/\(al l).Nodup
theorem lA(x:Itm):eS x↔(x.op=8->ix x.l/\ix x.els):=by cases x;rw[eS];rfl
theorem ny(l a:List Itm):cq (l++a)↔cq l/\cq a:=by
 induction l with
 |nil=>simp[cq]
 |cons x l ih=>simp[cq,ih,and_assoc]
mutual
def lpS:(ByteArray->Prop)->S->Prop
 |C,.mk op nm _ l=>(op=6->¬C nm)/\bi (λs=>C s\/op=6/\s=nm) l
def bi:(ByteArray->Prop)->List S->Prop
 |_,[]=>True
 |C,x::r=>lpS C x/\bi C r
 end
theorem lf(C:ByteArray->Prop)(x:S):lpS C x↔(x.op=6->¬C x.name)/\bi (λs=>C s\/x.op=6/\s=x.name) x.l:=by cases x;rw[lpS];rfl
theorem nc(C:ByteArray->Prop)(l a:List S):bi C (l++a)↔bi C l/\bi C a:=by
 induction l with
 |nil=>simp[bi]
 |cons x l ih=>simp[bi,ih,and_assoc]
mutual
noncomputable def inI:(ByteArray->Prop)->Itm->Prop
 |C,.mk op _ of _ s l els _ _=>bi C s/\(op=8->aP C l/\aP C els)/\(op=9->ix l/\¬of∈al l/\(∀a,a∈al l\/a=of->¬C a)/\aP (λa=>C a\/a∈al l\/a=of) l)
noncomputable def aP:(ByteArray->Prop)->List Itm->Prop
 |_,[]=>True
 |C,x::r=>inI C x/\aP C r
 end
theorem jF(C:ByteArray->Prop)(x:Itm):inI C x↔bi C x.s/\(x.op=8->aP C x.l/\aP C x.els)/\(x.op=9->ix x.l/\¬x.of∈al x.l/\(∀a,a∈al x.l\/a=x.of->¬C a)/\aP (λa=>C a\/a∈al x.l\/a=x.of) x.l):=by
 cases x;rw[inI];rfl
theorem mY(C:ByteArray->Prop)(l a:List Itm):aP C (l++a)↔aP C l/\aP C a:=by
 induction l with
 |nil=>simp[aP]
 |cons x l ih=>simp[aP,ih,and_assoc]
theorem sd:∀(x:S) (C a:ByteArray->Prop),(∀s,a s->C s)->lpS C x->lpS a x:=by
 intro x;induction x using S.ind with
 |h x ih=>
  intro C a d b;obtain⟨f,g⟩:=(lf C x).1 b;refine(lf a x).2 ⟨λi j=>f i (d _ j),?_⟩;have k:∀l:List S,(∀c,c∈l->c∈x.l)->∀C a:ByteArray->Prop,(∀s,a s->C s)->bi C l->bi a l:=by
   intro l;induction l with
   |nil=>intro _ C a _ _;exact trivial
   |cons c r ih2=>intro e C a d b;exact⟨ih c (e c (du ..)) C a d b.1,ih2 (λp o=>e p (cf _ o)) C a d b.2⟩
  exact k x.l (λc n=>n) _ _ (λs m=>m.elim (λb=>.inl (d s b)) .inr) g
theorem kf{C a:ByteArray->Prop}(c:∀s,a s->C s)(l:List S):bi C l->bi a l:=by
 induction l with
 |nil=>intro _;exact trivial
 |cons x r ih=>intro b;exact⟨sd x C a c b.1,ih b.2⟩
theorem rV:∀(x:Itm) (C a:ByteArray->Prop),(∀s,a s->C s)->inI C x->inI a x:=by
 intro x;induction x using Itm.ind with
 |h x ih1 ih2=>
  intro C a b c;have f:∀l:List Itm,(∀e,e∈l->∀C a:ByteArray->Prop,(∀s,a s->C s)->inI C e->inI a e)->∀C a:ByteArray->Prop,(∀s,a s->C s)->aP C l->aP a l:=by
   intro l;induction l with
   |nil=>intro _ C a _ _;exact trivial
   |cons e r ih3=>intro j C a b c;exact⟨j e (du ..) C a b c.1,ih3 (λz y=>j z (cf _ y)) C a b c.2⟩
  obtain⟨p,g,q⟩:=(jF C x).1 c;refine(jF a x).2 ⟨kf b _ p,λi=>⟨f _ ih1 C a b (g i).1,f _ ih2 C a b (g i).2⟩,λt=>?_⟩;obtain⟨m,n,o,d⟩:=q t;exact⟨m,n,λk w u=>o k w (b k u),f _ ih1 _ _ (λs v=>v.elim (λc=>.inl (b s c)) .inr) d⟩
theorem oZ{C a:ByteArray->Prop}(c:∀s,a s->C s)(l:List Itm):aP C l->aP a l:=by
 induction l with
 |nil=>intro _;exact trivial
 |cons x r ih=>intro b;exact⟨rV x C a c b.1,ih b.2⟩
theorem gB{C b:ByteArray->Prop}(h:∀s,C s↔b s)(l:List S):bi C l↔bi b l:=⟨kf (λs a=>(h s).2 a) l,kf (λs a=>(h s).1 a) l⟩
theorem hH{C b:ByteArray->Prop}(h:∀s,C s↔b s)(l:List Itm):aP C l↔aP b l:=⟨oZ (λs a=>(h s).2 a) l,oZ (λs a=>(h s).1 a) l⟩
noncomputable def gh(m:Mdl):List ByteArray:=al m.items++(m.ports.map Prt.name++m.params.map Bnd.name)
def dN(m:Mdl):Prop:=cq m.items/\(gh m).Nodup/\aP (λs=>s∈gh m) m.items
def dZ(a:List ByteArray)(m:Mdl):Prop:=¬m.name∈a/\∀s,s∈bN m->s∈a
noncomputable def cN(f:List Mdl)(b:List ByteArray):Option Mdl:=f.find? λa=>yes (dZ b a)
noncomputable def dc(f:List Mdl):Nat->List ByteArray->List ByteArray
 |0,out=>out
 |n+1,out=>match cN f out with
  |none=>out
  |some m=>dc f n (out++[m.name])
noncomputable def ct(f:List Mdl):List ByteArray:=dc f f.length []
def aQ(f:List Mdl):List ByteArray:=f.map Mdl.name
noncomputable def eA(f:List Mdl):Int:=
 @ite _ ((aQ f).Nodup/\∀a,a∈f->dN a) (Classical.propDecidable _)
  (@ite _ (∀a,a∈f->∀s,s∈bN a->s∈aQ f) (Classical.propDecidable _) (if(ct f).length<f.length then 72 else 0) 71) 70
theorem tV{o:List ByteArray}{s t:ByteArray}:t∈ei o s↔t∈o\/t=s:=by
 by_cases a:s∈o
 ·rw[je a];exact⟨.inl,λb=>b.elim id (λe=>e▸a)⟩
 ·rw[hR a];simp
theorem it{t:ByteArray}(l:List ByteArray):∀o:List ByteArray,t∈cO o l↔t∈o\/t∈l:=by
 induction l with
 |nil=>intro o;simp[cO]
 |cons s r ih=>intro o;show t∈cO (ei o s) r↔_;rw[ih,tV,List.mem_cons,or_assoc]
theorem xC(l:List ByteArray):∀o:List ByteArray,o.Nodup->(cO o l).Nodup:=by
 induction l with
 |nil=>intro o a;exact a
 |cons s r ih=>
  intro o a;refine ih (ei o s) ?_;by_cases b:s∈o
  ·rw[je b];exact a
  ·rw[hR b];refine List.nodup_append.2 ⟨a,zS,λd ha f c=>?_⟩;simp at c;subst c;intro e;exact b (e▸ha)
theorem mem_uses{m:Mdl}{s:ByteArray}:s∈bN m↔s∈bJ m.items:=by unfold bN;rw[it];simp
theorem vP{f:List Mdl}{a:List ByteArray}{m:Mdl}(h:cN f a=some m):m∈f/\dZ a m:=by
 unfold cN at h;have b:=List.find?_some h;exact⟨List.mem_of_find?_eq_some h,yes_iff.1 b⟩
theorem xT{l:List ByteArray}{s:ByteArray}(h:s∈l):(l.filter λb=>!yes (b=s)).length<l.length:=by
 induction l with
 |nil=>cases h
 |cons a r ih=>
  by_cases ha:a=s
  ·have:(r.filter λb=>!yes (b=s)).length<=r.length:=List.length_filter_le _ _;rw[List.filter_cons,if_neg (by simp[yes_iff.2 ha]),List.length_cons];omega
  ·have:=ih ((List.mem_cons.1 h).resolve_left (λe=>ha e.symm));rw[List.filter_cons,if_pos (by simp[yes_no.2 ha]),List.length_cons,List.length_cons];omega
theorem ph{o:List ByteArray}:∀{l:List ByteArray},o.Nodup->(∀s,s∈o->s∈l)->o.length<=l.length:=by
 induction o with
 |nil=>intro l _ _;simp
 |cons s r ih=>
  intro l h b;obtain⟨d,f⟩:=List.nodup_cons.1 h;have i:=b s (du ..);have:=ih (l:=l.filter λa=>!yes (a=s)) f λa c=>List.mem_filter.2 ⟨b a (cf _ c),by
   have g:¬a=s:=λe=>d (by rw[<-e];exact c)
   simp[yes_no.2 g]⟩
  have j:=xT i;rw[List.length_cons];omega
structure Ordered(f:List Mdl)(out:List ByteArray):Prop where
 nodup:out.Nodup
 sub:∀s,s∈out->s∈aQ f
 pre:∀k (h:k<out.length),∃m,m∈f/\m.name=out[k]/\∀s,s∈bN m->s∈out.take k
theorem nf(f:List Mdl):Ordered f []:=⟨zS,(λs a=>by cases a),(λb a=>by cases a)⟩
theorem Ordered.step{f:List Mdl}{b:List ByteArray}{m:Mdl}(h:Ordered f b)(p:cN f b=some m):Ordered f (b++[m.name]):=by
 obtain⟨j,q,r⟩:=vP p;refine⟨List.nodup_append.2 ⟨h.nodup,zS,λu ha v g e=>?_⟩,λs a=>?_,λd o=>?_⟩
 ·simp at g;subst g;exact q (e▸ha)
 ·rcases y2n.1 a with c|c
  ·exact h.sub s c
  ·simp at c;subst c;exact y2o.2 ⟨m,j,rfl⟩
 ·by_cases i:d<b.length
  ·obtain⟨t,k,l,n⟩:=h.pre d i;refine⟨t,k,by rw[List.getElem_append_left i];exact l,λs a=>?_⟩;rw[List.take_append_of_le_length zO];exact n s a
  ·obtain rfl:d=b.length:=by simp at o;omega
   exact⟨m,j,zS,λs a=>by simpa using r s a⟩
theorem Ordered.le{f:List Mdl}{a:List ByteArray}(h:Ordered f a):a.length<=f.length:=by
 have:=ph h.nodup h.sub;simpa [aQ] using this
theorem vR{f:List Mdl}:∀(n:Nat) (a:List ByteArray),Ordered f a->f.length<=a.length+n->Ordered f (dc f n a)/\cN f (dc f n a)=none:=by
 intro n;induction n with
 |zero=>
  intro a b c;refine⟨b,?_⟩;show cN f a=none;cases hn:cN f a with
  |none=>rfl
  |some m=>have:=(b.step hn).le;simp at this;omega
 |succ n ih=>
  intro a b c;unfold dc;cases hn:cN f a with
  |none=>exact⟨b,hn⟩
  |some m=>exact ih _ (b.step hn) (by simp;omega)
theorem kI(f:List Mdl):Ordered f (ct f)/\cN f (ct f)=none:=vR f.length [] (nf f) zS
theorem xD{f:List Mdl}{a:List ByteArray}:∀n,cN f a=none->dc f n a=a:=by
 intro n b;cases n with
 |zero=>rfl
 |succ n=>unfold dc;rw[b]
theorem xE{f:List Mdl}{a:List ByteArray}{m:Mdl}(h:Ordered f a)(b:cN f a=some m):dc f (f.length - a.length) a=dc f (f.length - (a++[m.name]).length) (a++[m.name]):=by
 have:=(h.step b).le;simp at this;rw[show f.length - a.length=(f.length - (a++[m.name]).length)+1 by simp;omega];rw[dc,b]
end Go.Proofs.YtlfmlodanoolhaaGreatDoor
namespace Go.Proofs.YtlfmlodanoolhaaGreatDoor
open Go Go.RowKit Go.Shelf
def Marks(b:Nat)(ds:List Deferred)(W:World):Prop:=(∀d,d∈ds->∃a,d={target:=.collected a,args:=#[]}/\b<=a/\W.heap[a]? =some (.deferred (some [])))/\ds.Pairwise (·≠·)
theorem Marks.push{c:Nat}{ds:List Deferred}{f W:World}{a:Nat}(h0:Marks c ds f)(h:Marks c ds W)(n:f.heap.size<=a)(m:c<=a)(l:W.heap[a]? =some (.deferred (some []))):Marks c ({target:=.collected a,args:=#[]}::ds) W:=by
 refine⟨λd b=>?_,List.pairwise_cons.2 ⟨λd b e=>?_,h.2⟩⟩
 ·rcases List.mem_cons.1 b with rfl|b
  ·exact⟨a,rfl,m,l⟩
  ·exact h.1 d b
 ·obtain⟨g,j,_,k⟩:=h0.1 d b;rw[j] at e;have:a=g:=by
   injection e with i;injection i
  subst this;have:=(y1w.1 k).1;omega
theorem Ext.grow{W a:World}(h:Ext W a):W.grownBy a none:=⟨h.os,h.tape,h.output,h.size,λc b _=>h.block c b⟩
end Go.Proofs.YtlfmlodanoolhaaGreatDoor
