import Derived.Lib.IndexMore
import Derived.Deep.Slices
import Derived.ChangeReads
import Derived.DataShut
import Derived.Test.YtlfmlodanoolhaaGreatDoorRows
import Derived.Test.YtlfmlodanoolhaaGreatDoorProg
import Derived.Test.YtlfmlodanoolhaaGreatDoorV1
set_option linter.all false
set_option maxRecDepth 200000
set_option maxHeartbeats 0
namespace Go.Proofs.YtlfmlodanoolhaaGreatDoor
open Go Go.RowKit Go.Proofs.Tryz
def wordsL:List (List UInt8):=[[109,111,100,117,108,101],[105,110],[111,117,116],[119,105,114,101],[114,101,103],[99,111,110,115,116],[97,115,115,105,103,110],[99,111,109,98],[111,110],[116,105,99,107],[105,110,115,116],[105,102],[101,108,115,101],[102,111,114],[99,104,101,99,107],[99,97,115,101],[122,101,120,116],[115,101,120,116],[116,114,117,110,99]]
def enc:List (List UInt8)->List UInt8
 |[]=>[32]
 |a::r=>32::(a++enc r)
theorem contains_cons(b:UInt8)(l sub:List UInt8):Lib.contains (b::l) sub=(sub.isPrefixOf (b::l)||Lib.contains l sub):=by
 have e:=Lib.index_ge l sub;unfold Lib.contains;conv=>lhs;unfold Lib.index
 by_cases a:sub.isPrefixOf (b::l)=true
 ·simp[a]
 ·by_cases c:Lib.index l sub= -1
  ·simp[a,c]
  ·have:(Lib.index l sub== -1)=false:=by simpa using c
   simp only[a,this];have d:(0<=Lib.index l sub+1)↔(0<=Lib.index l sub):=by omega
   simp[d]
theorem Bs(a:UInt8)(b:List UInt8):Lib.contains [] (a::b)=false:=by simp[Lib.contains,Lib.index]
theorem uH(a b t:List UInt8)(h:(32:UInt8) ∉ a):Lib.contains (a++b) (32::t)=Lib.contains b (32::t):=by
 induction a with
 |nil=>rfl
 |cons c a ih=>
  have d:¬(32:UInt8)=c:=λe=>h (by simp[e])
  have f:(32:UInt8) ∉ a:=λe=>h (by simp[e])
  rw[List.cons_append,contains_cons,ih f];simp[List.isPrefixOf,d]
theorem qT:∀(s a:List UInt8) (t:List UInt8),(32:UInt8) ∉ s->(32:UInt8) ∉ a->(s++[32]).isPrefixOf (a++32::t)=(s==a)
 |[],[],t,_,_=>by simp[List.isPrefixOf]
 |[],c::a,t,_,ha=>by
  have d:¬(32:UInt8)=c:=λe=>ha (by simp[e])
  simp[List.isPrefixOf,d]
 |b::s,[],t,hs,_=>by
  have d:¬b=(32:UInt8):=λe=>hs (by simp[e])
  simp[List.isPrefixOf,d]
 |b::s,c::a,t,hs,ha=>by
  have g:=qT s a t (λe=>hs (by simp[e])) (λe=>ha (by simp[e]));simp only[List.cons_append,List.isPrefixOf,g];by_cases f:b=c<;>simp[f]
theorem vv(b:List (List UInt8)):∃c,enc b=32::c:=by
 cases b with
 |nil=>exact⟨_,rfl⟩
 |cons a r=>exact⟨_,rfl⟩
theorem pi(s:List UInt8)(c:(32:UInt8) ∉ s):∀a:List (List UInt8),(∀b∈a,(32:UInt8) ∉ b)->Lib.contains (enc a) (32::(s++[32]))=a.contains s
 |[],_=>by
  rw[enc,contains_cons,Bs];cases s<;>simp[List.isPrefixOf]
 |b::a,h=>by
  have f:=pi s c a (λx e=>h x (by simp[e]));have ha:=h b zS;obtain⟨g,d⟩:=vv a;rw[enc,contains_cons,uH _ _ _ ha,f];rw[d,List.isPrefixOf,qT s b g c ha];rw[List.contains_cons];simp
theorem pA:∀s:List UInt8,Lib.contains s [32]=s.contains 32
 |[]=>by simp[Lib.contains,Lib.index]
 |b::s=>by
  rw[contains_cons,pA s,List.contains_cons];simp[List.isPrefixOf]
theorem pc:∀a∈wordsL,(32:UInt8) ∉ a:=by decide
def jk(s:ByteArray):Bool:=wordsL.contains s.data.toList
theorem wV(s:List UInt8):(s !=[] && (!Lib.contains s [32] && Lib.contains (enc wordsL) (32::(s++[32]))))=wordsL.contains s:=by
 rw[pA];by_cases c:s=[]
 ·subst c;decide
 ·by_cases a:(32:UInt8)∈s
  ·have b:s.contains 32=true:=by simpa using a
   have:wordsL.contains s=false:=by
    cases hw:wordsL.contains s with
    |false=>rfl
    |true=>exact(pc s (by simpa using hw) a).elim
   rw[this,b];simp
  ·have b:s.contains 32=false:=by simpa using a
   rw[b,pi s a wordsL pc];have:(s !=[])=true:=by simpa using c
   rw[this];simp
def nL(a:UInt8):Bool:=decide (97<=a.toNat/\a.toNat<=122\/65<=a.toNat/\a.toNat<=90\/a.toNat=95)
def fi(i:Nat)(a:UInt8):Bool:=nL a||(decide (i≠0) && decide (48<=a.toNat/\a.toNat<=57))
theorem okAt_iff{i:Nat}{a:UInt8}:fi i a=true↔((97<=a.toNat/\a.toNat<=122\/65<=a.toNat/\a.toNat<=90\/a.toNat=95)\/i≠0/\48<=a.toNat/\a.toNat<=57):=by
 simp[fi,nL]
theorem hQ{i:Nat}{a:UInt8}(h:¬((97<=a.toNat/\a.toNat<=122\/65<=a.toNat/\a.toNat<=90\/a.toNat=95)\/i≠0/\48<=a.toNat/\a.toNat<=57)):fi i a=false:=by
 cases e:fi i a with
 |false=>rfl
 |true=>exact(h (okAt_iff.1 e)).elim
def bn(s:ByteArray):Prop:=1<=s.size/\s.size<=64/\(∀(a:Nat) (b:a<s.size),fi a s.data[a]=true)/\jk s=false
noncomputable def dT(s:ByteArray):Bool:=@decide (bn s) (Classical.propDecidable _)
theorem nameOk_iff{s:ByteArray}:dT s=true↔bn s:=by simp[dT]
theorem il{s:ByteArray}(h:¬bn s):dT s=false:=by simp[dT,h]
def aa{α:Type}(a:α->Nat):List α->Nat
 |[]=>0
 |x::r=>a x+aa a r
def ai{α:Type}(a:α->Nat):List α->Nat
 |[]=>0
 |x::r=>max (a x) (ai a r)
theorem iA{α:Type}(c:α->Nat)(a b:List α):aa c (a++b)=aa c a+aa c b:=by
 induction a with
 |nil=>simp[aa]
 |cons x r ih=>simp only[List.cons_append,aa,ih];omega
theorem BP{α:Type}(c:α->Nat)(a b:List α):ai c (a++b)=max (ai c a) (ai c b):=by
 induction a with
 |nil=>simp[ai]
 |cons x r ih=>simp only[List.cons_append,ai,ih];omega
theorem dv{α:Type}(a:α->Nat)(l:List α)(k:Nat)(h:k<l.length):aa a (l.take (k+1))=aa a (l.take k)+a l[k]:=by
 rw[List.take_succ_eq_append_getElem h,iA];simp[aa]
theorem eE{α:Type}(a:α->Nat)(l:List α)(k:Nat)(h:k<l.length):ai a (l.take (k+1))=max (ai a (l.take k)) (a l[k]):=by
 rw[List.take_succ_eq_append_getElem h,BP];simp[ai]
theorem bu{α:Type}(a:α->Nat)(l:List α)(k:Nat):aa a (l.take k)<=aa a l:=by
 have:=iA a (l.take k) (l.drop k);rw[List.take_append_drop] at this;omega
theorem ay{α:Type}(a:α->Nat)(l:List α)(x:α)(h:x∈l):a x<=aa a l:=by
 induction l with
 |nil=>cases h
 |cons y r ih=>
  simp only[aa];cases h with
  |head=>omega
  |tail _ ht=>have:=ih ht;omega
theorem fa{α:Type}(a b:α->Nat)(l:List α)(h:∀x,x∈l->a x<=b x):ai a l<=aa b l:=by
 induction l with
 |nil=>simp[ai]
 |cons y r ih=>
  have:=h y (cc ..);have:=ih λx c=>h x (bi _ c)
  simp only[ai,aa];omega
theorem aw{α:Type}(a:α->Nat)(l:List α)(h:∀x,1<=a x):l.length<=aa a l:=by
 induction l with
 |nil=>simp
 |cons y r ih=>have:=h y;simp only[aa,List.length_cons];omega
mutual
def al:X->Nat
 |.mk _ _ _ _ _ l=>1+kF l
def kF:List X->Nat
 |[]=>0
 |x::r=>al x+kF r
 end
mutual
def aM:X->Nat
 |.mk _ _ _ _ _ l=>1+ky l
def ky:List X->Nat
 |[]=>0
 |x::r=>max (aM x) (ky r)
 end
theorem yR(l:List X):kF l=aa al l:=by induction l with|nil=>rfl|cons x r ih=>simp[kF,aa,ih]
theorem xi(l:List X):ky l=ai aM l:=by induction l with|nil=>rfl|cons x r ih=>simp[ky,ai,ih]
theorem dJ(x:X):al x=1+aa al x.l:=by cases x;rw[al,yR];rfl
theorem hU(x:X):aM x=1+ai aM x.l:=by cases x;rw[aM,xi];rfl
mutual
def ao:S->Nat
 |.mk _ _ x l=>1+aa al x+kE l
def kE:List S->Nat
 |[]=>0
 |x::r=>ao x+kE r
 end
mutual
def bP:S->Nat
 |.mk _ _ x l=>1+max (ai aM x) (kx l)
def kx:List S->Nat
 |[]=>0
 |x::r=>max (bP x) (kx r)
 end
theorem yQ(l:List S):kE l=aa ao l:=by induction l with|nil=>rfl|cons x r ih=>simp[kE,aa,ih]
theorem xh(l:List S):kx l=ai bP l:=by induction l with|nil=>rfl|cons x r ih=>simp[kx,ai,ih]
theorem bW(x:S):ao x=1+aa al x.x+aa ao x.l:=by cases x;rw[ao,yQ];rfl
theorem lw(x:S):bP x=1+max (ai aM x.x) (ai bP x.l):=by cases x;rw[bP,xh];rfl
def au(b:Bnd):Nat:=1+al b.x
def bz(b:Bnd):Nat:=1+aM b.x
def aJ(b:Prt):Nat:=1+al b.w
def cM(b:Prt):Nat:=1+aM b.w
mutual
def aj:Itm->Nat
 |.mk _ _ _ x s l els ps bs=>1+aa al x+aa ao s+jn l+jn els+aa au ps+aa au bs
def jn:List Itm->Nat
 |[]=>0
 |x::r=>aj x+jn r
 end
mutual
def aY:Itm->Nat
 |.mk _ _ _ x s l els ps bs=>1+max (max (max (max (max (ai aM x) (ai bP s)) (jh l)) (jh els)) (ai bz ps)) (ai bz bs)
def jh:List Itm->Nat
 |[]=>0
 |x::r=>max (aY x) (jh r)
 end
theorem rO(l:List Itm):jn l=aa aj l:=by induction l with|nil=>rfl|cons x r ih=>simp[jn,aa,ih]
theorem rr(l:List Itm):jh l=ai aY l:=by induction l with|nil=>rfl|cons x r ih=>simp[jh,ai,ih]
theorem bq(x:Itm):aj x=1+aa al x.x+aa ao x.s+aa aj x.l+aa aj x.els+aa au x.params+aa au x.binds:=by cases x;rw[aj,rO,rO];rfl
theorem jL(x:Itm):aY x=1+max (max (max (max (max (ai aM x.x) (ai bP x.s)) (ai aY x.l)) (ai aY x.els)) (ai bz x.params)) (ai bz x.binds):=by cases x;rw[aY,rr,rr];rfl
def ar(m:Mdl):Nat:=1+aa au m.params+aa aJ m.ports+aa aj m.items
def bH(m:Mdl):Nat:=1+max (max (ai bz m.params) (ai cM m.ports)) (ai aY m.items)
theorem cR(x:X):1<=al x:=by rw[dJ];omega
theorem da(x:S):1<=ao x:=by rw[bW];omega
theorem du(x:Bnd):1<=au x:=by unfold au;omega
theorem gQ(x:Prt):1<=aJ x:=by unfold aJ;omega
theorem cQ(x:Itm):1<=aj x:=by rw[bq];omega
theorem gj(x:Mdl):1<=ar x:=by unfold ar;omega
theorem fo(x:X):aM x<=al x:=by
 induction x using X.ind with
 |h x ih=>have:=fa aM al x.l ih;rw[hU,dJ];omega
theorem fQ(l:List X):ai aM l<=aa al l:=fa _ _ _ λx _=>fo x
theorem vn(x:S):bP x<=ao x:=by
 induction x using S.ind with
 |h x ih=>have:=fa bP ao x.l ih;have:=fQ x.x;rw[lw,bW];omega
theorem ie(l:List S):ai bP l<=aa ao l:=fa _ _ _ λx _=>vn x
theorem vj(x:Bnd):bz x<=au x:=by have:=fo x.x;unfold bz au;omega
theorem eW(l:List Bnd):ai bz l<=aa au l:=fa _ _ _ λx _=>vj x
theorem vm(x:Prt):cM x<=aJ x:=by have:=fo x.w;unfold cM aJ;omega
theorem gJ(l:List Prt):ai cM l<=aa aJ l:=fa _ _ _ λx _=>vm x
theorem vk(x:Itm):aY x<=aj x:=by
 induction x using Itm.ind with
 |h x ih1 ih2=>
  have:=fa aY aj x.l ih1;have:=fa aY aj x.els ih2;have:=fQ x.x;have:=ie x.s;have:=eW x.params;have:=eW x.binds;rw[jL,bq];omega
theorem fP(l:List Itm):ai aY l<=aa aj l:=fa _ _ _ λx _=>vk x
theorem vl(x:Mdl):bH x<=ar x:=by
 have:=eW x.params;have:=gJ x.ports;have:=fP x.items;unfold bH ar;omega
theorem jV(l:List Mdl):ai bH l<=aa ar l:=fa _ _ _ λx _=>vl x
noncomputable def yes(p:Prop):Bool:=@decide p (Classical.propDecidable _)
theorem yes_iff{p:Prop}:yes p=true↔p:=by simp[yes]
theorem yes_no{p:Prop}:yes p=false↔¬p:=by simp[yes]
theorem di{p a:Prop}(h:p↔a):yes p=yes a:=by
 rw[Bool.eq_iff_iff,yes_iff,yes_iff,h]
def dW(op:Int):Prop:=op=2\/op=3\/op=4
def eg(op:Int)(n:Int):Prop:=(op=1\/op=2)/\n=0\/(op=4\/op=5)/\n=1\/(op=3\/op=6\/op=9\/op=10)/\n=2\/op=7/\n=3\/op=8/\1<=n
def ll(op n:Int):Prop:=op=5/\1<=n/\n<=6\/op=6/\11<=n/\n<=26\/op=10/\31<=n/\n<=33\/(op≠5/\op≠6/\op≠10)/\n=0
def lq(op w v:Int):Prop:=op≠1/\w=0/\v=0\/op=1/\0<=w/\w<=64/\(w=0\/w=64\/v<2 ^ w.toNat)
def kU(op:Int)(s:ByteArray):Prop:=dW op/\bn s\/¬dW op/\s.size=0
def fj(x:X):Prop:=eg x.op x.l.length/\ll x.op x.n/\lq x.op x.w x.v/\kU x.op x.name
inductive MayX:X->Prop
 |mk (x:X) (h:fj x) (hl:∀y,y∈x.l->MayX y):MayX x
theorem MayX_iff{x:X}:MayX x↔fj x/\∀b,b∈x.l->MayX b:=
 ⟨λa=>by cases a with|mk _ a hl=>exact⟨a,hl⟩,λa=>.mk x a.1 a.2⟩
inductive VX:X->Prop
 |mk (x:X) (h:0<=x.v) (h2:x.v<18446744073709551616) (hs:x.name.size<4294967281) (hl:∀y,y∈x.l->VX y):VX x
theorem VX_iff{x:X}:VX x↔0<=x.v/\x.v<18446744073709551616/\x.name.size<4294967281/\∀e,e∈x.l->VX e:=
 ⟨λa=>by cases a with|mk _ a b d c=>exact⟨a,b,d,c⟩,λ⟨a,b,d,c⟩=>.mk x a b d c⟩
inductive VS:S->Prop
 |mk (x:S) (hs:x.name.size<4294967281) (hx:∀y,y∈x.x->VX y) (hl:∀y,y∈x.l->VS y):VS x
theorem VS_iff{x:S}:VS x↔x.name.size<4294967281/\(∀a,a∈x.x->VX a)/\∀a,a∈x.l->VS a:=
 ⟨λe=>by cases e with|mk _ c d b=>exact⟨c,d,b⟩,λ⟨c,d,b⟩=>.mk x c d b⟩
def vQ(x:X):Prop:=dW x.op
def fy:List X->Prop
 |[]=>False
 |x::_=>vQ x
def cU(l:List S)(k:Nat):Int:=match l[k]? with|some s=>s.op|none=>0
mutual
inductive MayS:S->Prop
 |assign (s:S) (h:s.op=1) (hx:∀y,y∈s.x->MayX y) (hn:s.name.size=0) (h2:s.x.length=2) (ht:fy s.x) (hl:s.l.length=0):MayS s
 |if_ (s:S) (h:s.op=2) (hx:∀y,y∈s.x->MayX y) (hn:s.name.size=0) (h1:s.x.length=1) (h2:s.l.length=2) (h3:cU s.l 0=5) (h4:cU s.l 1=5\/cU s.l 1=2) (hl:∀y,y∈s.l->MayS y):MayS s
 |case_ (s:S) (h:s.op=3) (hx:∀y,y∈s.x->MayX y) (hn:s.name.size=0) (h1:s.x.length=1) (h2:1<=s.l.length) (hl:∀(i:Nat) (hi:i<s.l.length),MayArm (i+1=s.l.length) s.l[i]):MayS s
 |block (s:S) (h:s.op=5) (hn:s.name.size=0) (h0:s.x.length=0) (hl:∀y,y∈s.l->MayS y):MayS s
 |for_ (s:S) (h:s.op=6) (hx:∀y,y∈s.x->MayX y) (hn:bn s.name) (h2:s.x.length=2) (hl:∀y,y∈s.l->MayS y):MayS s
inductive MayArm:Prop->S->Prop
 |mk (p:Prop) (s:S) (h:s.op=4) (hn:s.name.size=0) (he:s.x.length=0↔p) (hx:∀y,y∈s.x->MayX y) (hl:∀y,y∈s.l->MayS y):MayArm p s
end
theorem MayArm_iff{p:Prop}{s:S}:MayArm p s↔s.op=4/\s.name.size=0/\(s.x.length=0↔p)/\(∀b,b∈s.x->MayX b)/\(∀b,b∈s.l->MayS b):=
 ⟨λa=>by cases a with|mk _ _ a e c f d=>exact⟨a,e,c,f,d⟩,λ⟨a,e,c,f,d⟩=>.mk p s a e c f d⟩
def ef(l:List S):Prop:=1<=l.length/\∀(a:Nat) (hi:a<l.length),MayArm (a+1=l.length) l[a]
def dS(l:List S):Prop:=∀a,a∈l->MayS a
def el(l:List X):Prop:=∀a,a∈l->MayX a
theorem MayS_iff{s:S}:MayS s↔el s.x/\(s.op≠6/\s.name.size=0\/s.op=6/\bn s.name)/\
 (s.op=1/\s.x.length=2/\fy s.x/\s.l.length=0\/s.op=2/\s.x.length=1/\s.l.length=2/\cU s.l 0=5/\(cU s.l 1=5\/cU s.l 1=2)/\dS s.l\/
   s.op=3/\s.x.length=1/\ef s.l\/s.op=5/\s.x.length=0/\dS s.l\/s.op=6/\s.x.length=2/\dS s.l):=by
 constructor
 ·intro a;cases a with
  |assign _ a e d c j b=>exact⟨e,.inl ⟨zO,d⟩,.inl ⟨a,c,j,b⟩⟩
  |if_ _ a e d f c h i b=>exact⟨e,.inl ⟨zO,d⟩,.inr (.inl ⟨a,f,c,h,i,b⟩)⟩
  |case_ _ a e d f c b=>exact⟨e,.inl ⟨zO,d⟩,.inr (.inr (.inl ⟨a,f,c,b⟩))⟩
  |block _ a d g b=>exact⟨λm k=>(by rw[List.eq_nil_of_length_eq_zero g] at k;cases k),.inl ⟨zO,d⟩,.inr (.inr (.inr (.inl ⟨a,g,b⟩)))⟩
  |for_ _ a e d c b=>exact⟨e,.inr ⟨a,d⟩,.inr (.inr (.inr (.inr ⟨a,c,b⟩)))⟩
 ·rintro⟨e,d,a⟩;rcases a with⟨a,c,j,b⟩|⟨a,f,c,h,i,b⟩|⟨a,f,c,b⟩|⟨a,g,b⟩|⟨a,c,b⟩
  ·exact .assign s a e zO c j b
  ·exact .if_ s a e zO f c h i b
  ·exact .case_ s a e zO f c b
  ·exact .block s a zO g b
  ·exact .for_ s a e (by rcases d with d|d;exact(d.1 a).elim;exact d.2) c b
def cq(b:Bnd):Prop:=bn b.name/\MayX b.x
def fV(p:Prt):Prop:=bn p.name/\MayX p.w
def cV(p:Prop)(s:ByteArray):Prop:=p/\bn s\/¬p/\s.size=0
def mL(op:Int):Nat:=if op=3\/op=4\/op=9 then 2 else if op=5\/op=6\/op=7 then 0 else 1
def fH(x:Itm):Prop:=1<=x.op/\x.op<=10/\cV (x.op≠4/\x.op≠5/\x.op≠6/\x.op≠8) x.name/\cV (x.op=7\/x.op=9) x.of/\x.x.length=mL x.op/\(x.op=4->fy x.x)/\
 (x.op=5\/x.op=6\/x.s.length=0)/\(x.op=8\/x.op=9\/x.l.length=0)/\(x.op=8\/x.els.length=0)/\(x.op=7\/x.params.length=0/\x.binds.length=0)
inductive MayI:Itm->Prop
 |mk (x:Itm) (h:fH x) (hx:el x.x) (hs:dS x.s) (hl:∀y,y∈x.l->MayI y) (he:∀y,y∈x.els->MayI y) (hp:∀y,y∈x.params->cq y) (hb:∀y,y∈x.binds->cq y):MayI x
theorem MayI_iff{x:Itm}:MayI x↔fH x/\el x.x/\dS x.s/\(∀a,a∈x.l->MayI a)/\(∀a,a∈x.els->MayI a)/\(∀a,a∈x.params->cq a)/\(∀a,a∈x.binds->cq a):=
 ⟨λb=>by cases b with|mk _ b h g e d f c=>exact⟨b,h,g,e,d,f,c⟩,λ⟨b,h,g,e,d,f,c⟩=>.mk x b h g e d f c⟩
def dc(m:Mdl):Prop:=bn m.name/\(∀a,a∈m.params->cq a)/\(∀a,a∈m.ports->fV a)/\(∀a,a∈m.items->MayI a)
theorem ja(w:World)(b:Value)(t:TypeId):∃(a:World) (c:Later a),w.alloc (.cells #[b] t)=c.w/\Ext w a/\a.heap.size=w.heap.size+1/\(∀e:Later a,e.w.cell? ⟨w.heap.size,0,none⟩=some b):=
 ⟨w.alloc (.cells #[b] t),⟨_,af _⟩,rfl,aE _ _,zS,λe=>((ax w t [b]).ext e.ext).cell 0⟩
theorem si(w:World)(b c:Value)(t:TypeId):∃(a:World) (d:Later a),w.alloc (.cells #[b,c] t)=d.w/\Ext w a/\a.heap.size=w.heap.size+1/\(∀e:Later a,e.w.cell? ⟨w.heap.size,0,none⟩=some b)/\(∀e:Later a,e.w.cell? ⟨w.heap.size,1,none⟩=some c):=
 ⟨w.alloc (.cells #[b,c] t),⟨_,af _⟩,rfl,aE _ _,zS,λe=>((ax w t [b,c]).ext e.ext).cell 0,λe=>((ax w t [b,c]).ext e.ext).cell 1⟩
theorem nw(w:World)(b c d:Value)(t:TypeId):∃(a:World) (f:Later a),w.alloc (.cells #[b,c,d] t)=f.w/\Ext w a/\a.heap.size=w.heap.size+1/\(∀e:Later a,e.w.cell? ⟨w.heap.size,0,none⟩=some b)/\(∀e:Later a,e.w.cell? ⟨w.heap.size,1,none⟩=some c)/\(∀e:Later a,e.w.cell? ⟨w.heap.size,2,none⟩=some d):=
 ⟨w.alloc (.cells #[b,c,d] t),⟨_,af _⟩,rfl,aE _ _,zS,λe=>((ax w t [b,c,d]).ext e.ext).cell 0,λe=>((ax w t [b,c,d]).ext e.ext).cell 1,λe=>((ax w t [b,c,d]).ext e.ext).cell 2⟩
theorem en(w:World)(b c d f:Value)(t:TypeId):∃(a:World) (g:Later a),w.alloc (.cells #[b,c,d,f] t)=g.w/\Ext w a/\a.heap.size=w.heap.size+1/\(∀e:Later a,e.w.cell? ⟨w.heap.size,0,none⟩=some b)/\(∀e:Later a,e.w.cell? ⟨w.heap.size,1,none⟩=some c)/\(∀e:Later a,e.w.cell? ⟨w.heap.size,2,none⟩=some d)/\(∀e:Later a,e.w.cell? ⟨w.heap.size,3,none⟩=some f):=
 ⟨w.alloc (.cells #[b,c,d,f] t),⟨_,af _⟩,rfl,aE _ _,zS,λe=>((ax w t [b,c,d,f]).ext e.ext).cell 0,λe=>((ax w t [b,c,d,f]).ext e.ext).cell 1,λe=>((ax w t [b,c,d,f]).ext e.ext).cell 2,λe=>((ax w t [b,c,d,f]).ext e.ext).cell 3⟩
theorem nx(w:World)(b c d f g:Value)(t:TypeId):∃(a:World) (h:Later a),w.alloc (.cells #[b,c,d,f,g] t)=h.w/\Ext w a/\a.heap.size=w.heap.size+1/\(∀e:Later a,e.w.cell? ⟨w.heap.size,0,none⟩=some b)/\(∀e:Later a,e.w.cell? ⟨w.heap.size,1,none⟩=some c)/\(∀e:Later a,e.w.cell? ⟨w.heap.size,2,none⟩=some d)/\(∀e:Later a,e.w.cell? ⟨w.heap.size,3,none⟩=some f)/\(∀e:Later a,e.w.cell? ⟨w.heap.size,4,none⟩=some g):=
 ⟨w.alloc (.cells #[b,c,d,f,g] t),⟨_,af _⟩,rfl,aE _ _,zS,λe=>((ax w t [b,c,d,f,g]).ext e.ext).cell 0,λe=>((ax w t [b,c,d,f,g]).ext e.ext).cell 1,λe=>((ax w t [b,c,d,f,g]).ext e.ext).cell 2,λe=>((ax w t [b,c,d,f,g]).ext e.ext).cell 3,λe=>((ax w t [b,c,d,f,g]).ext e.ext).cell 4⟩
theorem cA(w:World)(b c d f g h:Value)(t:TypeId):∃(a:World) (i:Later a),w.alloc (.cells #[b,c,d,f,g,h] t)=i.w/\Ext w a/\a.heap.size=w.heap.size+1/\(∀e:Later a,e.w.cell? ⟨w.heap.size,0,none⟩=some b)/\(∀e:Later a,e.w.cell? ⟨w.heap.size,1,none⟩=some c)/\(∀e:Later a,e.w.cell? ⟨w.heap.size,2,none⟩=some d)/\(∀e:Later a,e.w.cell? ⟨w.heap.size,3,none⟩=some f)/\(∀e:Later a,e.w.cell? ⟨w.heap.size,4,none⟩=some g)/\(∀e:Later a,e.w.cell? ⟨w.heap.size,5,none⟩=some h):=
 ⟨w.alloc (.cells #[b,c,d,f,g,h] t),⟨_,af _⟩,rfl,aE _ _,zS,λe=>((ax w t [b,c,d,f,g,h]).ext e.ext).cell 0,λe=>((ax w t [b,c,d,f,g,h]).ext e.ext).cell 1,λe=>((ax w t [b,c,d,f,g,h]).ext e.ext).cell 2,λe=>((ax w t [b,c,d,f,g,h]).ext e.ext).cell 3,λe=>((ax w t [b,c,d,f,g,h]).ext e.ext).cell 4,λe=>((ax w t [b,c,d,f,g,h]).ext e.ext).cell 5⟩
theorem kl(w:World)(b c d f g h i:Value)(t:TypeId):∃(a:World) (j:Later a),w.alloc (.cells #[b,c,d,f,g,h,i] t)=j.w/\Ext w a/\a.heap.size=w.heap.size+1/\(∀e:Later a,e.w.cell? ⟨w.heap.size,0,none⟩=some b)/\(∀e:Later a,e.w.cell? ⟨w.heap.size,1,none⟩=some c)/\(∀e:Later a,e.w.cell? ⟨w.heap.size,2,none⟩=some d)/\(∀e:Later a,e.w.cell? ⟨w.heap.size,3,none⟩=some f)/\(∀e:Later a,e.w.cell? ⟨w.heap.size,4,none⟩=some g)/\(∀e:Later a,e.w.cell? ⟨w.heap.size,5,none⟩=some h)/\(∀e:Later a,e.w.cell? ⟨w.heap.size,6,none⟩=some i):=
 ⟨w.alloc (.cells #[b,c,d,f,g,h,i] t),⟨_,af _⟩,rfl,aE _ _,zS,λe=>((ax w t [b,c,d,f,g,h,i]).ext e.ext).cell 0,λe=>((ax w t [b,c,d,f,g,h,i]).ext e.ext).cell 1,λe=>((ax w t [b,c,d,f,g,h,i]).ext e.ext).cell 2,λe=>((ax w t [b,c,d,f,g,h,i]).ext e.ext).cell 3,λe=>((ax w t [b,c,d,f,g,h,i]).ext e.ext).cell 4,λe=>((ax w t [b,c,d,f,g,h,i]).ext e.ext).cell 5,λe=>((ax w t [b,c,d,f,g,h,i]).ext e.ext).cell 6⟩
theorem ny(w:World)(b c d f g h i j:Value)(t:TypeId):∃(a:World) (k:Later a),w.alloc (.cells #[b,c,d,f,g,h,i,j] t)=k.w/\Ext w a/\a.heap.size=w.heap.size+1/\(∀e:Later a,e.w.cell? ⟨w.heap.size,0,none⟩=some b)/\(∀e:Later a,e.w.cell? ⟨w.heap.size,1,none⟩=some c)/\(∀e:Later a,e.w.cell? ⟨w.heap.size,2,none⟩=some d)/\(∀e:Later a,e.w.cell? ⟨w.heap.size,3,none⟩=some f)/\(∀e:Later a,e.w.cell? ⟨w.heap.size,4,none⟩=some g)/\(∀e:Later a,e.w.cell? ⟨w.heap.size,5,none⟩=some h)/\(∀e:Later a,e.w.cell? ⟨w.heap.size,6,none⟩=some i)/\(∀e:Later a,e.w.cell? ⟨w.heap.size,7,none⟩=some j):=
 ⟨w.alloc (.cells #[b,c,d,f,g,h,i,j] t),⟨_,af _⟩,rfl,aE _ _,zS,λe=>((ax w t [b,c,d,f,g,h,i,j]).ext e.ext).cell 0,λe=>((ax w t [b,c,d,f,g,h,i,j]).ext e.ext).cell 1,λe=>((ax w t [b,c,d,f,g,h,i,j]).ext e.ext).cell 2,λe=>((ax w t [b,c,d,f,g,h,i,j]).ext e.ext).cell 3,λe=>((ax w t [b,c,d,f,g,h,i,j]).ext e.ext).cell 4,λe=>((ax w t [b,c,d,f,g,h,i,j]).ext e.ext).cell 5,λe=>((ax w t [b,c,d,f,g,h,i,j]).ext e.ext).cell 6,λe=>((ax w t [b,c,d,f,g,h,i,j]).ext e.ext).cell 7⟩
theorem jb(w:World)(b c d f g h i j k:Value)(t:TypeId):∃(a:World) (m:Later a),w.alloc (.cells #[b,c,d,f,g,h,i,j,k] t)=m.w/\Ext w a/\a.heap.size=w.heap.size+1/\(∀e:Later a,e.w.cell? ⟨w.heap.size,0,none⟩=some b)/\(∀e:Later a,e.w.cell? ⟨w.heap.size,1,none⟩=some c)/\(∀e:Later a,e.w.cell? ⟨w.heap.size,2,none⟩=some d)/\(∀e:Later a,e.w.cell? ⟨w.heap.size,3,none⟩=some f)/\(∀e:Later a,e.w.cell? ⟨w.heap.size,4,none⟩=some g)/\(∀e:Later a,e.w.cell? ⟨w.heap.size,5,none⟩=some h)/\(∀e:Later a,e.w.cell? ⟨w.heap.size,6,none⟩=some i)/\(∀e:Later a,e.w.cell? ⟨w.heap.size,7,none⟩=some j)/\(∀e:Later a,e.w.cell? ⟨w.heap.size,8,none⟩=some k):=
 ⟨w.alloc (.cells #[b,c,d,f,g,h,i,j,k] t),⟨_,af _⟩,rfl,aE _ _,zS,λe=>((ax w t [b,c,d,f,g,h,i,j,k]).ext e.ext).cell 0,λe=>((ax w t [b,c,d,f,g,h,i,j,k]).ext e.ext).cell 1,λe=>((ax w t [b,c,d,f,g,h,i,j,k]).ext e.ext).cell 2,λe=>((ax w t [b,c,d,f,g,h,i,j,k]).ext e.ext).cell 3,λe=>((ax w t [b,c,d,f,g,h,i,j,k]).ext e.ext).cell 4,λe=>((ax w t [b,c,d,f,g,h,i,j,k]).ext e.ext).cell 5,λe=>((ax w t [b,c,d,f,g,h,i,j,k]).ext e.ext).cell 6,λe=>((ax w t [b,c,d,f,g,h,i,j,k]).ext e.ext).cell 7,λe=>((ax w t [b,c,d,f,g,h,i,j,k]).ext e.ext).cell 8⟩
def Later.under{W a:World}(e:Later a)(h:Ext W a):Later W:=⟨e.w,h.trans e.ext⟩
def ECalls(P:Program)(f:FuncId)(args:Array Value)(W:World)(v:Value):Prop:=∀w,Ext W w->Calls P f args w λx a=>x=.returned v/\Ext w a
theorem ECalls.still{P:Program}{f:FuncId}{args:Array Value}{W:World}{v:Value}(h:∀w,Ext W w->Calls P f args w λx d=>x=.returned v/\d=w):ECalls P f args W v:=
 λw c=>(h w c).mono λx e ⟨a,b⟩=>⟨a,by rw[b];exact af _⟩
theorem ECalls.later{P:Program}{f:FuncId}{args:Array Value}{W a:World}{v:Value}(h:ECalls P f args W v)(c:Ext W a):ECalls P f args a v:=
 λw b=>h w (c.trans b)
theorem ECalls.at_{P:Program}{f:FuncId}{args:Array Value}{W:World}{v:Value}(h:ECalls P f args W v)(e:Later W):Calls P f args e.w λx b=>x=.returned v/\∃a:Later W,b=a.w:=
 aP (h e.w e.ext)
theorem am{W a:World}{p:Addr}{v:Value}(h:∀e:Later W,e.w.cell? p=some v)(b:Ext W a):∀e:Later a,e.w.cell? p=some v:=λe=>h (e.under b)
theorem cellAt{W:World}{p:Addr}{v:Value}(h:W.cell? p=some v):∀e:Later W,e.w.cell? p=some v:=λe=>e.ext.at_ h
theorem hT(p a:Prop):yes (p/\a)=(yes p && yes a):=by rw[Bool.eq_iff_iff,yes_iff,Bool.and_eq_true,yes_iff,yes_iff]
theorem it(s:ByteArray):yes (bn s)=dT s:=by rw[Bool.eq_iff_iff,yes_iff,nameOk_iff]
def VB(b:Bnd):Prop:=b.name.size<4294967281/\VX b.x
def VP(b:Prt):Prop:=b.name.size<4294967281/\VX b.w
inductive VI:Itm->Prop
 |mk (x:Itm) (hn:x.name.size<4294967281) (ho:x.of.size<4294967281) (hx:∀y,y∈x.x->VX y) (hs:∀y,y∈x.s->VS y) (hl:∀y,y∈x.l->VI y) (he:∀y,y∈x.els->VI y) (hp:∀y,y∈x.params->VB y) (hb:∀y,y∈x.binds->VB y):VI x
theorem VI_iff{x:Itm}:VI x↔x.name.size<4294967281/\x.of.size<4294967281/\(∀a,a∈x.x->VX a)/\(∀a,a∈x.s->VS a)/\(∀a,a∈x.l->VI a)/\(∀a,a∈x.els->VI a)/\(∀a,a∈x.params->VB a)/\(∀a,a∈x.binds->VB a):=
 ⟨λj=>by cases j with|mk _ e f i h d c g b=>exact⟨e,f,i,h,d,c,g,b⟩,λ⟨e,f,i,h,d,c,g,b⟩=>.mk x e f i h d c g b⟩
def VM(m:Mdl):Prop:=m.name.size<4294967281/\(∀a,a∈m.params->VB a)/\(∀a,a∈m.ports->VP a)/\(∀a,a∈m.items->VI a)
section
variable {H : Type} {enc : TypeId × Value → H} {w : World} {spare : Nat → Bool} {held : Bool}
theorem iR(d:DataW H):1<=Rows.uptoBulk d:=by
 cases d with
 |lit l=>cases l<;>simp[Rows.uptoBulk]
 |nil=>simp[Rows.uptoBulk]
 |ptr d=>simp[Rows.uptoBulk]
 |slice elems spare=>simp[Rows.uptoBulk]
 |agg parts=>simp[Rows.uptoBulk]
 |iface t d=>simp[Rows.uptoBulk]
 |map entries=>simp[Rows.uptoBulk]
 |held h=>simp[Rows.uptoBulk]
theorem xe{d:DataW H}{l:List (DataW H)}(h:d∈l):Rows.uptoBulk d<=Rows.uptoBulkAll l:=by
 induction l with
 |nil=>cases h
 |cons x r ih=>
  simp only[Rows.uptoBulkAll];rcases List.mem_cons.1 h with e|e
  ·subst e;omega
  ·have:=ih e;omega
theorem AF(l a:List (DataW H)):Rows.uptoBulkAll (l++a)=Rows.uptoBulkAll l+Rows.uptoBulkAll a:=by
 induction l with
 |nil=>simp[Rows.uptoBulkAll]
 |cons x l ih=>simp only[List.cons_append,Rows.uptoBulkAll,ih];omega
theorem AL{α:Type}(Q:Nat->α->Prop)(h:α->Nat)(f:Nat->DataW H):∀len,(∀c,c<len->∃d,Q c d/\h d<=Rows.uptoBulk (f c))->
 ∃l:List α,l.length=len/\(∀a (b:a<l.length),Q a l[a])/\aa h l<=Rows.uptoBulkAll ((List.range len).map f):=by
 intro len;induction len with
 |zero=>intro _;exact⟨[],rfl,λa b=>absurd b zS,by simp[aa]⟩
 |succ len ih=>
  intro b;obtain⟨l,g,i,m⟩:=ih (λc hi=>b c zO);obtain⟨d,k,n⟩:=b len zO;refine⟨l++[d],by simp[g],λa j=>?_,?_⟩
  ·by_cases e:a<l.length
   ·rw[List.getElem_append_left e];exact i a e
   ·have:a=len:=by simp at j;omega
    subst this;rw[List.getElem_append_right zO];simpa [g] using k
  ·rw[iA,List.range_succ,List.map_append,AF];simp only[aa,List.map_cons,List.map_nil,Rows.uptoBulkAll];omega
theorem xf{x:Addr}{v:Value}(h:w.cell? x=some v):x.spot=none:=by
 cases hsp:x.spot with
 |none=>rfl
 |some s=>
  simp only[World.cell?] at h;split at h
  ·simp[hsp] at h
  ·cases h
theorem sM{a:Addr}(h:a.spot=none)(k:Nat):a.add k=⟨a.block,a.off+k,none⟩:=by
 unfold Addr.add;split
 ·rename_i b
  subst b;cases a
  simp_all
 ·rfl
theorem dY{α:Type}{R:α->List Value->Prop}{V:α->Prop}{k:α->Nat}{t e:TypeId}{n:Nat}(ht:Tryz.prog.underlying t=some (.slice e))(z:Tryz.prog.cellsOf e=n)(a4:0<n){K:Nat}{i:List Value}{d:DataW H}{ps:List MemPlace}
 (M:∀a i,R a i->∀v,v∈i->v.oneCell'=true) (h:DataW.trod enc Tryz.prog w 0 spare held K t i=some (d,ps))
 (U:∀L g m a8,Rows.uptoBulk m<Rows.uptoBulk d->DataW.trod enc Tryz.prog w 0 spare held L e g=some (m,a8)->∃a,R a g/\V a/\k a<=Rows.uptoBulk m):
 ∃(l:List α) (v:Value),i=[v]/\Sl R w w.heap.size n l v/\(∀a,a∈l->V a)/\aa k l+1<=Rows.uptoBulk d:=by
 rcases Go.Deep.open_slice ht h with⟨rfl,D⟩|⟨b,len,I,E,J,f,G,rfl,-,a1,-,a3,D,y⟩
 ·exact⟨[],_,rfl,cm,(λa r=>by cases r),by simp only[aa];exact iR d⟩
 ·have T:d=.slice ((List.range len).map f) ((List.range (E - len)).map λj=>f (len+j)):=(Prod.mk.inj D).1;have b4:len<=E:=by rw[a3];split<;>omega
  have b2:Rows.uptoBulkAll ((List.range len).map f)+1<=Rows.uptoBulk d:=by rw[T];simp only[Rows.uptoBulk];omega
  have X:∀c,c<len->∃a,(ElemAt w w.heap.size (some b) n c (R a)/\V a)/\k a<=Rows.uptoBulk (f c):=λc hi=>by
   obtain⟨g,A,a6⟩:=y c zO;rw[z] at A;have b0:Rows.uptoBulk (f c)<=Rows.uptoBulkAll ((List.range len).map f):=xe (y8f.2 ⟨c,List.mem_range.2 hi,rfl⟩);obtain⟨a,x,N,a7⟩:=U J g (f c) (G c) zO a6;refine⟨a,⟨?_,N⟩,a7⟩;obtain⟨b1,a2,Q⟩:=World.cells?_some A;obtain⟨a9,p,-⟩:=y 0 zO;rw[z,Nat.zero_mul] at p;obtain⟨-,b3,S⟩:=World.cells?_some p;have a5:b.spot=none:=by
    have u:=S 0 zO;rw[List.getElem?_eq_getElem zO] at u;have:=xf u;simpa [Addr.add] using this
   have O:b.block<w.heap.size:=by
    have:=World.cells?_block p a4;simpa [Addr.add] using this
   have ha:b=⟨b.block,b.off,none⟩:=by cases b;simp_all
   refine⟨b.block,b.off,g,by rw[<-ha],O,a2,λj v B=>?_,M a g x,x⟩;have Y:j<n:=by have:=(y7t.1 B).1;omega
   have:=Q j Y;rw[Go.Deep.add_add,sM a5,B] at this;rw[Nat.add_assoc];exact this
  obtain⟨l,Z,C,b5⟩:=AL (λc a=>ElemAt w w.heap.size (some b) n c (R a)/\V a) k f len X;subst Z;exact⟨l,_,rfl,⟨some b,I,rfl,a1,λs q=>(C s q).1⟩,λa r=>by obtain⟨s,q,rfl⟩:=List.getElem_of_mem r;exact(C s q).2,zO⟩
end
theorem iH{w:World}{B:Nat}(d:X)(a:List Value)(h:RX w B d a):∀v,v∈a->v.oneCell'=true:=by
 obtain⟨v,rfl,c⟩:=RX_iff.1 h;intro e b;simp only[List.mem_cons,List.not_mem_nil,or_false] at b;rcases b with rfl|rfl|rfl|rfl|rfl|rfl;all_goals first|rfl|exact c.oneCell
theorem oneS{w:World}{B:Nat}(e:S)(a:List Value)(h:RS w B e a):∀v,v∈a->v.oneCell'=true:=by
 obtain⟨g,i,rfl,c,d⟩:=RS_iff.1 h;intro f b;simp only[List.mem_cons,List.not_mem_nil,or_false] at b;rcases b with rfl|rfl|rfl|rfl
 ·rfl
 ·rfl
 ·exact c.oneCell
 ·exact d.oneCell
theorem kW{w:World}{B:Nat}(e:Bnd)(b:List Value)(h:RB w B e b):∀v,v∈b->v.oneCell'=true:=by
 obtain⟨f,rfl,c⟩:=h;intro d a;rcases List.mem_cons.1 a with rfl|a
 ·rfl
 ·exact iH _ _ c d a
theorem oneP{w:World}{B:Nat}(e:Prt)(b:List Value)(h:RP w B e b):∀v,v∈b->v.oneCell'=true:=by
 obtain⟨f,rfl,c⟩:=h;intro d a;rcases List.mem_cons.1 a with rfl|a
 ·rfl
 ·rcases List.mem_cons.1 a with rfl|a
  ·rfl
  ·exact iH _ _ c d a
theorem kX{w:World}{B:Nat}(j:Itm)(a:List Value)(h:RI w B j a):∀v,v∈a->v.oneCell'=true:=by
 obtain⟨m,n,p,q,r,s,rfl,c,d,e,f,g,i⟩:=RI_iff.1 h;intro k b;simp only[List.mem_cons,List.not_mem_nil,or_false] at b;rcases b with rfl|rfl|rfl|rfl|rfl|rfl|rfl|rfl|rfl
 ·rfl
 ·rfl
 ·rfl
 ·exact c.oneCell
 ·exact d.oneCell
 ·exact e.oneCell
 ·exact f.oneCell
 ·exact g.oneCell
 ·exact i.oneCell
theorem oneM{w:World}{B:Nat}(f:Mdl)(a:List Value)(h:RM w B f a):∀v,v∈a->v.oneCell'=true:=by
 obtain⟨i,j,k,rfl,c,d,e⟩:=h;intro g b;simp only[List.mem_cons,List.not_mem_nil,or_false] at b;rcases b with rfl|rfl|rfl|rfl
 ·rfl
 ·exact c.oneCell
 ·exact d.oneCell
 ·exact e.oneCell
theorem nB{α:Type}{l:List α}(h:l.length=1):∃a,l=[a]:=by
 match l,h with
 |[a],_=>exact⟨_,rfl⟩
theorem lg{α:Type}{l:List α}(h:l.length=2):∃a b,l=[a,b]:=by
 match l,h with
 |[a,b],_=>exact⟨_,_,rfl⟩
theorem sq{α:Type}{l:List α}(h:l.length=3):∃a b c,l=[a,b,c]:=by
 match l,h with
 |[a,b,c],_=>exact⟨_,_,_,rfl⟩
theorem km{α:Type}{l:List α}(h:l.length=4):∃a b c d,l=[a,b,c,d]:=by
 match l,h with
 |[a,b,c,d],_=>exact⟨_,_,_,_,rfl⟩
theorem nD{α:Type}{l:List α}(h:l.length=6):∃a b c d e f,l=[a,b,c,d,e,f]:=by
 match l,h with
 |[a,b,c,d,e,f],_=>exact⟨_,_,_,_,_,_,rfl⟩
theorem lh{α:Type}{l:List α}(h:l.length=7):∃a b c d e f g,l=[a,b,c,d,e,f,g]:=by
 match l,h with
 |[a,b,c,d,e,f,g],_=>exact⟨_,_,_,_,_,_,_,rfl⟩
theorem sr{α:Type}{l:List α}(h:l.length=8):∃a b c d e f g i,l=[a,b,c,d,e,f,g,i]:=by
 match l,h with
 |[a,b,c,d,e,f,g,i],_=>exact⟨_,_,_,_,_,_,_,_,rfl⟩
theorem nF{α:Type}{l:List α}(h:l.length=9):∃a b c d e f g i j,l=[a,b,c,d,e,f,g,i,j]:=by
 match l,h with
 |[a,b,c,d,e,f,g,i,j],_=>exact⟨_,_,_,_,_,_,_,_,_,rfl⟩
theorem ia:Tryz.prog.cellsOf 3=1:=by kernel_rfl
theorem gD:Tryz.prog.cellsOf 9=1:=by kernel_rfl
theorem mK:Tryz.prog.cellsOf 4=1:=by kernel_rfl
theorem sk:Tryz.prog.cellsOf 38=1:=by kernel_rfl
theorem kT:Tryz.prog.cellsOf 34=1:=by kernel_rfl
theorem cTsS:Tryz.prog.cellsOf 35=1:=by kernel_rfl
theorem cTsB:Tryz.prog.cellsOf 26=1:=by kernel_rfl
theorem cTsP:Tryz.prog.cellsOf 27=1:=by kernel_rfl
theorem cTsI:Tryz.prog.cellsOf 28=1:=by kernel_rfl
theorem cTsM:Tryz.prog.cellsOf 22=1:=by kernel_rfl
theorem cTX:Tryz.prog.cellsOf 40=6:=by kernel_rfl
theorem cTS:Tryz.prog.cellsOf 177=4:=by kernel_rfl
theorem cTB:Tryz.prog.cellsOf 45=7:=by kernel_rfl
theorem cTP:Tryz.prog.cellsOf 42=8:=by kernel_rfl
theorem cTI:Tryz.prog.cellsOf 37=9:=by kernel_rfl
theorem cTM:Tryz.prog.cellsOf 30=4:=by kernel_rfl
theorem cTF:Tryz.prog.cellsOf 24=1:=by kernel_rfl
section
variable {H : Type} {enc : TypeId × Value → H} {w : World} {spare : Nat → Bool} {held : Bool}
theorem fN{d:Nat}{a:Value}{c:DataW H×List MemPlace}(h:DataW.trod enc Tryz.prog w 0 spare held d 9 [a]=some c):∃s:ByteArray,a=.string s/\s.size+1<=Rows.uptoBulk c.1:=by
 obtain⟨s,b,e,f⟩:=DataW.trod_string underlying9 h;simp only[List.cons.injEq,and_true] at b;exact⟨s,b,by rw[e];simp[Rows.uptoBulk]⟩
theorem hY{d:Nat}{a:Value}{c:DataW H×List MemPlace}(h:DataW.trod enc Tryz.prog w 0 spare held d 3 [a]=some c):∃n,a=.int .i64 n/\1<=Rows.uptoBulk c.1:=by
 obtain⟨n,b,e,f⟩:=DataW.trod_int underlying3 h;simp only[List.cons.injEq,and_true] at b;exact⟨n,b,iR _⟩
theorem yG{e:Nat}{a:Value}{c:DataW H×List MemPlace}(h:DataW.trod enc Tryz.prog w 0 spare held e 4 [a]=some c):∃d,a=.bool d/\1<=Rows.uptoBulk c.1:=by
 obtain⟨n,b,f⟩:=DataW.trod_bool underlying4 h;simp only[List.cons.injEq,and_true] at b;exact⟨n,b,iR _⟩
theorem wL{d:Nat}{a:Value}{c:DataW H×List MemPlace}(h:DataW.trod enc Tryz.prog w 0 spare held d 38 [a]=some c):∃n,a=.int .u64 n/\(0<=n/\n<18446744073709551616)/\1<=Rows.uptoBulk c.1:=by
 obtain⟨n,b,g,e⟩:=DataW.trod_int underlying38 h;simp only[List.cons.injEq,and_true] at b;have f:=(Lit.wf_int_iff _ _).1 e;exact⟨n,b,(by simp[IntKind.min,IntKind.max,IntKind.bits,IntKind.signed] at f;omega),iR _⟩
theorem ko:∀b g (e:List Value) (d:DataW H) (ps:List MemPlace),Rows.uptoBulk d<=b->b<=1048576->DataW.trod enc Tryz.prog w 0 spare held g 40 e=some (d,ps)->
 ∃x,RX w w.heap.size x e/\VX x/\al x<=Rows.uptoBulk d:=by
 intro b;induction b using Nat.strongRecOn with
 |_ b ih=>
  intro g e d ps a7 a5 D;obtain⟨b0,n,-,M,I,J,a⟩:=DataW.trod_struct underlying40 D;obtain⟨Y,Z,a1,a2,a3,a4,rfl⟩:=nD (I.trans cTX);obtain⟨t,u,y,z,A,c,rfl⟩:=nD J;have h:=a 0 _ rfl;have i:=a 1 _ rfl;have j:=a 2 _ rfl;have k:=a 3 _ rfl;have m:=a 4 _ rfl;have p:=a 5 _ rfl;clear a;simp[ia,gD,sk,kT] at h i j k m p;obtain⟨op,rfl,S⟩:=hY h;obtain⟨s,rfl,T⟩:=fN i;obtain⟨N,rfl,U⟩:=hY j;obtain⟨O,rfl,V⟩:=hY k;obtain⟨R,rfl,r,X⟩:=wL m;have G:d=.agg [t.1,u.1,y.1,z.1,A.1,c.1]:=(Prod.mk.inj M).1;have a6:Rows.uptoBulk d=Rows.uptoBulk t.1+(Rows.uptoBulk u.1+(Rows.uptoBulk y.1+(Rows.uptoBulk z.1+(Rows.uptoBulk A.1+(Rows.uptoBulk c.1+0)))))+1:=by rw[G];rfl
  obtain⟨l,v,q,K,E,a9⟩:=dY underlying34 cTX zO iH (d:=c.1) (ps:=c.2) p (λC B f Q a8 L=>ih (Rows.uptoBulk f) zO C B f Q (ac _) zO L);simp only[List.cons.injEq,and_true] at q;subst q;refine⟨.mk op s N O R l,RX_iff.2 ⟨_,rfl,K⟩,VX_iff.2 ⟨r.1,r.2,?_,E⟩,?_⟩
  ·show s.size<_;omega
  ·rw[dJ];show 1+aa al l<=_;omega
theorem sC:∀a p (h:List Value) (d:DataW H) (ps:List MemPlace),Rows.uptoBulk d<=a->a<=1048576->DataW.trod enc Tryz.prog w 0 spare held p 177 h=some (d,ps)->
 ∃x,RS w w.heap.size x h/\VS x/\ao x<=Rows.uptoBulk d:=by
 intro a;induction a using Nat.strongRecOn with
 |_ a ih=>
  intro p h d ps X U B;obtain⟨a1,n,-,M,G,I,c⟩:=DataW.trod_struct underlying177 B;obtain⟨Q,R,S,T,rfl⟩:=km (G.trans cTS);obtain⟨z,A,f,g,rfl⟩:=km I;have q:=c 0 _ rfl;have r:=c 1 _ rfl;have s:=c 2 _ rfl;have t:=c 3 _ rfl;clear c;simp[ia,gD,kT,cTsS] at q r s t;obtain⟨op,rfl,N⟩:=hY q;obtain⟨y,rfl,O⟩:=fN r;have E:d=.agg [z.1,A.1,f.1,g.1]:=(Prod.mk.inj M).1;have V:Rows.uptoBulk d=Rows.uptoBulk z.1+(Rows.uptoBulk A.1+(Rows.uptoBulk f.1+(Rows.uptoBulk g.1+0)))+1:=by rw[E];rfl
  obtain⟨u,v,e,L,D,Z⟩:=dY underlying34 cTX zO iH (d:=f.1) (ps:=f.2) s (λj i b m J k=>ko (Rows.uptoBulk b) j i b m (ac _) zO k);simp only[List.cons.injEq,and_true] at e;subst e;obtain⟨l,v,e,K,C,Y⟩:=dY underlying35 cTS zO oneS (d:=g.1) (ps:=g.2) t (λj i b m J k=>ih (Rows.uptoBulk b) zO j i b m (ac _) zO k);simp only[List.cons.injEq,and_true] at e;subst e;refine⟨.mk op y u l,RS_iff.2 ⟨_,_,rfl,L,K⟩,VS_iff.2 ⟨?_,D,C⟩,?_⟩
  ·show y.size<_;omega
  ·rw[bW];show 1+aa al u+aa ao l<=_;omega
theorem ln(j:Nat)(c:List Value)(d:DataW H)(ps:List MemPlace)(D:Rows.uptoBulk d<=1048576)(h:DataW.trod enc Tryz.prog w 0 spare held j 45 c=some (d,ps)):
 ∃x,RB w w.heap.size x c/\VB x/\au x<=Rows.uptoBulk d:=by
 obtain⟨I,n,-,s,m,p,b⟩:=DataW.trod_struct underlying45 h;obtain⟨u,v,y,z,A,B,C,rfl⟩:=lh (m.trans cTB);obtain⟨i,a,rfl⟩:=lg p;have e:=b 0 _ rfl;have f:=b 1 _ rfl;clear b;simp[gD,cTX] at e f;obtain⟨g,rfl,t⟩:=fN e;have k:d=.agg [i.1,a.1]:=(Prod.mk.inj s).1;have E:Rows.uptoBulk d=Rows.uptoBulk i.1+(Rows.uptoBulk a.1+0)+1:=by rw[k];rfl
 obtain⟨x,q,r,G⟩:=ko _ n _ a.1 a.2 (ac _) zO f;refine⟨⟨g,x⟩,⟨_,rfl,q⟩,⟨?_,r⟩,?_⟩
 ·show g.size<_;omega
 ·show 1+al x<=_;omega
theorem sB(m:Nat)(c:List Value)(d:DataW H)(ps:List MemPlace)(J:Rows.uptoBulk d<=1048576)(h:DataW.trod enc Tryz.prog w 0 spare held m 42 c=some (d,ps)):
 ∃x,RP w w.heap.size x c/\VP x/\aJ x<=Rows.uptoBulk d:=by
 obtain⟨M,n,-,u,q,r,a⟩:=DataW.trod_struct underlying42 h;obtain⟨z,A,B,C,D,E,G,I,rfl⟩:=sr (q.trans cTP);obtain⟨j,k,b,rfl⟩:=sq r;have e:=a 0 _ rfl;have f:=a 1 _ rfl;have g:=a 2 _ rfl;clear a;simp[gD,mK,cTX] at e f g;obtain⟨i,rfl,v⟩:=fN e;obtain⟨o,rfl,y⟩:=yG f;have p:d=.agg [j.1,k.1,b.1]:=(Prod.mk.inj u).1;have K:Rows.uptoBulk d=Rows.uptoBulk j.1+(Rows.uptoBulk k.1+(Rows.uptoBulk b.1+0))+1:=by rw[p];rfl
 obtain⟨x,s,t,L⟩:=ko _ n _ b.1 b.2 (ac _) zO g;refine⟨⟨i,o,x⟩,⟨_,rfl,s⟩,⟨?_,t⟩,?_⟩
 ·show i.size<_;omega
 ·show 1+al x<=_;omega
theorem sw:∀i u (t:List Value) (d:DataW H) (ps:List MemPlace),Rows.uptoBulk d<=i->i<=1048576->DataW.trod enc Tryz.prog w 0 spare held u 37 t=some (d,ps)->
 ∃x,RI w w.heap.size x t/\VI x/\aj x<=Rows.uptoBulk d:=by
 intro i;induction i using Nat.strongRecOn with
 |_ i ih=>
  intro u t d ps c7 c5 a2;obtain⟨c8,n,-,a6,a4,a5,h⟩:=DataW.trod_struct underlying37 a2;obtain⟨b6,b7,b8,b9,c0,c1,c2,c3,c4,rfl⟩:=nF (a4.trans cTI);obtain⟨R,S,T,k,m,p,q,r,s,rfl⟩:=nF a5;have y:=h 0 _ rfl;have z:=h 1 _ rfl;have A:=h 2 _ rfl;have B:=h 3 _ rfl;have C:=h 4 _ rfl;have D:=h 5 _ rfl;have E:=h 6 _ rfl;have G:=h 7 _ rfl;have I:=h 8 _ rfl;clear h;simp[ia,gD,kT,cTsS,cTsI,cTsB] at y z A B C D E G I;obtain⟨op,rfl,b3⟩:=hY y;obtain⟨Q,rfl,b4⟩:=fN z;obtain⟨of,rfl,b5⟩:=fN A;have a3:d=.agg [R.1,S.1,T.1,k.1,m.1,p.1,q.1,r.1,s.1]:=(Prod.mk.inj a6).1;have c6:Rows.uptoBulk d=Rows.uptoBulk R.1+(Rows.uptoBulk S.1+(Rows.uptoBulk T.1+(Rows.uptoBulk k.1+(Rows.uptoBulk m.1+(Rows.uptoBulk p.1+(Rows.uptoBulk q.1+(Rows.uptoBulk r.1+(Rows.uptoBulk s.1+0))))))))+1:=by rw[a3];rfl
  obtain⟨J,v,a,a7,U,c9⟩:=dY underlying34 cTX zO iH (d:=k.1) (ps:=k.2) B (λe c b g j f=>ko (Rows.uptoBulk b) e c b g (ac _) zO f);simp only[List.cons.injEq,and_true] at a;subst a;obtain⟨K,v,a,a8,V,d0⟩:=dY underlying35 cTS zO oneS (d:=m.1) (ps:=m.2) C (λe c b g j f=>sC (Rows.uptoBulk b) e c b g (ac _) zO f);simp only[List.cons.injEq,and_true] at a;subst a;obtain⟨L,v,a,a9,X,d1⟩:=dY underlying28 cTI zO kX (d:=p.1) (ps:=p.2) D (λe c b g j f=>ih (Rows.uptoBulk b) zO e c b g (ac _) zO f);simp only[List.cons.injEq,and_true] at a;subst a;obtain⟨M,v,a,b0,Y,d2⟩:=dY underlying28 cTI zO kX (d:=q.1) (ps:=q.2) E (λe c b g j f=>ih (Rows.uptoBulk b) zO e c b g (ac _) zO f);simp only[List.cons.injEq,and_true] at a;subst a;obtain⟨N,v,a,b1,Z,d3⟩:=dY underlying26 cTB zO kW (d:=r.1) (ps:=r.2) G (λe c b g j f=>ln e c b g zO f);simp only[List.cons.injEq,and_true] at a;subst a;obtain⟨O,v,a,b2,a1,d4⟩:=dY underlying26 cTB zO kW (d:=s.1) (ps:=s.2) I (λe c b g j f=>ln e c b g zO f);simp only[List.cons.injEq,and_true] at a;subst a;refine⟨.mk op Q of J K L M N O,RI_iff.2 ⟨_,_,_,_,_,_,rfl,a7,a8,a9,b0,b1,b2⟩,VI_iff.2 ⟨?_,?_,U,V,X,Y,Z,a1⟩,?_⟩
  ·show Q.size<_;omega
  ·show of.size<_;omega
  ·rw[bq];show 1+aa al J+aa ao K+aa aj L+aa aj M+aa au N+aa au O<=_;omega
theorem sx(I:Nat)(q:List Value)(d:DataW H)(ps:List MemPlace)(X:Rows.uptoBulk d<=1048576)(h:DataW.trod enc Tryz.prog w 0 spare held I 30 q=some (d,ps)):
 ∃x,RM w w.heap.size x q/\VM x/\ar x<=Rows.uptoBulk d:=by
 obtain⟨Z,n,-,M,K,L,f⟩:=DataW.trod_struct underlying30 h;obtain⟨S,T,U,V,rfl⟩:=km (K.trans cTM);obtain⟨C,j,k,m,rfl⟩:=km L;have r:=f 0 _ rfl;have s:=f 1 _ rfl;have t:=f 2 _ rfl;have u:=f 3 _ rfl;clear f;simp[gD,cTsB,cTsP,cTsI] at r s t u;obtain⟨p,rfl,R⟩:=fN r;have J:d=.agg [C.1,j.1,k.1,m.1]:=(Prod.mk.inj M).1;have Y:Rows.uptoBulk d=Rows.uptoBulk C.1+(Rows.uptoBulk j.1+(Rows.uptoBulk k.1+(Rows.uptoBulk m.1+0)))+1:=by rw[J];rfl
 obtain⟨z,v,a,N,D,a1⟩:=dY underlying26 cTB zO kW (d:=j.1) (ps:=j.2) s (λe c b i y g=>ln e c b i zO g);simp only[List.cons.injEq,and_true] at a;subst a;obtain⟨A,v,a,O,E,a2⟩:=dY underlying27 cTP zO oneP (d:=k.1) (ps:=k.2) t (λe c b i y g=>sB e c b i zO g);simp only[List.cons.injEq,and_true] at a;subst a;obtain⟨B,v,a,Q,G,a3⟩:=dY underlying28 cTI zO kX (d:=m.1) (ps:=m.2) u (λe c b i y g=>sw (Rows.uptoBulk b) e c b i (ac _) zO g);simp only[List.cons.injEq,and_true] at a;subst a;refine⟨⟨p,z,A,B⟩,⟨_,_,_,rfl,N,O,Q⟩,⟨?_,D,E,G⟩,?_⟩
 ·show p.size<_;omega
 ·show ar (Mdl.mk p z A B)<=_;simp only[ar];omega
theorem sv(p:Nat)(b:List Value)(d:DataW H)(ps:List MemPlace)(C:Rows.uptoBulk d<=1048576)(h:DataW.trod enc Tryz.prog w 0 spare held p 24 b=some (d,ps)):
 ∃(f:List Mdl) (v:Value),b=[v]/\Sl (RM w w.heap.size) w w.heap.size 4 f v/\(∀i,i∈f->VM i)/\aa ar f<=Rows.uptoBulk d:=by
 obtain⟨G,n,-,x,s,t,e⟩:=DataW.trod_struct underlying24 h;obtain⟨B,rfl⟩:=nB (s.trans cTF);obtain⟨a,rfl⟩:=nB t;have c:=e 0 _ rfl;clear e;simp[cTsM] at c;have r:d=.agg [a.1]:=(Prod.mk.inj x).1;have D:Rows.uptoBulk d=Rows.uptoBulk a.1+0+1:=by rw[r];rfl
 obtain⟨y,v,g,A,j,I⟩:=dY underlying22 cTM zO oneM (d:=a.1) (ps:=a.2) c (λq k m z E u=>sx q k m z zO u);simp only[List.cons.injEq,and_true] at g;subst g;exact⟨y,_,rfl,A,j,zO⟩
end
def jp(l:List Oper)(o:Oper):Bool:=
 o.guard.isNone && (List.range l.length).all (λa=>o.after.any λe=>Region.binds .any e && e.on==a) && o.after.all (λe=>!Region.binds .any e||decide (e.on<l.length)) &&
  (List.range l.length).all (λa=>match l[a]? with
    |some x=>x.after.all (λe=>!Region.binds .any e||decide (e.on<a)) && (match x.guard with|none=>true|some (j,_)=>decide (j<l.length))
    |none=>true)
section
variable {P : Program} {l : List Oper} {o : Oper}
structure TailFacts(l:List Oper)(o:Oper):Prop where
 guard:o.guard=none
 waits:∀i,i<l.length->∃e∈o.after,Region.binds .any e=true/\e.on=i
 last:∀e∈o.after,Region.binds .any e=true->e.on<l.length
 order:∀(i:Nat) (x:Oper),l[i]? =some x->∀e∈x.after,Region.binds .any e=true->e.on<i
 guards:∀(i:Nat) (x:Oper),l[i]? =some x->∀j b,x.guard=some (j,b)->j<l.length
theorem pq(h:jp l o=true):TailFacts l o:=by
 simp only[jp,Bool.and_eq_true,List.all_eq_true,List.mem_range,Array.all_eq_true_iff_forall_mem,Bool.or_eq_true,Bool.not_eq_true',decide_eq_true_eq] at h;obtain⟨⟨⟨g,i⟩,j⟩,f⟩:=h;have lt:∀{b:Nat} {x:Oper},l[b]? =some x->b<l.length:=λhi=>(y7t.1 hi).1
 refine⟨by simpa using g,λb hi=>?_,λe c a=>?_,λb x d e c a=>?_,λb x d n m k=>?_⟩
 ·obtain⟨e,c,a⟩:=Array.any_eq_true'.1 (i b hi);simp only[Bool.and_eq_true,beq_iff_eq] at a;exact⟨e,c,a.1,a.2⟩
 ·rcases j e c with h|h
  ·rw[h] at a;cases a
  ·exact h
 ·have:=f b (lt d);simp only[d,Bool.and_eq_true,Array.all_eq_true_iff_forall_mem,Bool.or_eq_true,Bool.not_eq_true',decide_eq_true_eq] at this;rcases this.1 e c with h|h
  ·rw[h] at a;cases a
  ·exact h
 ·have:=f b (lt d);simp only[d,Bool.and_eq_true,k,decide_eq_true_eq] at this;exact this.2
theorem dL{listed:Array Bool}{j:Nat}(d:Bool)(h:j<listed.size):(listed.push false).getD j d=listed.getD j d:=by
 simp[Array.getElem?_push_lt h,h]
theorem hO{i:Nat}(h:i<l.length):(l++[o]).toArray[i]? =l.toArray[i]? :=by
 simp[List.getElem?_append_left h]
theorem kJ(T:TailFacts l o){listed:Array Bool}(g:listed.size=l.length){i:Nat}(hi:i<l.length):
 i∈Region.ready .any (l++[o]).toArray (listed.push false)↔i∈Region.ready .any l.toArray listed:=by
 rw[mem_ready,mem_ready,dL true zO,hO hi];constructor
 ·rintro⟨d,x,c,f⟩;refine⟨d,x,c,λe b a=>?_⟩;have:=T.order i x (by simpa using c) e b a;rw[<-dL false zO];exact f e b a
 ·rintro⟨d,x,c,f⟩;refine⟨d,x,c,λe b a=>?_⟩;have:=T.order i x (by simpa using c) e b a;rw[dL false zO];exact f e b a
theorem oa(T:TailFacts l o){listed:Array Bool}(i:listed.size=l.length)(h:Region.ready .any l.toArray listed=[]):∀n a,a<n->a<l.length->listed.getD a true=true:=by
 intro n;induction n with
 |zero=>intro a hi;omega
 |succ n ih=>
  intro a f hi;cases hl:listed.getD a true with
  |true=>rfl
  |false=>
   have:a∈Region.ready .any l.toArray listed:=mem_ready.2 ⟨hl,l[a],by simp[List.getElem?_eq_getElem hi],λe c b=>by
    have g:=T.order a l[a] (ea hi) e c b;have:=ih e.on zO zO;have d:e.on<listed.size:=by omega
    simpa [d] using this⟩
   rw[h] at this;cases this
theorem mj(T:TailFacts l o){listed:Array Bool}(i:listed.size=l.length):
 l.length∈Region.ready .any (l++[o]).toArray (listed.push false)↔Region.ready .any l.toArray listed=[]:=by
 constructor
 ·intro a;obtain⟨_,x,m,j⟩:=mem_ready.1 a;have n:x=o:=by simpa using m.symm
  subst n;rw[List.eq_nil_iff_forall_not_mem];intro g hi;obtain⟨h,q,p,_⟩:=mem_ready.1 hi;have d:g<l.length:=by
   have:=(y7n.1 p).1;simpa using this
  obtain⟨e,c,b,k⟩:=T.waits g d;have:=j e c b;rw[k,dL false zO] at this;have f:g<listed.size:=by omega
  simp[f] at h this;rw[h] at this;cases this
 ·intro a;refine mem_ready.2 ⟨?_,o,zS,λe c b=>?_⟩
  ·rw[<-i];simp
  ·have d:=T.last e c b;have:=oa T i a (e.on+1) e.on zO d;rw[dL false zO];have f:e.on<listed.size:=by omega
   simpa [f] using this
theorem ft{ops:Array Oper}{listed:Array Bool}{i:Nat}(h:i∈Region.ready .any ops listed):i<ops.size:=by
 obtain⟨_,b,a,_⟩:=mem_ready.1 h;exact(y7n.1 a).1
def qk(P:Program)(o:Oper)(Q:Exit->Act->World->Prop):Exit->Act->World->Prop
 |.normal,a,w=>o.wp P a w (λa w=>Q .normal a w) Q
 |e,a,w=>Q e a w
theorem Oper.wp_tail{x:Oper}{a:Act}{w:World}{b:Act->World->Prop}{Q:Exit->Act->World->Prop}(h:x.wp P a w b (qk P o Q)):x.wp P a w b Q:=by
 unfold Oper.wp at*;generalize (execOp a.eval x).run P w=r at*;cases r with
 |ok n w'=>
  cases n<;>simp only[Oper.upon] at h⊢<;>
   first
    |exact h
    |exact Calls.mono h (λe d c=>by cases e<;>exact c)
    |exact h.elim
 |halt y w'=>cases y<;>simp only[Oper.upon] at h⊢<;>exact h
theorem oO(T:TailFacts l o){Q:Exit->Act->World->Prop}:∀(e:Nat) (listed:Array Bool) (a:Act) (w:World),listed.size=l.length->
 wpAny P .any l.toArray (qk P o Q) e listed a w->wpAny P .any (l++[o]).toArray Q (e+1) (listed.push false) a w:=by
 have s:∀(e:Nat) (listed:Array Bool) (a:Act) (w:World),listed.size=l.length->Region.ready .any l.toArray listed=[]->o.wp P a w (λa w=>Q .normal a w) Q->
  wpOp P (l++[o]).toArray Q l.length (wpAny P .any (l++[o]).toArray Q e ((listed.push false).setIfInBounds l.length true)) a w:=by
  intro e listed a w d k f;have t:Region.ready .any (l++[o]).toArray ((listed.push false).setIfInBounds l.length true)=[]:=by
   rw[List.eq_nil_iff_forall_not_mem];intro b hi;obtain⟨h,E,u,D⟩:=mem_ready.1 hi;have i:=ft hi;simp only[List.size_toArray,List.length_append,List.length_cons,List.length_nil] at i;by_cases j:b=l.length
   ·subst j;simp[d] at h
   ·rw[getD_set_ne true (Ne.symm j),dL true zO] at h;have:=oa T d k (b+1) b zO zO;rw[h] at this;cases this
  unfold wpOp;simp only[List.getElem?_toArray,List.getElem?_append_right (Nat.le_refl _),Nat.sub_self,List.getElem?_cons_zero];rw[if_pos (by simp[Region.wanted,T.guard])];refine .inl (Oper.wp_mono (λr v n=>?_) f);cases e with
  |zero=>exact⟨t,n⟩
  |succ e=>exact⟨λ_=>n,λb hi=>by rw[t] at hi;cases hi⟩
 intro e;induction e with
 |zero=>
  intro listed a w d f;refine⟨λh=>?_,λb hi=>?_⟩
  ·have:=(mj T d).2 f.1;rw[h] at this;cases this
  ·have i:=ft hi;simp only[List.size_toArray,List.length_append,List.length_cons,List.length_nil] at i;by_cases j:b=l.length
   ·subst j;exact s 0 listed a w d f.1 f.2
   ·have:=(kJ T d zO).1 hi;rw[f.1] at this;cases this
 |succ e ih=>
  intro listed a w d f;refine⟨λh=>?_,λb hi=>?_⟩
  ·have k:Region.ready .any l.toArray listed=[]:=by
    rw[List.eq_nil_iff_forall_not_mem];intro b hi;have i:=ft hi;have:=(kJ T d (by simpa using i)).2 hi;rw[h] at this;cases this
   have:=(mj T d).2 k;rw[h] at this;cases this
  ·have i:=ft hi;simp only[List.size_toArray,List.length_append,List.length_cons,List.length_nil] at i;by_cases j:b=l.length
   ·subst j;have k:=(mj T d).1 hi;exact s (e+1) listed a w d k (f.1 k)
   ·have m:b<l.length:=by omega
    have y:=(kJ T d m).1 hi;have c:=f.2 b y;have B:(listed.push false).setIfInBounds b true=(listed.setIfInBounds b true).push false:=by
     apply Array.ext_getElem?;intro q;simp only[Array.getElem?_setIfInBounds,Array.getElem?_push,Array.size_setIfInBounds,Array.size_push];by_cases c:b=q
     ·subst c;rw[if_pos rfl,if_pos zO,if_neg zO,if_pos rfl,if_pos zO]
     ·rw[if_neg c,if_neg c]
    rw[B];unfold wpOp at c⊢;rw[hO m];simp only[List.getElem?_toArray,List.getElem?_eq_getElem m] at c⊢;have u:Region.wanted l[b] (yielded (l++[o]).toArray a.tmps)=Region.wanted l[b] (yielded l.toArray a.tmps):=by
     unfold Region.wanted;cases hg:l[b].guard with
     |none=>rfl
     |some g=>
      obtain⟨q,x⟩:=g;have z:=T.guards b l[b] (ea m) q x hg;simp only[yielded,hO z]
    rw[u];split
    ·rename_i p
     rw[if_pos p] at c;rcases c with c|⟨c,a0,C,n⟩
     ·exact .inl (Oper.wp_mono (λr v A=>ih _ r v (by simpa using d) A) (Oper.wp_tail c))
     ·exact .inr ⟨c,a0,C,n⟩
    ·rename_i p
     rw[if_neg p] at c;exact ih _ _ _ (by simpa using d) c
theorem kP{ops:Array Oper}{C:World->Prop}{Q d:Act->Prop}(b:∀a,Q a->d a):∀(l:List Oper) (a:Act),wpQuiet P ops C Q l a->wpQuiet P ops C d l a
 |[],_,h=>b _ h
 |x::r,a,h=>by
  unfold wpQuiet at h⊢;split
  ·rename_i c;rw[if_pos c] at h
   exact Oper.quiet_mono (λe=>kP b r e) h
  ·rename_i c;rw[if_neg c] at h
   exact kP b r _ h
theorem vg{id:Nat}{Q:Exit->Act->World->Prop}{a:Act}{w W:World}(l:List Oper)(o:Oper)(g:P.follows .mixedOrders=true)(d:Region.lexB .any l.toArray=true)(f:jp l o=true)(j:Ext W w)
 (h:wpQuiet P l.toArray (λb=>∃e:Later W,b=e.w) (λc=>∀b,(∃e:Later W,b=e.w)->o.wp P c b (λa w=>Q .normal a w) Q) l a):(Code.region id (l++[o]).toArray true).wp P Q a w:=by
 refine wp_region_any g ?_;have m:(Array.replicate (l++[o]).toArray.size false)=(Array.replicate l.length false).push false:=by
  simp[Array.replicate_succ]
 rw[m];have i:(l++[o]).toArray.size=l.length+1:=by simp
 rw[i];refine oO (pq f) l.length _ a _ zS ?_;simp only[Region.lexB,Bool.and_eq_true] at d;refine wpAny_of_quiet (C:=λb=>∃e:Later W,b=e.w) (Q:=λc=>∀b,(∃e:Later W,b=e.w)->o.wp P c b (λa w=>Q .normal a w) Q) (λ_ b k h=>h b k) _ _ _ _ (ae j.drew) ?_;exact wpAnyQ_lex (C:=λb=>∃e:Later W,b=e.w) (md:=.any) d.1 l 0 (Array.replicate l.length false) a zS (by simpa using d.2) h
theorem fc{id:Nat}{Q:Exit->Act->World->Prop}{a:Act}{w W:World}{l:List Oper}{o:Oper}(j:P.follows .mixedOrders=true)(c:l.reverse.head? =some o)(f:Region.lexB .any l.dropLast.toArray=true)(g:jp l.dropLast o=true)(k:Ext W w)
 (h:wpQuiet P l.dropLast.toArray (λd=>∃e:Later W,d=e.w) (λb=>∀e:Later W,o.wp P b e.w (λa w=>Q .normal a w) Q) l.dropLast a):(Code.region id l.toArray true).wp P Q a w:=by
 have i:l=l.dropLast++[o]:=by
  rw[List.head?_reverse,List.getLast?_eq_some_iff] at c;obtain⟨n,rfl⟩:=c;simp
 have:=vg (id:=id) (Q:=Q) (a:=a) (w:=w) (W:=W) l.dropLast o j f g k ?_
 ·rwa[<-i] at this
 ·refine kP (λb h d m=>?_) _ _ h;obtain⟨e,rfl⟩:=m;exact h e
end
def eh(F:Nat->Value->World->Prop)(l:List Oper)(A:Act)(w:World):List Edge->Prop
 |[]=>True
 |e::r=>(if Region.binds .any e=true then(match(l[e.on]?).bind Oper.dst with|some d=>F e.on (A.tmps.getD d undef) w|none=>True) else True)/\eh F l A w r
def iL(l:List Oper)(n:Nat):Bool:=
 l.all (λo=>o.guard.isNone && (match o.dst with|some d=>decide (d<n)|none=>true)) && (List.range l.length).all λa=>match l[a]? with
  |some x=>x.after.all (λe=>!Region.binds .any e||decide (e.on<a)) && (match x.dst with
   |some d=>(List.range a).all λb=>((l[b]?).bind Oper.dst) !=some d
   |none=>true)
  |none=>true
structure Known(W:World)(a0:Act)(F:Nat->Value->World->Prop)(l:List Oper)(listed:Nat->Bool)(A:Act)(w:World):Prop where
 ext:Ext W w
 size:A.tmps.size=a0.tmps.size
 defers:A.defers=a0.defers
 done:∀(j:Nat) (d:Tmp),(l[j]?).bind Oper.dst=some d->listed j=true->F j (A.tmps.getD d undef) w
 rest:∀t:Tmp,(∀j:Nat,(l[j]?).bind Oper.dst≠some t)->A.tmps.getD t undef=a0.tmps.getD t undef
def kZ:Exit->Act->World->Prop:=λ_ _ _=>False
theorem Oper.wp_noWay{P:Program}{o:Oper}{a:Act}{w:World}{c:Act->World->Prop}{Q:Exit->Act->World->Prop}(h:o.wp P a w c kZ):o.wp P a w c Q:=by
 unfold Oper.wp at*;generalize (execOp a.eval o).run P w=r at*;cases r with
 |ok n w'=>
  cases n<;>simp only[Oper.upon] at h⊢<;>
   first
    |exact h
    |exact Calls.mono h (λe f b=>by cases e<;>first|exact b|exact b.elim|(obtain⟨_,_,d⟩:=b;exact d.elim))
    |exact h.elim
 |halt y w'=>cases y<;>simp only[Oper.upon] at h⊢<;>first|exact h|exact h.elim
def kw(P:Program)(W:World)(a0:Act)(F:Nat->Value->World->Prop)(l:List Oper)(i:Nat)(o:Oper):Prop:=
 ∀(a:Act) (w:World),Ext W w->eh F l a w o.after.toList->(∀b:Tmp,(∀e:Nat,(l[e]?).bind Oper.dst≠some b)->a.tmps.getD b undef=a0.tmps.getD b undef)->
  o.wp P a w (λd c=>∃v,d=a.put o.dst v/\Ext w c/\F i v c) kZ
def StepsOk(P:Program)(W:World)(a0:Act)(F:Nat->Value->World->Prop)(l:List Oper):List Oper->Nat->Prop
 |[],_=>True
 |o::r,i=>kw P W a0 F l i o/\StepsOk P W a0 F l r (i+1)
theorem StepsOk.get{P:Program}{W:World}{a0:Act}{F:Nat->Value->World->Prop}{l:List Oper}:∀(a:List Oper) (k:Nat),StepsOk P W a0 F l a k->∀(j:Nat) (o:Oper),a[j]? =some o->kw P W a0 F l (k+j) o
 |[],_,_,_,_,hj=>by simp at hj
 |x::a,k,h,0,o,hj=>by simp at hj;subst hj;exact h.1
 |x::a,k,h,j+1,o,hj=>by
  have:=StepsOk.get a (k+1) h.2 j o (by simpa using hj);rwa[show k+1+j=k+(j+1) by omega] at this
structure FactsOk(l:List Oper)(n:Nat):Prop where
 guard:∀(i:Nat) (o:Oper),l[i]? =some o->o.guard=none
 lt:∀(i:Nat) (d:Tmp),(l[i]?).bind Oper.dst=some d->d<n
 apart:∀(i j:Nat) (d:Tmp),(l[i]?).bind Oper.dst=some d->(l[j]?).bind Oper.dst=some d->i=j
theorem BG{l:List Oper}{n:Nat}(h:iL l n=true):FactsOk l n:=by
 simp only[iL,Bool.and_eq_true,List.all_eq_true,List.mem_range] at h;obtain⟨i,j⟩:=h;have lt:∀{a:Nat} {d:Tmp},(l[a]?).bind Oper.dst=some d->∃o,l[a]? =some o/\o.dst=some d/\a<l.length:=by
  intro a d hi;obtain⟨o,b,e⟩:=Option.bind_eq_some_iff.1 hi;exact⟨o,b,e,(y7t.1 b).1⟩
 have g:∀(a c:Nat) (d:Tmp),c<a->(l[a]?).bind Oper.dst=some d->(l[c]?).bind Oper.dst=some d->False:=by
  intro a c d k hi f;obtain⟨o,b,e,m⟩:=lt hi;have:=j a m;simp only[b,e,Bool.and_eq_true,List.all_eq_true,List.mem_range,bne_iff_ne,ne_eq] at this;exact this.2 c k f
 refine⟨λa o b=>?_,λa d hi=>?_,λa c d hi f=>?_⟩
 ·have:=(i o (List.mem_of_getElem? b)).1;simpa using this
 ·obtain⟨o,b,e,_⟩:=lt hi;have:=(i o (List.mem_of_getElem? b)).2;simpa [e] using this
 ·rcases Nat.lt_trichotomy a c with h|h|h
  ·exact(g c a d h f hi).elim
  ·exact h
  ·exact(g a c d h hi f).elim
theorem eU{a:Act}{d t:Tmp}{v:Value}:(a.put (some d) v).tmps.getD t undef=if t=d/\d<a.tmps.size then v else a.tmps.getD t undef:=by
 simp only[Act.put,Array.getD_eq_getD_getElem?,Array.getElem?_setIfInBounds];by_cases b:d=t
 ·subst b;by_cases c:d<a.tmps.size
  ·simp[c]
  ·simp[c]
 ·rw[if_neg b,if_neg (λe=>b e.1.symm)]
section
variable {P : Program} {W : World} {a0 : Act} {F : Nat → Value → World → Prop} {l : List Oper}
theorem Known.step(s:∀i v w b,F i v w->Ext w b->F i v b)(T:FactsOk l a0.tmps.size){listed:Array Bool}{A:Act}{w:World}(h:Known W a0 F l (λj=>listed.getD j false) A w)
 {i:Nat} {o:Oper} (r:l[i]? =some o) {v:Value} {b:World} (p:Ext w b) (hF:F i v b):Known W a0 F l (λj=>(listed.setIfInBounds i true).getD j false) (A.put o.dst v) b:=by
 have f:(l[i]?).bind Oper.dst=o.dst:=by rw[r];rfl
 have t:(A.put o.dst v).tmps.size=a0.tmps.size:=by
  cases hdd:o.dst<;>simp[Act.put,h.size]
 have q:(A.put o.dst v).defers=a0.defers:=by
  cases hdd:o.dst<;>simp[Act.put,h.defers]
 have n:∀a,o.dst≠some a->(A.put o.dst v).tmps.getD a undef=A.tmps.getD a undef:=by
  intro a g;cases hdd:o.dst with
  |none=>rfl
  |some d=>rw[eU,if_neg (λc=>g (by rw[hdd,c.1]))]
 refine⟨h.ext.trans p,t,q,λj d e m=>?_,λa g=>?_⟩
 ·by_cases k:i=j
  ·subst k;rw[f] at e;rw[e,eU,if_pos ⟨rfl,by rw[h.size];exact T.lt i d (by rw[f];exact e)⟩];exact hF
  ·rw[getD_set_ne false k] at m;rw[n d (λc=>k (T.apart i j d (by rw[f];exact c) e))];exact s _ _ _ _ (h.done j d e m) p
 ·rw[n a (λc=>g i (by rw[f];exact c))];exact h.rest a g
theorem gn{A:Act}{w:World}{listed:Nat->Bool}(h:∀(a:Nat) (d:Tmp),(l[a]?).bind Oper.dst=some d->listed a=true->F a (A.tmps.getD d undef) w):
 ∀b:List Edge,(∀e∈b,Region.binds .any e=true->listed e.on=true)->eh F l A w b
 |[],_=>trivial
 |e::r,he=>by
  refine⟨?_,gn h r λc i=>he c (bi _ i)⟩;split
  ·rename_i f
   split
   ·rename_i d g
    exact h e.on d g (he e (cc ..) f)
   ·trivial
  ·trivial
theorem dQ{F:Nat->Value->World->Prop}{l:List Oper}{A:Act}{w:World}{e:Edge}{f:List Edge}{d:Tmp}(b:eh F l A w (e::f))(a:Region.binds .any e=true)(c:(l[e.on]?).bind Oper.dst=some d):F e.on (A.tmps.getD d undef) w:=by
 have:=b.1;rw[if_pos a,c] at this;exact this
def left:List Bool->Nat
 |[]=>0
 |b::r=>(if b then 0 else 1)+left r
theorem fL:∀(a:List Bool) (i:Nat),a[i]? =some false->left (a.set i true)+1=left a
 |[],i,h=>by simp at h
 |b::r,0,h=>by simp at h;subst h;simp[left];omega
 |b::r,i+1,h=>by
  have:=fL r i (by simpa using h);simp only[List.set_cons_succ,left];omega
theorem gg:∀(a:List Bool),false∈a->0<left a
 |[],h=>by cases h
 |b::r,h=>by
  cases h with
  |head=>simp[left];omega
  |tail _ ht=>have:=gg r ht;simp only[left];omega
theorem eZ(n:Nat):left (List.replicate n false)=n:=by
 induction n with
 |zero=>rfl
 |succ n ih=>simp only[List.replicate_succ,left,ih];simp;omega
theorem Bp{Q:Exit->Act->World->Prop}(L:∀a v w t,F a v w->Ext w t->F a v t)(T:FactsOk l a0.tmps.size)(D:StepsOk P W a0 F l l 0)
 (B:∀A w,Known W a0 F l (λj=>decide (j<l.length)) A w->Q .normal A w)
 (C:∀a x,l[a]? =some x->∀e∈x.after,Region.binds .any e=true->e.on<a):
 ∀(f:Nat) (listed:Array Bool) (A:Act) (w:World),listed.size=l.length->(f=0->Region.ready .any l.toArray listed=[])->left listed.toList<=f->Known W a0 F l (λj=>listed.getD j false) A w->
  wpAny P .any l.toArray Q f listed A w:=by
 have fin:∀(listed:Array Bool) (A:Act) (w:World),listed.size=l.length->Region.ready .any l.toArray listed=[]->Known W a0 F l (λj=>listed.getD j false) A w->Q .normal A w:=by
  intro listed A w g s b;have z:∀n a,a<n->a<l.length->listed.getD a true=true:=by
   intro n;induction n with
   |zero=>intro a hi;omega
   |succ n ih=>
    intro a U hi;cases r:listed.getD a true with
    |true=>rfl
    |false=>
     have:a∈Region.ready .any l.toArray listed:=mem_ready.2 ⟨r,l[a],by simp[List.getElem?_eq_getElem hi],λe m k=>by
      have V:=C a l[a] (ea hi) e m k;have:=ih e.on zO zO;have c:e.on<listed.size:=by omega
      simpa [c] using this⟩
     rw[s] at this;cases this
  refine B A w ⟨b.ext,b.size,b.defers,λj d p r=>b.done j d p ?_,b.rest⟩;have q:j<l.length:=by simpa using r
  have:=z (j+1) j zO q;have c:j<listed.size:=by omega
  simpa [c] using this
 intro f;induction f with
 |zero=>
  intro listed A w g h _ b;exact⟨h rfl,fin listed A w g (h rfl) b⟩
 |succ f ih=>
  intro listed A w g _ R b;refine⟨λs=>fin listed A w g s b,λa hi=>?_⟩;obtain⟨h,o,K,E⟩:=mem_ready.1 hi;have i:l[a]? =some o:=by simpa using K
  have S:a<l.length:=(y7t.1 i).1;have G:left (listed.setIfInBounds a true).toList<=f:=by
   have c:a<listed.size:=by omega
   have J:listed.toList[a]? =some false:=by
    simp[c] at h;simp[c,h]
   have:=fL listed.toList a J;rw[show(listed.setIfInBounds a true).toList=listed.toList.set a true by simp];omega
  unfold wpOp;simp only[List.getElem?_toArray,i];rw[if_pos (by simp[Region.wanted,T.guard a o i])];have y:=StepsOk.get l 0 D a o i;rw[Nat.zero_add] at y;refine .inl (Oper.wp_mono ?_ (Oper.wp_noWay (y A w b.ext (gn b.done o.after.toList (λe m k=>E e (by simpa using m) k)) b.rest)));rintro O t ⟨v,rfl,M,hF⟩;refine ih _ _ _ (by simpa using g) (λI=>?_) G (b.step L T i M hF);subst I;rw[List.eq_nil_iff_forall_not_mem];intro j p;obtain⟨u,X,N,_⟩:=mem_ready.1 p;have q:j<l.length:=by
   have:=(y7n.1 N).1;simpa using this
  have c:j<(listed.setIfInBounds a true).size:=by simpa [g] using q
  have:false∈(listed.setIfInBounds a true).toList:=by
   simp only[Array.getD_eq_getD_getElem?,Array.getElem?_eq_getElem c,Option.getD_some] at u;rw[<-u];exact Array.mem_toList_iff.2 (Array.getElem_mem _)
  have:=gg _ this;omega
theorem uW{n:Nat}(h:iL l n=true):∀i x,l[i]? =some x->∀e∈x.after,Region.binds .any e=true->e.on<i:=by
 simp only[iL,Bool.and_eq_true,List.all_eq_true,List.mem_range] at h;intro i x b e c a;have:=h.2 i (y7t.1 b).1;simp only[b,Bool.and_eq_true,Array.all_eq_true_iff_forall_mem,Bool.or_eq_true,Bool.not_eq_true',decide_eq_true_eq] at this;rcases this.1 e c with h|h
 ·rw[h] at a;cases a
 ·exact h
theorem eD(n j:Nat):(Array.replicate n false).getD j false=false:=by
 rw[Array.getD_eq_getD_getElem?,Array.getElem?_replicate];split<;>rfl
theorem vd{id:Nat}{Q:Exit->Act->World->Prop}{w:World}{o:Oper}(F:Nat->Value->World->Prop)(q:P.follows .mixedOrders=true)(e:l.reverse.head? =some o)(c:iL l.dropLast a0.tmps.size=true)(p:jp l.dropLast o=true)(t:Ext W w)
 (r:∀f v w h,F f v w->Ext w h->F f v h)
 (n:StepsOk P W a0 F l.dropLast l.dropLast 0) (k:∀b w,Known W a0 F l.dropLast (λg=>decide (g<l.dropLast.length)) b w->o.wp P b w (λi w=>Q .normal i w) Q):(Code.region id l.toArray true).wp P Q a0 w:=by
 have a:l=l.dropLast++[o]:=by
  rw[List.head?_reverse,List.getLast?_eq_some_iff] at e;obtain⟨y,rfl⟩:=e;simp
 refine wp_region_any q ?_;rw[a];generalize l.dropLast=m at*;have u:(Array.replicate (m++[o]).toArray.size false)=(Array.replicate m.length false).push false:=by
  simp[Array.replicate_succ]
 rw[u];have s:(m++[o]).toArray.size=m.length+1:=by simp
 rw[s];refine oO (pq p) m.length _ a0 _ zS ?_;refine Bp r (BG c) n k (uW c) m.length _ a0 _ zS (λj=>?_) ?_ ⟨t.drew,rfl,rfl,λg d _ a=>?_,λx _=>rfl⟩
 ·have:m=[]:=dl j;subst this;rfl
 ·rw[Array.toList_replicate,eZ];exact ac _
 ·rw[eD] at a;cases a
theorem ah{A:Act}{l:List Oper}(h0:∀t:Tmp,(∀a:Nat,(l[a]?).bind Oper.dst≠some t)->A.tmps.getD t undef=a0.tmps.getD t undef)(t:Tmp)(h:(l.all λo=>o.dst !=some t)=true):A.tmps.getD t undef=a0.tmps.getD t undef:=
 h0 t λa c=>by
  obtain⟨o,d,b⟩:=Option.bind_eq_some_iff.1 c;have:=List.all_eq_true.1 h o (List.mem_of_getElem? d);simp[b] at this
theorem ey{A:Act}{n:Nat}{d:List Deferred}(b:A.tmps.size=n)(a:A.defers=d):A={tmps:=((List.range n).map λe=>A.tmps.getD e undef).toArray,defers:=d}:=by
 obtain⟨i,f⟩:=A;simp only at b a;subst a
 congr 1
 apply Array.ext
 ·simp[b]
 ·intro h c g;simp[c]
theorem tmpsF(A:Act):∃a:Nat->Value,(∀t,A.tmps.getD t undef=a t)/\∀t:Nat,A.tmps[t]?.getD undef=a t:=⟨_,λ_=>rfl,λt=>by rw[<-Array.getD_eq_getD_getElem?]⟩
end
theorem iJ(w:World)(d e f g h i j k m:Value):∃a b:World,w.alloc (.cells #[.int .i64 0,.string ⟨#[]⟩,.string ⟨#[]⟩,.slice none 0 0,.slice none 0 0,.slice none 0 0,.slice none 0 0,.slice none 0 0,.slice none 0 0] 37)=a/\(a.cell? ⟨w.heap.size,0,none⟩=some (.int .i64 0)/\a.cell? ⟨w.heap.size,1,none⟩=some (.string ⟨#[]⟩)/\a.cell? ⟨w.heap.size,2,none⟩=some (.string ⟨#[]⟩)/\a.cell? ⟨w.heap.size,3,none⟩=some (.slice none 0 0)/\a.cell? ⟨w.heap.size,4,none⟩=some (.slice none 0 0)/\a.cell? ⟨w.heap.size,5,none⟩=some (.slice none 0 0)/\a.cell? ⟨w.heap.size,6,none⟩=some (.slice none 0 0)/\a.cell? ⟨w.heap.size,7,none⟩=some (.slice none 0 0)/\a.cell? ⟨w.heap.size,8,none⟩=some (.slice none 0 0))/\(a.frozen? ⟨w.heap.size,0,none⟩=false/\a.frozen? ⟨w.heap.size,1,none⟩=false/\a.frozen? ⟨w.heap.size,2,none⟩=false/\a.frozen? ⟨w.heap.size,3,none⟩=false/\a.frozen? ⟨w.heap.size,4,none⟩=false/\a.frozen? ⟨w.heap.size,5,none⟩=false/\a.frozen? ⟨w.heap.size,6,none⟩=false/\a.frozen? ⟨w.heap.size,7,none⟩=false/\a.frozen? ⟨w.heap.size,8,none⟩=false)/\(((((((((a.setCell ⟨w.heap.size,0,none⟩ d).setCell ⟨w.heap.size,1,none⟩ e).setCell ⟨w.heap.size,2,none⟩ f).setCell ⟨w.heap.size,3,none⟩ g).setCell ⟨w.heap.size,4,none⟩ h).setCell ⟨w.heap.size,5,none⟩ i).setCell ⟨w.heap.size,6,none⟩ j).setCell ⟨w.heap.size,7,none⟩ k).setCell ⟨w.heap.size,8,none⟩ m)=b/\Blk b w.heap.size 37 [d,e,f,g,h,i,j,k,m]/\Ext w b/\b.heap.size=w.heap.size+1:=by
 obtain⟨a,p,r,n⟩:=bM w (.int .i64 0) (.string ⟨#[]⟩) (.string ⟨#[]⟩) (.slice none 0 0) (.slice none 0 0) (.slice none 0 0) (.slice none 0 0) (.slice none 0 0) (.slice none 0 0) 37;obtain⟨b,c⟩:∃b,b=(((((((((a.setCell ⟨w.heap.size,0,none⟩ d).setCell ⟨w.heap.size,1,none⟩ e).setCell ⟨w.heap.size,2,none⟩ f).setCell ⟨w.heap.size,3,none⟩ g).setCell ⟨w.heap.size,4,none⟩ h).setCell ⟨w.heap.size,5,none⟩ i).setCell ⟨w.heap.size,6,none⟩ j).setCell ⟨w.heap.size,7,none⟩ k).setCell ⟨w.heap.size,8,none⟩ m):=⟨_,rfl⟩;have q:=n.store9 d e f g h i j k m;rw[<-c] at q;refine⟨a,b,p.symm,n.get9,n.free9,c.symm,q,?_,?_⟩
 ·rw[c];exact(((((((((r.setCell (ac _) _).setCell (ac _) _).setCell (ac _) _).setCell (ac _) _).setCell (ac _) _).setCell (ac _) _).setCell (ac _) _).setCell (ac _) _).setCell (ac _) _)
 ·rw[c,p];simp
theorem varS(w:World)(d e f g:Value):∃a b:World,w.alloc (.cells #[.int .i64 0,.string ⟨#[]⟩,.slice none 0 0,.slice none 0 0] 177)=a/\(a.cell? ⟨w.heap.size,0,none⟩=some (.int .i64 0)/\a.cell? ⟨w.heap.size,1,none⟩=some (.string ⟨#[]⟩)/\a.cell? ⟨w.heap.size,2,none⟩=some (.slice none 0 0)/\a.cell? ⟨w.heap.size,3,none⟩=some (.slice none 0 0))/\(a.frozen? ⟨w.heap.size,0,none⟩=false/\a.frozen? ⟨w.heap.size,1,none⟩=false/\a.frozen? ⟨w.heap.size,2,none⟩=false/\a.frozen? ⟨w.heap.size,3,none⟩=false)/\((((a.setCell ⟨w.heap.size,0,none⟩ d).setCell ⟨w.heap.size,1,none⟩ e).setCell ⟨w.heap.size,2,none⟩ f).setCell ⟨w.heap.size,3,none⟩ g)=b/\Blk b w.heap.size 177 [d,e,f,g]/\Ext w b/\b.heap.size=w.heap.size+1:=by
 obtain⟨a,i,k,h⟩:=bK w (.int .i64 0) (.string ⟨#[]⟩) (.slice none 0 0) (.slice none 0 0) 177;obtain⟨b,c⟩:∃b,b=((((a.setCell ⟨w.heap.size,0,none⟩ d).setCell ⟨w.heap.size,1,none⟩ e).setCell ⟨w.heap.size,2,none⟩ f).setCell ⟨w.heap.size,3,none⟩ g):=⟨_,rfl⟩;have j:=h.store4 d e f g;rw[<-c] at j;refine⟨a,b,i.symm,h.get4,h.free4,c.symm,j,?_,?_⟩
 ·rw[c];exact((((k.setCell (ac _) _).setCell (ac _) _).setCell (ac _) _).setCell (ac _) _)
 ·rw[c,i];simp
theorem varB(w:World)(d e f g h i j:Value):∃a b:World,w.alloc (.cells #[.string ⟨#[]⟩,.int .i64 0,.string ⟨#[]⟩,.int .i64 0,.int .i64 0,.int .u64 0,.slice none 0 0] 45)=a/\(a.cell? ⟨w.heap.size,0,none⟩=some (.string ⟨#[]⟩)/\a.cell? ⟨w.heap.size,1,none⟩=some (.int .i64 0)/\a.cell? ⟨w.heap.size,2,none⟩=some (.string ⟨#[]⟩)/\a.cell? ⟨w.heap.size,3,none⟩=some (.int .i64 0)/\a.cell? ⟨w.heap.size,4,none⟩=some (.int .i64 0)/\a.cell? ⟨w.heap.size,5,none⟩=some (.int .u64 0)/\a.cell? ⟨w.heap.size,6,none⟩=some (.slice none 0 0))/\(a.frozen? ⟨w.heap.size,0,none⟩=false/\a.frozen? ⟨w.heap.size,1,none⟩=false/\a.frozen? ⟨w.heap.size,2,none⟩=false/\a.frozen? ⟨w.heap.size,3,none⟩=false/\a.frozen? ⟨w.heap.size,4,none⟩=false/\a.frozen? ⟨w.heap.size,5,none⟩=false/\a.frozen? ⟨w.heap.size,6,none⟩=false)/\(((((((a.setCell ⟨w.heap.size,0,none⟩ d).setCell ⟨w.heap.size,1,none⟩ e).setCell ⟨w.heap.size,2,none⟩ f).setCell ⟨w.heap.size,3,none⟩ g).setCell ⟨w.heap.size,4,none⟩ h).setCell ⟨w.heap.size,5,none⟩ i).setCell ⟨w.heap.size,6,none⟩ j)=b/\Blk b w.heap.size 45 [d,e,f,g,h,i,j]/\Ext w b/\b.heap.size=w.heap.size+1:=by
 obtain⟨a,m,p,k⟩:=fF w (.string ⟨#[]⟩) (.int .i64 0) (.string ⟨#[]⟩) (.int .i64 0) (.int .i64 0) (.int .u64 0) (.slice none 0 0) 45;obtain⟨b,c⟩:∃b,b=(((((((a.setCell ⟨w.heap.size,0,none⟩ d).setCell ⟨w.heap.size,1,none⟩ e).setCell ⟨w.heap.size,2,none⟩ f).setCell ⟨w.heap.size,3,none⟩ g).setCell ⟨w.heap.size,4,none⟩ h).setCell ⟨w.heap.size,5,none⟩ i).setCell ⟨w.heap.size,6,none⟩ j):=⟨_,rfl⟩;have n:=k.store7 d e f g h i j;rw[<-c] at n;refine⟨a,b,m.symm,k.get7,k.free7,c.symm,n,?_,?_⟩
 ·rw[c];exact(((((((p.setCell (ac _) _).setCell (ac _) _).setCell (ac _) _).setCell (ac _) _).setCell (ac _) _).setCell (ac _) _).setCell (ac _) _)
 ·rw[c,m];simp
theorem varP(w:World)(d e f g h i j k:Value):∃a b:World,w.alloc (.cells #[.string ⟨#[]⟩,.bool false,.int .i64 0,.string ⟨#[]⟩,.int .i64 0,.int .i64 0,.int .u64 0,.slice none 0 0] 42)=a/\(a.cell? ⟨w.heap.size,0,none⟩=some (.string ⟨#[]⟩)/\a.cell? ⟨w.heap.size,1,none⟩=some (.bool false)/\a.cell? ⟨w.heap.size,2,none⟩=some (.int .i64 0)/\a.cell? ⟨w.heap.size,3,none⟩=some (.string ⟨#[]⟩)/\a.cell? ⟨w.heap.size,4,none⟩=some (.int .i64 0)/\a.cell? ⟨w.heap.size,5,none⟩=some (.int .i64 0)/\a.cell? ⟨w.heap.size,6,none⟩=some (.int .u64 0)/\a.cell? ⟨w.heap.size,7,none⟩=some (.slice none 0 0))/\(a.frozen? ⟨w.heap.size,0,none⟩=false/\a.frozen? ⟨w.heap.size,1,none⟩=false/\a.frozen? ⟨w.heap.size,2,none⟩=false/\a.frozen? ⟨w.heap.size,3,none⟩=false/\a.frozen? ⟨w.heap.size,4,none⟩=false/\a.frozen? ⟨w.heap.size,5,none⟩=false/\a.frozen? ⟨w.heap.size,6,none⟩=false/\a.frozen? ⟨w.heap.size,7,none⟩=false)/\((((((((a.setCell ⟨w.heap.size,0,none⟩ d).setCell ⟨w.heap.size,1,none⟩ e).setCell ⟨w.heap.size,2,none⟩ f).setCell ⟨w.heap.size,3,none⟩ g).setCell ⟨w.heap.size,4,none⟩ h).setCell ⟨w.heap.size,5,none⟩ i).setCell ⟨w.heap.size,6,none⟩ j).setCell ⟨w.heap.size,7,none⟩ k)=b/\Blk b w.heap.size 42 [d,e,f,g,h,i,j,k]/\Ext w b/\b.heap.size=w.heap.size+1:=by
 obtain⟨a,n,q,m⟩:=de w (.string ⟨#[]⟩) (.bool false) (.int .i64 0) (.string ⟨#[]⟩) (.int .i64 0) (.int .i64 0) (.int .u64 0) (.slice none 0 0) 42;obtain⟨b,c⟩:∃b,b=((((((((a.setCell ⟨w.heap.size,0,none⟩ d).setCell ⟨w.heap.size,1,none⟩ e).setCell ⟨w.heap.size,2,none⟩ f).setCell ⟨w.heap.size,3,none⟩ g).setCell ⟨w.heap.size,4,none⟩ h).setCell ⟨w.heap.size,5,none⟩ i).setCell ⟨w.heap.size,6,none⟩ j).setCell ⟨w.heap.size,7,none⟩ k):=⟨_,rfl⟩;have p:=m.store8 d e f g h i j k;rw[<-c] at p;refine⟨a,b,n.symm,m.get8,m.free8,c.symm,p,?_,?_⟩
 ·rw[c];exact((((((((q.setCell (ac _) _).setCell (ac _) _).setCell (ac _) _).setCell (ac _) _).setCell (ac _) _).setCell (ac _) _).setCell (ac _) _).setCell (ac _) _)
 ·rw[c,n];simp
theorem varM(w:World)(d e f g:Value):∃a b:World,w.alloc (.cells #[.string ⟨#[]⟩,.slice none 0 0,.slice none 0 0,.slice none 0 0] 30)=a/\(a.cell? ⟨w.heap.size,0,none⟩=some (.string ⟨#[]⟩)/\a.cell? ⟨w.heap.size,1,none⟩=some (.slice none 0 0)/\a.cell? ⟨w.heap.size,2,none⟩=some (.slice none 0 0)/\a.cell? ⟨w.heap.size,3,none⟩=some (.slice none 0 0))/\(a.frozen? ⟨w.heap.size,0,none⟩=false/\a.frozen? ⟨w.heap.size,1,none⟩=false/\a.frozen? ⟨w.heap.size,2,none⟩=false/\a.frozen? ⟨w.heap.size,3,none⟩=false)/\((((a.setCell ⟨w.heap.size,0,none⟩ d).setCell ⟨w.heap.size,1,none⟩ e).setCell ⟨w.heap.size,2,none⟩ f).setCell ⟨w.heap.size,3,none⟩ g)=b/\Blk b w.heap.size 30 [d,e,f,g]/\Ext w b/\b.heap.size=w.heap.size+1:=by
 obtain⟨a,i,k,h⟩:=bK w (.string ⟨#[]⟩) (.slice none 0 0) (.slice none 0 0) (.slice none 0 0) 30;obtain⟨b,c⟩:∃b,b=((((a.setCell ⟨w.heap.size,0,none⟩ d).setCell ⟨w.heap.size,1,none⟩ e).setCell ⟨w.heap.size,2,none⟩ f).setCell ⟨w.heap.size,3,none⟩ g):=⟨_,rfl⟩;have j:=h.store4 d e f g;rw[<-c] at j;refine⟨a,b,i.symm,h.get4,h.free4,c.symm,j,?_,?_⟩
 ·rw[c];exact((((k.setCell (ac _) _).setCell (ac _) _).setCell (ac _) _).setCell (ac _) _)
 ·rw[c,i];simp
def fq(l:List Oper)(n:Nat):Bool:=
 l.all (λo=>match o.dst with|some d=>decide (d<n)|none=>true) && (List.range l.length).all λb=>match l[b]? with
  |some x=>x.after.all (λe=>!Region.binds .any e||decide (e.on<b)) && (match x.dst with
   |some d=>(List.range b).all λa=>((l[a]?).bind Oper.dst) !=some d
   |none=>true) && (match x.guard with
   |some (a,_)=>x.after.any (λe=>Region.binds .any e && e.on==a) && ((l[a]?).bind Oper.dst).isSome
   |none=>true)
  |none=>true
structure FactsOkG(l:List Oper)(n:Nat):Prop where
 lt:∀(i:Nat) (d:Tmp),(l[i]?).bind Oper.dst=some d->d<n
 apart:∀(i j:Nat) (d:Tmp),(l[i]?).bind Oper.dst=some d->(l[j]?).bind Oper.dst=some d->i=j
 order:∀i x,l[i]? =some x->∀e∈x.after,Region.binds .any e=true->e.on<i
 guard:∀(i:Nat) (x:Oper) (j:Nat) (b:Bool),l[i]? =some x->x.guard=some (j,b)->(∃e∈x.after,Region.binds .any e=true/\e.on=j)/\∃d,(l[j]?).bind Oper.dst=some d
theorem gY{l:List Oper}{n:Nat}(h:fq l n=true):FactsOkG l n:=by
 simp only[fq,Bool.and_eq_true,List.all_eq_true,List.mem_range] at h;obtain⟨q,k⟩:=h;have lt:∀{a:Nat} {d:Tmp},(l[a]?).bind Oper.dst=some d->∃o,l[a]? =some o/\o.dst=some d/\a<l.length:=by
  intro a d hi;obtain⟨o,f,g⟩:=Option.bind_eq_some_iff.1 hi;exact⟨o,f,g,(y7t.1 f).1⟩
 have p:∀(a b:Nat) (d:Tmp),b<a->(l[a]?).bind Oper.dst=some d->(l[b]?).bind Oper.dst=some d->False:=by
  intro a b d s hi j;obtain⟨o,f,g,t⟩:=lt hi;have:=k a t;simp only[f,g,Bool.and_eq_true,List.all_eq_true,List.mem_range,bne_iff_ne,ne_eq] at this;exact this.1.2 b s j
 refine⟨λa d hi=>?_,λa b d hi j=>?_,λa x i e m c=>?_,λa x b u i r=>?_⟩
 ·obtain⟨o,f,g,_⟩:=lt hi;have:=q o (List.mem_of_getElem? f);simpa [g] using this
 ·rcases Nat.lt_trichotomy a b with h|h|h
  ·exact(p b a d h j hi).elim
  ·exact h
  ·exact(p a b d h hi j).elim
 ·have:=k a (y7t.1 i).1;simp only[i,Bool.and_eq_true,Array.all_eq_true_iff_forall_mem,Bool.or_eq_true,Bool.not_eq_true',decide_eq_true_eq] at this;rcases this.1.1 e m with h|h
  ·rw[h] at c;cases c
  ·exact h
 ·have:=k a (y7t.1 i).1;simp only[i,r,Bool.and_eq_true] at this;obtain⟨e,m,c⟩:=Array.any_eq_true'.1 this.2.1;simp only[Bool.and_eq_true,beq_iff_eq] at c;exact⟨⟨e,m,c.1,c.2⟩,Option.isSome_iff_exists.1 this.2.2⟩
section
variable {P : Program} {W : World} {a0 : Act} {F : Nat → Value → World → Prop} {l : List Oper}
theorem Known.stepG(s:∀i v w b,F i v w->Ext w b->F i v b)(T:FactsOkG l a0.tmps.size){listed:Array Bool}{A:Act}{w:World}(h:Known W a0 F l (λj=>listed.getD j false) A w)
 {i:Nat} {o:Oper} (r:l[i]? =some o) {v:Value} {b:World} (p:Ext w b) (hF:F i v b):Known W a0 F l (λj=>(listed.setIfInBounds i true).getD j false) (A.put o.dst v) b:=by
 have f:(l[i]?).bind Oper.dst=o.dst:=by rw[r];rfl
 have t:(A.put o.dst v).tmps.size=a0.tmps.size:=by
  cases hdd:o.dst<;>simp[Act.put,h.size]
 have q:(A.put o.dst v).defers=a0.defers:=by
  cases hdd:o.dst<;>simp[Act.put,h.defers]
 have n:∀a,o.dst≠some a->(A.put o.dst v).tmps.getD a undef=A.tmps.getD a undef:=by
  intro a g;cases hdd:o.dst with
  |none=>rfl
  |some d=>rw[eU,if_neg (λc=>g (by rw[hdd,c.1]))]
 refine⟨h.ext.trans p,t,q,λj d e m=>?_,λa g=>?_⟩
 ·by_cases k:i=j
  ·subst k;rw[f] at e;rw[e,eU,if_pos ⟨rfl,by rw[h.size];exact T.lt i d (by rw[f];exact e)⟩];exact hF
  ·rw[getD_set_ne false k] at m;rw[n d (λc=>k (T.apart i j d (by rw[f];exact c) e))];exact s _ _ _ _ (h.done j d e m) p
 ·rw[n a (λc=>g i (by rw[f];exact c))];exact h.rest a g
def GuardsMet(F:Nat->Value->World->Prop):List Oper->Prop
 |[]=>True
 |o::r=>(match o.guard with|some (j,b)=>∀v w,F j v w->v=.bool b|none=>True)/\GuardsMet F r
theorem GuardsMet.get{F:Nat->Value->World->Prop}:∀{l:List Oper},GuardsMet F l->∀{i:Nat} {o:Oper},l[i]? =some o->∀{j b},o.guard=some (j,b)->∀v w,F j v w->v=.bool b
 |[],_,_,_,ho,_,_,_=>by simp at ho
 |x::r,h,0,o,ho,j,b,hg=>by
  simp at ho;subst ho;have:=h.1;rw[hg] at this;exact this
 |x::r,h,i+1,o,ho,j,b,hg=>GuardsMet.get h.2 (by simpa using ho) hg
theorem lV{A:Act}{w:World}{listed:Nat->Bool}{o:Oper}{i n:Nat}(T:FactsOkG l n)(q:GuardsMet F l)(j:l[i]? =some o)(t:A.tmps.size=n)
 (h:∀(a:Nat) (d:Tmp),(l[a]?).bind Oper.dst=some d->listed a=true->F a (A.tmps.getD d undef) w) (p:∀e∈o.after,Region.binds .any e=true->listed e.on=true):
 Region.wanted o (yielded l.toArray A.tmps)=true:=by
 unfold Region.wanted;cases hgd:o.guard with
 |none=>rfl
 |some g=>
  obtain⟨a,b⟩:=g;obtain⟨⟨e,s,m,rfl⟩,d,c⟩:=T.guard i o a b j hgd;have u:=q.get j hgd _ _ (h e.on d c (p e s m));have r:=T.lt e.on d c;have v:yielded l.toArray A.tmps e.on=some b:=by
   unfold yielded;simp only[List.getElem?_toArray];rw[c];have f:d<A.tmps.size:=by rw[t];exact r
   have k:A.tmps[d]? =some (.bool b):=by
    rw[Array.getElem?_eq_getElem f];have:=u;rw[Array.getD_eq_getD_getElem?,Array.getElem?_eq_getElem f] at this;exact congrArg some this
   simp[k]
  simp[v]
theorem Cb{Q:Exit->Act->World->Prop}(L:∀a v w t,F a v w->Ext w t->F a v t)(T:FactsOkG l a0.tmps.size)(I:GuardsMet F l)(D:StepsOk P W a0 F l l 0)
 (B:∀A w,Known W a0 F l (λj=>decide (j<l.length)) A w->Q .normal A w):
 ∀(f:Nat) (listed:Array Bool) (A:Act) (w:World),listed.size=l.length->(f=0->Region.ready .any l.toArray listed=[])->left listed.toList<=f->Known W a0 F l (λj=>listed.getD j false) A w->
  wpAny P .any l.toArray Q f listed A w:=by
 have C:=T.order;have fin:∀(listed:Array Bool) (A:Act) (w:World),listed.size=l.length->Region.ready .any l.toArray listed=[]->Known W a0 F l (λj=>listed.getD j false) A w->Q .normal A w:=by
  intro listed A w g s b;have z:∀n a,a<n->a<l.length->listed.getD a true=true:=by
   intro n;induction n with
   |zero=>intro a hi;omega
   |succ n ih=>
    intro a U hi;cases r:listed.getD a true with
    |true=>rfl
    |false=>
     have:a∈Region.ready .any l.toArray listed:=mem_ready.2 ⟨r,l[a],by simp[List.getElem?_eq_getElem hi],λe m k=>by
      have V:=C a l[a] (ea hi) e m k;have:=ih e.on zO zO;have c:e.on<listed.size:=by omega
      simpa [c] using this⟩
     rw[s] at this;cases this
  refine B A w ⟨b.ext,b.size,b.defers,λj d p r=>b.done j d p ?_,b.rest⟩;have q:j<l.length:=by simpa using r
  have:=z (j+1) j zO q;have c:j<listed.size:=by omega
  simpa [c] using this
 intro f;induction f with
 |zero=>
  intro listed A w g h _ b;exact⟨h rfl,fin listed A w g (h rfl) b⟩
 |succ f ih=>
  intro listed A w g _ R b;refine⟨λs=>fin listed A w g s b,λa hi=>?_⟩;obtain⟨h,o,K,u⟩:=mem_ready.1 hi;have i:l[a]? =some o:=by simpa using K
  have S:a<l.length:=(y7t.1 i).1;have E:left (listed.setIfInBounds a true).toList<=f:=by
   have c:a<listed.size:=by omega
   have J:listed.toList[a]? =some false:=by
    simp[c] at h;simp[c,h]
   have:=fL listed.toList a J;rw[show(listed.setIfInBounds a true).toList=listed.toList.set a true by simp];omega
  unfold wpOp;simp only[List.getElem?_toArray,i];rw[if_pos (lV T I i b.size b.done u)];have y:=StepsOk.get l 0 D a o i;rw[Nat.zero_add] at y;refine .inl (Oper.wp_mono ?_ (Oper.wp_noWay (y A w b.ext (gn b.done o.after.toList (λe m k=>u e (by simpa using m) k)) b.rest)));rintro O t ⟨v,rfl,M,hF⟩;refine ih _ _ _ (by simpa using g) (λG=>?_) E (b.stepG L T i M hF);subst G;rw[List.eq_nil_iff_forall_not_mem];intro j p;obtain⟨x,X,N,_⟩:=mem_ready.1 p;have q:j<l.length:=by
   have:=(y7n.1 N).1;simpa using this
  have c:j<(listed.setIfInBounds a true).size:=by simpa [g] using q
  have:false∈(listed.setIfInBounds a true).toList:=by
   simp only[Array.getD_eq_getD_getElem?,Array.getElem?_eq_getElem c,Option.getD_some] at x;rw[<-x];exact Array.mem_toList_iff.2 (Array.getElem_mem _)
  have:=gg _ this;omega
theorem ab{A:Act}{w:World}:∀{b:List Edge},eh F l A w b->∀(j:Nat) (d:Tmp),(b.any λe=>Region.binds .any e && e.on==j)=true->(l[j]?).bind Oper.dst=some d->F j (A.tmps.getD d undef) w
 |[],_,_,_,a,_=>by simp at a
 |e::r,hd,j,d,a,hl=>by
  rw[List.any_cons,Bool.or_eq_true] at a;rcases a with a|a
  ·simp only[Bool.and_eq_true,beq_iff_eq] at a;obtain⟨c,rfl⟩:=a;exact dQ hd c hl
  ·exact ab hd.2 j d a hl
theorem uZ{id:Nat}{Q:Exit->Act->World->Prop}{w:World}(F:Nat->Value->World->Prop)(m:P.follows .mixedOrders=true)(h:fq l a0.tmps.size=true)(k:GuardsMet F l)(p:Ext W w)(n:∀c v w f,F c v w->Ext w f->F c v f)
 (j:StepsOk P W a0 F l l 0) (i:∀a w,Known W a0 F l (λe=>decide (e<l.length)) a w->Q .normal a w):(Code.region id l.toArray true).wp P Q a0 w:=by
 refine wp_region_any m ?_;simp only[List.size_toArray];refine Cb n (gY h) k j i l.length _ a0 _ zS (λg=>?_) ?_ ⟨p.drew,rfl,rfl,λe d _ b=>?_,λq _=>rfl⟩
 ·have:l=[]:=dl g;subst this;rfl
 ·rw[Array.toList_replicate,eZ];exact ac _
 ·rw[eD] at b;cases b
end
