import Derived.Lib.IndexMore
import Derived.Deep.Slices
import Derived.ChangeReads
import Derived.DataShut
import Derived.Test.YtlfmlodanoolhaaGreatDoorRows
import Derived.Test.YtlfmlodanoolhaaGreatDoorProg
import Derived.Test.YtlfmlodanoolhaaGreatDoorY1
set_option linter.all false
set_option maxRecDepth 200000
set_option maxHeartbeats 32000000
namespace Go.Proofs.YtlfmlodanoolhaaGreatDoor
open Go Go.RowKit
def wordsL:List (List UInt8):=[[109,111,100,117,108,101],[105,110],[111,117,116],[119,105,114,101],[114,101,103],[99,111,110,115,116],[97,115,115,105,103,110],[99,111,109,98],[111,110],[116,105,99,107],[105,110,115,116],[105,102],[101,108,115,101],[102,111,114],[99,104,101,99,107],[99,97,115,101],[122,101,120,116],[115,101,120,116],[116,114,117,110,99]]
def enc:List (List UInt8)->List UInt8
 |[]=>[32]
 |a::r=>32::(a++enc r)
theorem contains_cons(b:UInt8)(l sub:List UInt8):Lib.contains (b::l) sub=(sub.isPrefixOf (b::l)||Lib.contains l sub):=by
 have e:=Lib.index_ge l sub;unfold Lib.contains;conv=>lhs;unfold Lib.index
 by_cases a:sub.isPrefixOf (b::l)=true
 ·simp[a]
 ·by_cases c:Lib.index l sub= -1
  ·simp[a,c]
  ·have:(Lib.index l sub== -1)=false:=by simpa using c
   simp only[a,this];have d:(0<=Lib.index l sub+1)↔(0<=Lib.index l sub):=by omega
   simp[d]
theorem yD(c:UInt8)(a:List UInt8):Lib.contains [] (c::a)=false:=by simp[Lib.contains,Lib.index]
theorem qW(a b t:List UInt8)(h:(32:UInt8) ∉ a):Lib.contains (a++b) (32::t)=Lib.contains b (32::t):=by
 induction a with
 |nil=>rfl
 |cons c a ih=>
  have d:¬(32:UInt8)=c:=λe=>h (by simp[e])
  have f:(32:UInt8) ∉ a:=λe=>h (by simp[e])
  rw[List.cons_append,contains_cons,ih f];simp[List.isPrefixOf,d]
theorem po:∀(s a:List UInt8) (t:List UInt8),(32:UInt8) ∉ s->(32:UInt8) ∉ a->(s++[32]).isPrefixOf (a++32::t)=(s==a)
 |[],[],t,_,_=>by simp[List.isPrefixOf]
 |[],c::a,t,_,ha=>by
  have d:¬(32:UInt8)=c:=λe=>ha (by simp[e])
  simp[List.isPrefixOf,d]
 |b::s,[],t,hs,_=>by
  have d:¬b=(32:UInt8):=λe=>hs (by simp[e])
  simp[List.isPrefixOf,d]
 |b::s,c::a,t,hs,ha=>by
  have g:=po s a t (λe=>hs (by simp[e])) (λe=>ha (by simp[e]));simp only[List.cons_append,List.isPrefixOf,g];by_cases f:b=c<;>simp[f]
theorem tm(b:List (List UInt8)):∃c,enc b=32::c:=by
 cases b with
 |nil=>exact⟨_,rfl⟩
 |cons a r=>exact⟨_,rfl⟩
theorem nr(s:List UInt8)(c:(32:UInt8) ∉ s):∀a:List (List UInt8),(∀b∈a,(32:UInt8) ∉ b)->Lib.contains (enc a) (32::(s++[32]))=a.contains s
 |[],_=>by
  rw[enc,contains_cons,yD];cases s<;>simp[List.isPrefixOf]
 |b::a,h=>by
  have f:=nr s c a (λx e=>h x (by simp[e]));have ha:=h b zS;obtain⟨g,d⟩:=tm a;rw[enc,contains_cons,qW _ _ _ ha,f];rw[d,List.isPrefixOf,po s b g c ha];rw[List.contains_cons];simp
theorem lC:∀s:List UInt8,Lib.contains s [32]=s.contains 32
 |[]=>by simp[Lib.contains,Lib.index]
 |b::s=>by
  rw[contains_cons,lC s,List.contains_cons];simp[List.isPrefixOf]
theorem ni:∀a∈wordsL,(32:UInt8) ∉ a:=by decide
def hY(s:ByteArray):Bool:=wordsL.contains s.data.toList
theorem uB(s:List UInt8):(s !=[] && (!Lib.contains s [32] && Lib.contains (enc wordsL) (32::(s++[32]))))=wordsL.contains s:=by
 rw[lC];by_cases c:s=[]
 ·subst c;decide
 ·by_cases a:(32:UInt8)∈s
  ·have b:s.contains 32=true:=by simpa using a
   have:wordsL.contains s=false:=by
    cases hw:wordsL.contains s with
    |false=>rfl
    |true=>exact(ni s (by simpa using hw) a).elim
   rw[this,b];simp
  ·have b:s.contains 32=false:=by simpa using a
   rw[b,nr s a wordsL ni];have:(s !=[])=true:=by simpa using c
   rw[this];simp
def nP(c:UInt8):Bool:=decide (97<=c.toNat/\c.toNat<=122\/65<=c.toNat/\c.toNat<=90\/c.toNat=95)
def eQ(i:Nat)(c:UInt8):Bool:=nP c||(decide (i≠0) && decide (48<=c.toNat/\c.toNat<=57))
theorem okAt_iff{i:Nat}{c:UInt8}:eQ i c=true↔((97<=c.toNat/\c.toNat<=122\/65<=c.toNat/\c.toNat<=90\/c.toNat=95)\/i≠0/\48<=c.toNat/\c.toNat<=57):=by
 simp[eQ,nP]
theorem gW{i:Nat}{c:UInt8}(h:¬((97<=c.toNat/\c.toNat<=122\/65<=c.toNat/\c.toNat<=90\/c.toNat=95)\/i≠0/\48<=c.toNat/\c.toNat<=57)):eQ i c=false:=by
 cases e:eQ i c with
 |false=>rfl
 |true=>exact(h (okAt_iff.1 e)).elim
def bf(s:ByteArray):Prop:=1<=s.size/\s.size<=64/\(∀(a:Nat) (b:a<s.size),eQ a s.data[a]=true)/\hY s=false
noncomputable def dL(s:ByteArray):Bool:=@decide (bf s) (Classical.propDecidable _)
theorem nameOk_iff{s:ByteArray}:dL s=true↔bf s:=by simp[dL]
theorem hJ{s:ByteArray}(h:¬bf s):dL s=false:=by simp[dL,h]
def ab{α:Type}(a:α->Nat):List α->Nat
 |[]=>0
 |x::r=>a x+ab a r
def aj{α:Type}(a:α->Nat):List α->Nat
 |[]=>0
 |x::r=>max (a x) (aj a r)
theorem jR{α:Type}(c:α->Nat)(a b:List α):ab c (a++b)=ab c a+ab c b:=by
 induction a with
 |nil=>simp[ab]
 |cons x r ih=>simp only[List.cons_append,ab,ih];omega
theorem qK{α:Type}(c:α->Nat)(a b:List α):aj c (a++b)=max (aj c a) (aj c b):=by
 induction a with
 |nil=>simp[aj]
 |cons x r ih=>simp only[List.cons_append,aj,ih];omega
theorem gM{α:Type}(a:α->Nat)(l:List α)(k:Nat)(h:k<l.length):ab a (l.take (k+1))=ab a (l.take k)+a l[k]:=by
 rw[List.take_succ_eq_append_getElem h,jR];simp[ab]
theorem gL{α:Type}(a:α->Nat)(l:List α)(k:Nat)(h:k<l.length):aj a (l.take (k+1))=max (aj a (l.take k)) (a l[k]):=by
 rw[List.take_succ_eq_append_getElem h,qK];simp[aj]
theorem gJ{α:Type}(a:α->Nat)(l:List α)(k:Nat):ab a (l.take k)<=ab a l:=by
 have:=jR a (l.take k) (l.drop k);rw[List.take_append_drop] at this;omega
theorem aD{α:Type}(a:α->Nat)(l:List α)(x:α)(h:x∈l):a x<=ab a l:=by
 induction l with
 |nil=>cases h
 |cons y r ih=>
  simp only[ab];cases h with
  |head=>omega
  |tail _ ht=>have:=ih ht;omega
theorem eM{α:Type}(a b:α->Nat)(l:List α)(h:∀x,x∈l->a x<=b x):aj a l<=ab b l:=by
 induction l with
 |nil=>simp[aj]
 |cons y r ih=>
  have:=h y (du ..);have:=ih λx c=>h x (cf _ c)
  simp only[aj,ab];omega
theorem aw{α:Type}(a:α->Nat)(l:List α)(h:∀x,1<=a x):l.length<=ab a l:=by
 induction l with
 |nil=>simp
 |cons y r ih=>have:=h y;simp only[ab,List.length_cons];omega
mutual
def am:X->Nat
 |.mk _ _ _ _ _ l=>1+jK l
def jK:List X->Nat
 |[]=>0
 |x::r=>am x+jK r
 end
mutual
def bd:X->Nat
 |.mk _ _ _ _ _ l=>1+jC l
def jC:List X->Nat
 |[]=>0
 |x::r=>max (bd x) (jC r)
 end
theorem wi(l:List X):jK l=ab am l:=by induction l with|nil=>rfl|cons x r ih=>simp[jK,ab,ih]
theorem uM(l:List X):jC l=aj bd l:=by induction l with|nil=>rfl|cons x r ih=>simp[jC,aj,ih]
theorem eC(x:X):am x=1+ab am x.l:=by cases x;rw[am,wi];rfl
theorem ip(x:X):bd x=1+aj bd x.l:=by cases x;rw[bd,uM];rfl
mutual
def aq:S->Nat
 |.mk _ _ x l=>1+ab am x+jJ l
def jJ:List S->Nat
 |[]=>0
 |x::r=>aq x+jJ r
 end
mutual
def cy:S->Nat
 |.mk _ _ x l=>1+max (aj bd x) (jB l)
def jB:List S->Nat
 |[]=>0
 |x::r=>max (cy x) (jB r)
 end
theorem wh(l:List S):jJ l=ab aq l:=by induction l with|nil=>rfl|cons x r ih=>simp[jJ,ab,ih]
theorem uL(l:List S):jB l=aj cy l:=by induction l with|nil=>rfl|cons x r ih=>simp[jB,aj,ih]
theorem bX(x:S):aq x=1+ab am x.x+ab aq x.l:=by cases x;rw[aq,wh];rfl
theorem oL(x:S):cy x=1+max (aj bd x.x) (aj cy x.l):=by cases x;rw[cy,uL];rfl
def az(b:Bnd):Nat:=1+am b.x
def cF(b:Bnd):Nat:=1+bd b.x
def bA(b:Prt):Nat:=1+am b.w
def ff(b:Prt):Nat:=1+bd b.w
mutual
def ai:Itm->Nat
 |.mk _ _ _ x s l els ps bs=>1+ab am x+ab aq s+ia l+ia els+ab az ps+ab az bs
def ia:List Itm->Nat
 |[]=>0
 |x::r=>ai x+ia r
 end
mutual
def bP:Itm->Nat
 |.mk _ _ _ x s l els ps bs=>1+max (max (max (max (max (aj bd x) (aj cy s)) (iG l)) (iG els)) (aj cF ps)) (aj cF bs)
def iG:List Itm->Nat
 |[]=>0
 |x::r=>max (bP x) (iG r)
 end
theorem ma(l:List Itm):ia l=ab ai l:=by induction l with|nil=>rfl|cons x r ih=>simp[ia,ab,ih]
theorem pL(l:List Itm):iG l=aj bP l:=by induction l with|nil=>rfl|cons x r ih=>simp[iG,aj,ih]
theorem bB(x:Itm):ai x=1+ab am x.x+ab aq x.s+ab ai x.l+ab ai x.els+ab az x.params+ab az x.binds:=by cases x;rw[ai,ma,ma];rfl
theorem oK(x:Itm):bP x=1+max (max (max (max (max (aj bd x.x) (aj cy x.s)) (aj bP x.l)) (aj bP x.els)) (aj cF x.params)) (aj cF x.binds):=by cases x;rw[bP,pL,pL];rfl
def ay(m:Mdl):Nat:=1+ab az m.params+ab bA m.ports+ab ai m.items
def dV(m:Mdl):Nat:=1+max (max (aj cF m.params) (aj ff m.ports)) (aj bP m.items)
theorem dh(x:X):1<=am x:=by rw[eC];omega
theorem dg(x:S):1<=aq x:=by rw[bX];omega
theorem dH(x:Bnd):1<=az x:=by unfold az;omega
theorem js(x:Prt):1<=bA x:=by unfold bA;omega
theorem cT(x:Itm):1<=ai x:=by rw[bB];omega
theorem jr(x:Mdl):1<=ay x:=by unfold ay;omega
theorem gn(x:X):bd x<=am x:=by
 induction x using X.ind with
 |h x ih=>have:=eM bd am x.l ih;rw[ip,eC];omega
theorem hA(l:List X):aj bd l<=ab am l:=eM _ _ _ λx _=>gn x
theorem te(x:S):cy x<=aq x:=by
 induction x using S.ind with
 |h x ih=>have:=eM cy aq x.l ih;have:=hA x.x;rw[oL,bX];omega
theorem km(l:List S):aj cy l<=ab aq l:=eM _ _ _ λx _=>te x
theorem ta(x:Bnd):cF x<=az x:=by have:=gn x.x;unfold cF az;omega
theorem gz(l:List Bnd):aj cF l<=ab az l:=eM _ _ _ λx _=>ta x
theorem td(x:Prt):ff x<=bA x:=by have:=gn x.w;unfold ff bA;omega
theorem pM(l:List Prt):aj ff l<=ab bA l:=eM _ _ _ λx _=>td x
theorem tb(x:Itm):bP x<=ai x:=by
 induction x using Itm.ind with
 |h x ih1 ih2=>
  have:=eM bP ai x.l ih1;have:=eM bP ai x.els ih2;have:=hA x.x;have:=km x.s;have:=gz x.params;have:=gz x.binds;rw[oK,bB];omega
theorem jg(l:List Itm):aj bP l<=ab ai l:=eM _ _ _ λx _=>tb x
theorem tc(x:Mdl):dV x<=ay x:=by
 have:=gz x.params;have:=pM x.ports;have:=jg x.items;unfold dV ay;omega
theorem uK(l:List Mdl):aj dV l<=ab ay l:=eM _ _ _ λx _=>tc x
noncomputable def yes(p:Prop):Bool:=@decide p (Classical.propDecidable _)
theorem yes_iff{p:Prop}:yes p=true↔p:=by simp[yes]
theorem yes_no{p:Prop}:yes p=false↔¬p:=by simp[yes]
theorem cU{p a:Prop}(h:p↔a):yes p=yes a:=by
 rw[Bool.eq_iff_iff,yes_iff,yes_iff,h]
def dQ(op:Int):Prop:=op=2\/op=3\/op=4
def en(op:Int)(n:Int):Prop:=(op=1\/op=2)/\n=0\/(op=4\/op=5)/\n=1\/(op=3\/op=6\/op=9\/op=10)/\n=2\/op=7/\n=3\/op=8/\1<=n
def kV(op n:Int):Prop:=op=5/\1<=n/\n<=6\/op=6/\11<=n/\n<=26\/op=10/\31<=n/\n<=33\/(op≠5/\op≠6/\op≠10)/\n=0
def kX(op w v:Int):Prop:=op≠1/\w=0/\v=0\/op=1/\0<=w/\w<=64/\(w=0\/w=64\/v<2 ^ w.toNat)
def jZ(op:Int)(s:ByteArray):Prop:=dQ op/\bf s\/¬dQ op/\s.size=0
def eR(x:X):Prop:=en x.op x.l.length/\kV x.op x.n/\kX x.op x.w x.v/\jZ x.op x.name
inductive MayX:X->Prop
 |mk (x:X) (h:eR x) (hl:∀y,y∈x.l->MayX y):MayX x
theorem MayX_iff{x:X}:MayX x↔eR x/\∀b,b∈x.l->MayX b:=
 ⟨λa=>by cases a with|mk _ a hl=>exact⟨a,hl⟩,λa=>.mk x a.1 a.2⟩
inductive VX:X->Prop
 |mk (x:X) (h:0<=x.v) (h2:x.v<18446744073709551616) (hs:x.name.size<4294967281) (hl:∀y,y∈x.l->VX y):VX x
theorem VX_iff{x:X}:VX x↔0<=x.v/\x.v<18446744073709551616/\x.name.size<4294967281/\∀e,e∈x.l->VX e:=
 ⟨λa=>by cases a with|mk _ a b d c=>exact⟨a,b,d,c⟩,λ⟨a,b,d,c⟩=>.mk x a b d c⟩
inductive VS:S->Prop
 |mk (x:S) (hs:x.name.size<4294967281) (hx:∀y,y∈x.x->VX y) (hl:∀y,y∈x.l->VS y):VS x
theorem VS_iff{x:S}:VS x↔x.name.size<4294967281/\(∀a,a∈x.x->VX a)/\∀a,a∈x.l->VS a:=
 ⟨λe=>by cases e with|mk _ c d b=>exact⟨c,d,b⟩,λ⟨c,d,b⟩=>.mk x c d b⟩
def tH(x:X):Prop:=dQ x.op
def fa:List X->Prop
 |[]=>False
 |x::_=>tH x
def cD(l:List S)(k:Nat):Int:=match l[k]? with|some s=>s.op|none=>0
mutual
inductive MayS:S->Prop
 |assign (s:S) (h:s.op=1) (hx:∀y,y∈s.x->MayX y) (hn:s.name.size=0) (h2:s.x.length=2) (ht:fa s.x) (hl:s.l.length=0):MayS s
 |if_ (s:S) (h:s.op=2) (hx:∀y,y∈s.x->MayX y) (hn:s.name.size=0) (h1:s.x.length=1) (h2:s.l.length=2) (h3:cD s.l 0=5) (h4:cD s.l 1=5\/cD s.l 1=2) (hl:∀y,y∈s.l->MayS y):MayS s
 |case_ (s:S) (h:s.op=3) (hx:∀y,y∈s.x->MayX y) (hn:s.name.size=0) (h1:s.x.length=1) (h2:1<=s.l.length) (hl:∀(i:Nat) (hi:i<s.l.length),MayArm (i+1=s.l.length) s.l[i]):MayS s
 |block (s:S) (h:s.op=5) (hn:s.name.size=0) (h0:s.x.length=0) (hl:∀y,y∈s.l->MayS y):MayS s
 |for_ (s:S) (h:s.op=6) (hx:∀y,y∈s.x->MayX y) (hn:bf s.name) (h2:s.x.length=2) (hl:∀y,y∈s.l->MayS y):MayS s
inductive MayArm:Prop->S->Prop
 |mk (p:Prop) (s:S) (h:s.op=4) (hn:s.name.size=0) (he:s.x.length=0↔p) (hx:∀y,y∈s.x->MayX y) (hl:∀y,y∈s.l->MayS y):MayArm p s
end
theorem MayArm_iff{p:Prop}{s:S}:MayArm p s↔s.op=4/\s.name.size=0/\(s.x.length=0↔p)/\(∀b,b∈s.x->MayX b)/\(∀b,b∈s.l->MayS b):=
 ⟨λa=>by cases a with|mk _ _ a e c f d=>exact⟨a,e,c,f,d⟩,λ⟨a,e,c,f,d⟩=>.mk p s a e c f d⟩
def ea(l:List S):Prop:=1<=l.length/\∀(a:Nat) (hi:a<l.length),MayArm (a+1=l.length) l[a]
def dW(l:List S):Prop:=∀a,a∈l->MayS a
def eE(l:List X):Prop:=∀a,a∈l->MayX a
theorem MayS_iff{s:S}:MayS s↔eE s.x/\(s.op≠6/\s.name.size=0\/s.op=6/\bf s.name)/\
 (s.op=1/\s.x.length=2/\fa s.x/\s.l.length=0\/s.op=2/\s.x.length=1/\s.l.length=2/\cD s.l 0=5/\(cD s.l 1=5\/cD s.l 1=2)/\dW s.l\/
   s.op=3/\s.x.length=1/\ea s.l\/s.op=5/\s.x.length=0/\dW s.l\/s.op=6/\s.x.length=2/\dW s.l):=by
 constructor
 ·intro a;cases a with
  |assign _ a e d c j b=>exact⟨e,.inl ⟨zO,d⟩,.inl ⟨a,c,j,b⟩⟩
  |if_ _ a e d f c h i b=>exact⟨e,.inl ⟨zO,d⟩,.inr (.inl ⟨a,f,c,h,i,b⟩)⟩
  |case_ _ a e d f c b=>exact⟨e,.inl ⟨zO,d⟩,.inr (.inr (.inl ⟨a,f,c,b⟩))⟩
  |block _ a d g b=>exact⟨λm k=>(by rw[List.eq_nil_of_length_eq_zero g] at k;cases k),.inl ⟨zO,d⟩,.inr (.inr (.inr (.inl ⟨a,g,b⟩)))⟩
  |for_ _ a e d c b=>exact⟨e,.inr ⟨a,d⟩,.inr (.inr (.inr (.inr ⟨a,c,b⟩)))⟩
 ·rintro⟨e,d,a⟩;rcases a with⟨a,c,j,b⟩|⟨a,f,c,h,i,b⟩|⟨a,f,c,b⟩|⟨a,g,b⟩|⟨a,c,b⟩
  ·exact .assign s a e zO c j b
  ·exact .if_ s a e zO f c h i b
  ·exact .case_ s a e zO f c b
  ·exact .block s a zO g b
  ·exact .for_ s a e (by rcases d with d|d;exact(d.1 a).elim;exact d.2) c b
def bZ(b:Bnd):Prop:=bf b.name/\MayX b.x
def fK(p:Prt):Prop:=bf p.name/\MayX p.w
def cG(p:Prop)(s:ByteArray):Prop:=p/\bf s\/¬p/\s.size=0
def la(op:Int):Nat:=if op=3\/op=4\/op=9 then 2 else if op=5\/op=6\/op=7 then 0 else 1
def fp(x:Itm):Prop:=1<=x.op/\x.op<=10/\cG (x.op≠4/\x.op≠5/\x.op≠6/\x.op≠8) x.name/\cG (x.op=7\/x.op=9) x.of/\x.x.length=la x.op/\(x.op=4->fa x.x)/\
 (x.op=5\/x.op=6\/x.s.length=0)/\(x.op=8\/x.op=9\/x.l.length=0)/\(x.op=8\/x.els.length=0)/\(x.op=7\/x.params.length=0/\x.binds.length=0)
inductive MayI:Itm->Prop
 |mk (x:Itm) (h:fp x) (hx:eE x.x) (hs:dW x.s) (hl:∀y,y∈x.l->MayI y) (he:∀y,y∈x.els->MayI y) (hp:∀y,y∈x.params->bZ y) (hb:∀y,y∈x.binds->bZ y):MayI x
theorem MayI_iff{x:Itm}:MayI x↔fp x/\eE x.x/\dW x.s/\(∀a,a∈x.l->MayI a)/\(∀a,a∈x.els->MayI a)/\(∀a,a∈x.params->bZ a)/\(∀a,a∈x.binds->bZ a):=
 ⟨λb=>by cases b with|mk _ b h g e d f c=>exact⟨b,h,g,e,d,f,c⟩,λ⟨b,h,g,e,d,f,c⟩=>.mk x b h g e d f c⟩
def dk(m:Mdl):Prop:=bf m.name/\(∀a,a∈m.params->bZ a)/\(∀a,a∈m.ports->fK a)/\(∀a,a∈m.items->MayI a)
theorem ju(w:World)(b:Value)(t:TypeId):∃(a:World) (c:Later a),w.alloc (.cells #[b] t)=c.w/\Ext w a/\a.heap.size=w.heap.size+1/\(∀e:Later a,e.w.cell? ⟨w.heap.size,0,none⟩=some b):=
 ⟨w.alloc (.cells #[b] t),⟨_,ah _⟩,rfl,ax _ _,zS,λe=>((ar w t [b]).ext e.ext).cell 0⟩
theorem pW(w:World)(b c:Value)(t:TypeId):∃(a:World) (d:Later a),w.alloc (.cells #[b,c] t)=d.w/\Ext w a/\a.heap.size=w.heap.size+1/\(∀e:Later a,e.w.cell? ⟨w.heap.size,0,none⟩=some b)/\(∀e:Later a,e.w.cell? ⟨w.heap.size,1,none⟩=some c):=
 ⟨w.alloc (.cells #[b,c] t),⟨_,ah _⟩,rfl,ax _ _,zS,λe=>((ar w t [b,c]).ext e.ext).cell 0,λe=>((ar w t [b,c]).ext e.ext).cell 1⟩
theorem pX(w:World)(b c d:Value)(t:TypeId):∃(a:World) (f:Later a),w.alloc (.cells #[b,c,d] t)=f.w/\Ext w a/\a.heap.size=w.heap.size+1/\(∀e:Later a,e.w.cell? ⟨w.heap.size,0,none⟩=some b)/\(∀e:Later a,e.w.cell? ⟨w.heap.size,1,none⟩=some c)/\(∀e:Later a,e.w.cell? ⟨w.heap.size,2,none⟩=some d):=
 ⟨w.alloc (.cells #[b,c,d] t),⟨_,ah _⟩,rfl,ax _ _,zS,λe=>((ar w t [b,c,d]).ext e.ext).cell 0,λe=>((ar w t [b,c,d]).ext e.ext).cell 1,λe=>((ar w t [b,c,d]).ext e.ext).cell 2⟩
theorem eg(w:World)(b c d f:Value)(t:TypeId):∃(a:World) (g:Later a),w.alloc (.cells #[b,c,d,f] t)=g.w/\Ext w a/\a.heap.size=w.heap.size+1/\(∀e:Later a,e.w.cell? ⟨w.heap.size,0,none⟩=some b)/\(∀e:Later a,e.w.cell? ⟨w.heap.size,1,none⟩=some c)/\(∀e:Later a,e.w.cell? ⟨w.heap.size,2,none⟩=some d)/\(∀e:Later a,e.w.cell? ⟨w.heap.size,3,none⟩=some f):=
 ⟨w.alloc (.cells #[b,c,d,f] t),⟨_,ah _⟩,rfl,ax _ _,zS,λe=>((ar w t [b,c,d,f]).ext e.ext).cell 0,λe=>((ar w t [b,c,d,f]).ext e.ext).cell 1,λe=>((ar w t [b,c,d,f]).ext e.ext).cell 2,λe=>((ar w t [b,c,d,f]).ext e.ext).cell 3⟩
theorem lM(w:World)(b c d f g:Value)(t:TypeId):∃(a:World) (h:Later a),w.alloc (.cells #[b,c,d,f,g] t)=h.w/\Ext w a/\a.heap.size=w.heap.size+1/\(∀e:Later a,e.w.cell? ⟨w.heap.size,0,none⟩=some b)/\(∀e:Later a,e.w.cell? ⟨w.heap.size,1,none⟩=some c)/\(∀e:Later a,e.w.cell? ⟨w.heap.size,2,none⟩=some d)/\(∀e:Later a,e.w.cell? ⟨w.heap.size,3,none⟩=some f)/\(∀e:Later a,e.w.cell? ⟨w.heap.size,4,none⟩=some g):=
 ⟨w.alloc (.cells #[b,c,d,f,g] t),⟨_,ah _⟩,rfl,ax _ _,zS,λe=>((ar w t [b,c,d,f,g]).ext e.ext).cell 0,λe=>((ar w t [b,c,d,f,g]).ext e.ext).cell 1,λe=>((ar w t [b,c,d,f,g]).ext e.ext).cell 2,λe=>((ar w t [b,c,d,f,g]).ext e.ext).cell 3,λe=>((ar w t [b,c,d,f,g]).ext e.ext).cell 4⟩
theorem cp(w:World)(b c d f g h:Value)(t:TypeId):∃(a:World) (i:Later a),w.alloc (.cells #[b,c,d,f,g,h] t)=i.w/\Ext w a/\a.heap.size=w.heap.size+1/\(∀e:Later a,e.w.cell? ⟨w.heap.size,0,none⟩=some b)/\(∀e:Later a,e.w.cell? ⟨w.heap.size,1,none⟩=some c)/\(∀e:Later a,e.w.cell? ⟨w.heap.size,2,none⟩=some d)/\(∀e:Later a,e.w.cell? ⟨w.heap.size,3,none⟩=some f)/\(∀e:Later a,e.w.cell? ⟨w.heap.size,4,none⟩=some g)/\(∀e:Later a,e.w.cell? ⟨w.heap.size,5,none⟩=some h):=
 ⟨w.alloc (.cells #[b,c,d,f,g,h] t),⟨_,ah _⟩,rfl,ax _ _,zS,λe=>((ar w t [b,c,d,f,g,h]).ext e.ext).cell 0,λe=>((ar w t [b,c,d,f,g,h]).ext e.ext).cell 1,λe=>((ar w t [b,c,d,f,g,h]).ext e.ext).cell 2,λe=>((ar w t [b,c,d,f,g,h]).ext e.ext).cell 3,λe=>((ar w t [b,c,d,f,g,h]).ext e.ext).cell 4,λe=>((ar w t [b,c,d,f,g,h]).ext e.ext).cell 5⟩
theorem jv(w:World)(b c d f g h i:Value)(t:TypeId):∃(a:World) (j:Later a),w.alloc (.cells #[b,c,d,f,g,h,i] t)=j.w/\Ext w a/\a.heap.size=w.heap.size+1/\(∀e:Later a,e.w.cell? ⟨w.heap.size,0,none⟩=some b)/\(∀e:Later a,e.w.cell? ⟨w.heap.size,1,none⟩=some c)/\(∀e:Later a,e.w.cell? ⟨w.heap.size,2,none⟩=some d)/\(∀e:Later a,e.w.cell? ⟨w.heap.size,3,none⟩=some f)/\(∀e:Later a,e.w.cell? ⟨w.heap.size,4,none⟩=some g)/\(∀e:Later a,e.w.cell? ⟨w.heap.size,5,none⟩=some h)/\(∀e:Later a,e.w.cell? ⟨w.heap.size,6,none⟩=some i):=
 ⟨w.alloc (.cells #[b,c,d,f,g,h,i] t),⟨_,ah _⟩,rfl,ax _ _,zS,λe=>((ar w t [b,c,d,f,g,h,i]).ext e.ext).cell 0,λe=>((ar w t [b,c,d,f,g,h,i]).ext e.ext).cell 1,λe=>((ar w t [b,c,d,f,g,h,i]).ext e.ext).cell 2,λe=>((ar w t [b,c,d,f,g,h,i]).ext e.ext).cell 3,λe=>((ar w t [b,c,d,f,g,h,i]).ext e.ext).cell 4,λe=>((ar w t [b,c,d,f,g,h,i]).ext e.ext).cell 5,λe=>((ar w t [b,c,d,f,g,h,i]).ext e.ext).cell 6⟩
theorem pY(w:World)(b c d f g h i j:Value)(t:TypeId):∃(a:World) (k:Later a),w.alloc (.cells #[b,c,d,f,g,h,i,j] t)=k.w/\Ext w a/\a.heap.size=w.heap.size+1/\(∀e:Later a,e.w.cell? ⟨w.heap.size,0,none⟩=some b)/\(∀e:Later a,e.w.cell? ⟨w.heap.size,1,none⟩=some c)/\(∀e:Later a,e.w.cell? ⟨w.heap.size,2,none⟩=some d)/\(∀e:Later a,e.w.cell? ⟨w.heap.size,3,none⟩=some f)/\(∀e:Later a,e.w.cell? ⟨w.heap.size,4,none⟩=some g)/\(∀e:Later a,e.w.cell? ⟨w.heap.size,5,none⟩=some h)/\(∀e:Later a,e.w.cell? ⟨w.heap.size,6,none⟩=some i)/\(∀e:Later a,e.w.cell? ⟨w.heap.size,7,none⟩=some j):=
 ⟨w.alloc (.cells #[b,c,d,f,g,h,i,j] t),⟨_,ah _⟩,rfl,ax _ _,zS,λe=>((ar w t [b,c,d,f,g,h,i,j]).ext e.ext).cell 0,λe=>((ar w t [b,c,d,f,g,h,i,j]).ext e.ext).cell 1,λe=>((ar w t [b,c,d,f,g,h,i,j]).ext e.ext).cell 2,λe=>((ar w t [b,c,d,f,g,h,i,j]).ext e.ext).cell 3,λe=>((ar w t [b,c,d,f,g,h,i,j]).ext e.ext).cell 4,λe=>((ar w t [b,c,d,f,g,h,i,j]).ext e.ext).cell 5,λe=>((ar w t [b,c,d,f,g,h,i,j]).ext e.ext).cell 6,λe=>((ar w t [b,c,d,f,g,h,i,j]).ext e.ext).cell 7⟩
theorem iz(w:World)(b c d f g h i j k:Value)(t:TypeId):∃(a:World) (m:Later a),w.alloc (.cells #[b,c,d,f,g,h,i,j,k] t)=m.w/\Ext w a/\a.heap.size=w.heap.size+1/\(∀e:Later a,e.w.cell? ⟨w.heap.size,0,none⟩=some b)/\(∀e:Later a,e.w.cell? ⟨w.heap.size,1,none⟩=some c)/\(∀e:Later a,e.w.cell? ⟨w.heap.size,2,none⟩=some d)/\(∀e:Later a,e.w.cell? ⟨w.heap.size,3,none⟩=some f)/\(∀e:Later a,e.w.cell? ⟨w.heap.size,4,none⟩=some g)/\(∀e:Later a,e.w.cell? ⟨w.heap.size,5,none⟩=some h)/\(∀e:Later a,e.w.cell? ⟨w.heap.size,6,none⟩=some i)/\(∀e:Later a,e.w.cell? ⟨w.heap.size,7,none⟩=some j)/\(∀e:Later a,e.w.cell? ⟨w.heap.size,8,none⟩=some k):=
 ⟨w.alloc (.cells #[b,c,d,f,g,h,i,j,k] t),⟨_,ah _⟩,rfl,ax _ _,zS,λe=>((ar w t [b,c,d,f,g,h,i,j,k]).ext e.ext).cell 0,λe=>((ar w t [b,c,d,f,g,h,i,j,k]).ext e.ext).cell 1,λe=>((ar w t [b,c,d,f,g,h,i,j,k]).ext e.ext).cell 2,λe=>((ar w t [b,c,d,f,g,h,i,j,k]).ext e.ext).cell 3,λe=>((ar w t [b,c,d,f,g,h,i,j,k]).ext e.ext).cell 4,λe=>((ar w t [b,c,d,f,g,h,i,j,k]).ext e.ext).cell 5,λe=>((ar w t [b,c,d,f,g,h,i,j,k]).ext e.ext).cell 6,λe=>((ar w t [b,c,d,f,g,h,i,j,k]).ext e.ext).cell 7,λe=>((ar w t [b,c,d,f,g,h,i,j,k]).ext e.ext).cell 8⟩
def Later.under{W a:World}(e:Later a)(h:Ext W a):Later W:=⟨e.w,h.trans e.ext⟩
def ECalls(P:Program)(f:FuncId)(args:Array Value)(W:World)(v:Value):Prop:=∀w,Ext W w->Calls P f args w λx a=>x=.returned v/\Ext w a
theorem ECalls.still{P:Program}{f:FuncId}{args:Array Value}{W:World}{v:Value}(h:∀w,Ext W w->Calls P f args w λx d=>x=.returned v/\d=w):ECalls P f args W v:=
 λw c=>(h w c).mono λx e ⟨a,b⟩=>⟨a,by rw[b];exact ah _⟩
theorem ECalls.later{P:Program}{f:FuncId}{args:Array Value}{W a:World}{v:Value}(h:ECalls P f args W v)(c:Ext W a):ECalls P f args a v:=
 λw b=>h w (c.trans b)
theorem ECalls.at_{P:Program}{f:FuncId}{args:Array Value}{W:World}{v:Value}(h:ECalls P f args W v)(e:Later W):Calls P f args e.w λx b=>x=.returned v/\∃a:Later W,b=a.w:=
 bQ (h e.w e.ext)
theorem ak{W a:World}{p:Addr}{v:Value}(h:∀e:Later W,e.w.cell? p=some v)(b:Ext W a):∀e:Later a,e.w.cell? p=some v:=λe=>h (e.under b)
theorem cellAt{W:World}{p:Addr}{v:Value}(h:W.cell? p=some v):∀e:Later W,e.w.cell? p=some v:=λe=>e.ext.at_ h
theorem gZ(p a:Prop):yes (p/\a)=(yes p && yes a):=by rw[Bool.eq_iff_iff,yes_iff,Bool.and_eq_true,yes_iff,yes_iff]
theorem hQ(s:ByteArray):yes (bf s)=dL s:=by rw[Bool.eq_iff_iff,yes_iff,nameOk_iff]
def VB(b:Bnd):Prop:=b.name.size<4294967281/\VX b.x
def VP(b:Prt):Prop:=b.name.size<4294967281/\VX b.w
inductive VI:Itm->Prop
 |mk (x:Itm) (hn:x.name.size<4294967281) (ho:x.of.size<4294967281) (hx:∀y,y∈x.x->VX y) (hs:∀y,y∈x.s->VS y) (hl:∀y,y∈x.l->VI y) (he:∀y,y∈x.els->VI y) (hp:∀y,y∈x.params->VB y) (hb:∀y,y∈x.binds->VB y):VI x
theorem VI_iff{x:Itm}:VI x↔x.name.size<4294967281/\x.of.size<4294967281/\(∀a,a∈x.x->VX a)/\(∀a,a∈x.s->VS a)/\(∀a,a∈x.l->VI a)/\(∀a,a∈x.els->VI a)/\(∀a,a∈x.params->VB a)/\(∀a,a∈x.binds->VB a):=
 ⟨λj=>by cases j with|mk _ e f i h d c g b=>exact⟨e,f,i,h,d,c,g,b⟩,λ⟨e,f,i,h,d,c,g,b⟩=>.mk x e f i h d c g b⟩
def VM(m:Mdl):Prop:=m.name.size<4294967281/\(∀a,a∈m.params->VB a)/\(∀a,a∈m.ports->VP a)/\(∀a,a∈m.items->VI a)
def ic(l:List Oper)(o:Oper):Bool:=
 o.guard.isNone && (List.range l.length).all (λa=>o.after.any λe=>Region.binds .any e && e.on==a) && o.after.all (λe=>!Region.binds .any e||decide (e.on<l.length)) &&
  (List.range l.length).all (λa=>match l[a]? with
    |some x=>x.after.all (λe=>!Region.binds .any e||decide (e.on<a)) && (match x.guard with|none=>true|some (j,_)=>decide (j<l.length))
    |none=>true)
section
variable {P : Program} {l : List Oper} {o : Oper}
structure TailFacts(l:List Oper)(o:Oper):Prop where
 guard:o.guard=none
 waits:∀i,i<l.length->∃e∈o.after,Region.binds .any e=true/\e.on=i
 last:∀e∈o.after,Region.binds .any e=true->e.on<l.length
 order:∀(i:Nat) (x:Oper),l[i]? =some x->∀e∈x.after,Region.binds .any e=true->e.on<i
 guards:∀(i:Nat) (x:Oper),l[i]? =some x->∀j b,x.guard=some (j,b)->j<l.length
theorem nx(h:ic l o=true):TailFacts l o:=by
 simp only[ic,Bool.and_eq_true,List.all_eq_true,List.mem_range,Array.all_eq_true_iff_forall_mem,Bool.or_eq_true,Bool.not_eq_true',decide_eq_true_eq] at h;obtain⟨⟨⟨g,i⟩,j⟩,f⟩:=h;have lt:∀{b:Nat} {x:Oper},l[b]? =some x->b<l.length:=λhi=>(y2c.1 hi).1
 refine⟨by simpa using g,λb hi=>?_,λe c a=>?_,λb x d e c a=>?_,λb x d n m k=>?_⟩
 ·obtain⟨e,c,a⟩:=Array.any_eq_true'.1 (i b hi);simp only[Bool.and_eq_true,beq_iff_eq] at a;exact⟨e,c,a.1,a.2⟩
 ·rcases j e c with h|h
  ·rw[h] at a;cases a
  ·exact h
 ·have:=f b (lt d);simp only[d,Bool.and_eq_true,Array.all_eq_true_iff_forall_mem,Bool.or_eq_true,Bool.not_eq_true',decide_eq_true_eq] at this;rcases this.1 e c with h|h
  ·rw[h] at a;cases a
  ·exact h
 ·have:=f b (lt d);simp only[d,Bool.and_eq_true,k,decide_eq_true_eq] at this;exact this.2
theorem dG{listed:Array Bool}{j:Nat}(d:Bool)(h:j<listed.size):(listed.push false).getD j d=listed.getD j d:=by
 simp[Array.getElem?_push_lt h,h]
theorem gU{i:Nat}(h:i<l.length):(l++[o]).toArray[i]? =l.toArray[i]? :=by
 simp[List.getElem?_append_left h]
theorem jT(T:TailFacts l o){listed:Array Bool}(g:listed.size=l.length){i:Nat}(hi:i<l.length):
 i∈Region.ready .any (l++[o]).toArray (listed.push false)↔i∈Region.ready .any l.toArray listed:=by
 rw[mem_ready,mem_ready,dG true zO,gU hi];constructor
 ·rintro⟨d,x,c,f⟩;refine⟨d,x,c,λe b a=>?_⟩;have:=T.order i x (by simpa using c) e b a;rw[<-dG false zO];exact f e b a
 ·rintro⟨d,x,c,f⟩;refine⟨d,x,c,λe b a=>?_⟩;have:=T.order i x (by simpa using c) e b a;rw[dG false zO];exact f e b a
theorem mo(T:TailFacts l o){listed:Array Bool}(i:listed.size=l.length)(h:Region.ready .any l.toArray listed=[]):∀n a,a<n->a<l.length->listed.getD a true=true:=by
 intro n;induction n with
 |zero=>intro a hi;omega
 |succ n ih=>
  intro a f hi;cases hl:listed.getD a true with
  |true=>rfl
  |false=>
   have:a∈Region.ready .any l.toArray listed:=mem_ready.2 ⟨hl,l[a],by simp[List.getElem?_eq_getElem hi],λe c b=>by
    have g:=T.order a l[a] (dT hi) e c b;have:=ih e.on zO zO;have d:e.on<listed.size:=by omega
    simpa [d] using this⟩
   rw[h] at this;cases this
theorem kG(T:TailFacts l o){listed:Array Bool}(i:listed.size=l.length):
 l.length∈Region.ready .any (l++[o]).toArray (listed.push false)↔Region.ready .any l.toArray listed=[]:=by
 constructor
 ·intro a;obtain⟨_,x,m,j⟩:=mem_ready.1 a;have n:x=o:=by simpa using m.symm
  subst n;rw[List.eq_nil_iff_forall_not_mem];intro g hi;obtain⟨h,q,p,_⟩:=mem_ready.1 hi;have d:g<l.length:=by
   have:=(y1w.1 p).1;simpa using this
  obtain⟨e,c,b,k⟩:=T.waits g d;have:=j e c b;rw[k,dG false zO] at this;have f:g<listed.size:=by omega
  simp[f] at h this;rw[h] at this;cases this
 ·intro a;refine mem_ready.2 ⟨?_,o,zS,λe c b=>?_⟩
  ·rw[<-i];simp
  ·have d:=T.last e c b;have:=mo T i a (e.on+1) e.on zO d;rw[dG false zO];have f:e.on<listed.size:=by omega
   simpa [f] using this
theorem eX{ops:Array Oper}{listed:Array Bool}{i:Nat}(h:i∈Region.ready .any ops listed):i<ops.size:=by
 obtain⟨_,b,a,_⟩:=mem_ready.1 h;exact(y1w.1 a).1
def oE(P:Program)(o:Oper)(Q:Exit->Act->World->Prop):Exit->Act->World->Prop
 |.normal,a,w=>o.wp P a w (λa w=>Q .normal a w) Q
 |e,a,w=>Q e a w
theorem Oper.wp_tail{x:Oper}{a:Act}{w:World}{b:Act->World->Prop}{Q:Exit->Act->World->Prop}(h:x.wp P a w b (oE P o Q)):x.wp P a w b Q:=by
 unfold Oper.wp at*;generalize (execOp a.eval x).run P w=r at*;cases r with
 |ok n w'=>
  cases n<;>simp only[Oper.upon] at h⊢<;>
   first
    |exact h
    |exact Calls.mono h (λe d c=>by cases e<;>exact c)
    |exact h.elim
 |halt y w'=>cases y<;>simp only[Oper.upon] at h⊢<;>exact h
theorem mU(T:TailFacts l o){Q:Exit->Act->World->Prop}:∀(e:Nat) (listed:Array Bool) (a:Act) (w:World),listed.size=l.length->
 wpAny P .any l.toArray (oE P o Q) e listed a w->wpAny P .any (l++[o]).toArray Q (e+1) (listed.push false) a w:=by
 have s:∀(e:Nat) (listed:Array Bool) (a:Act) (w:World),listed.size=l.length->Region.ready .any l.toArray listed=[]->o.wp P a w (λa w=>Q .normal a w) Q->
  wpOp P (l++[o]).toArray Q l.length (wpAny P .any (l++[o]).toArray Q e ((listed.push false).setIfInBounds l.length true)) a w:=by
  intro e listed a w d k f;have t:Region.ready .any (l++[o]).toArray ((listed.push false).setIfInBounds l.length true)=[]:=by
   rw[List.eq_nil_iff_forall_not_mem];intro b hi;obtain⟨h,E,u,D⟩:=mem_ready.1 hi;have i:=eX hi;simp only[List.size_toArray,List.length_append,List.length_cons,List.length_nil] at i;by_cases j:b=l.length
   ·subst j;simp[d] at h
   ·rw[getD_set_ne true (Ne.symm j),dG true zO] at h;have:=mo T d k (b+1) b zO zO;rw[h] at this;cases this
  unfold wpOp;simp only[List.getElem?_toArray,List.getElem?_append_right (Nat.le_refl _),Nat.sub_self,List.getElem?_cons_zero];rw[if_pos (by simp[Region.wanted,T.guard])];refine .inl (Oper.wp_mono (λr v n=>?_) f);cases e with
  |zero=>exact⟨t,n⟩
  |succ e=>exact⟨λ_=>n,λb hi=>by rw[t] at hi;cases hi⟩
 intro e;induction e with
 |zero=>
  intro listed a w d f;refine⟨λh=>?_,λb hi=>?_⟩
  ·have:=(kG T d).2 f.1;rw[h] at this;cases this
  ·have i:=eX hi;simp only[List.size_toArray,List.length_append,List.length_cons,List.length_nil] at i;by_cases j:b=l.length
   ·subst j;exact s 0 listed a w d f.1 f.2
   ·have:=(jT T d zO).1 hi;rw[f.1] at this;cases this
 |succ e ih=>
  intro listed a w d f;refine⟨λh=>?_,λb hi=>?_⟩
  ·have k:Region.ready .any l.toArray listed=[]:=by
    rw[List.eq_nil_iff_forall_not_mem];intro b hi;have i:=eX hi;have:=(jT T d (by simpa using i)).2 hi;rw[h] at this;cases this
   have:=(kG T d).2 k;rw[h] at this;cases this
  ·have i:=eX hi;simp only[List.size_toArray,List.length_append,List.length_cons,List.length_nil] at i;by_cases j:b=l.length
   ·subst j;have k:=(kG T d).1 hi;exact s (e+1) listed a w d k (f.1 k)
   ·have m:b<l.length:=by omega
    have y:=(jT T d m).1 hi;have c:=f.2 b y;have B:(listed.push false).setIfInBounds b true=(listed.setIfInBounds b true).push false:=by
     apply Array.ext_getElem?;intro q;simp only[Array.getElem?_setIfInBounds,Array.getElem?_push,Array.size_setIfInBounds,Array.size_push];by_cases c:b=q
     ·subst c;rw[if_pos rfl,if_pos zO,if_neg zO,if_pos rfl,if_pos zO]
     ·rw[if_neg c,if_neg c]
    rw[B];unfold wpOp at c⊢;rw[gU m];simp only[List.getElem?_toArray,List.getElem?_eq_getElem m] at c⊢;have u:Region.wanted l[b] (yielded (l++[o]).toArray a.tmps)=Region.wanted l[b] (yielded l.toArray a.tmps):=by
     unfold Region.wanted;cases hg:l[b].guard with
     |none=>rfl
     |some g=>
      obtain⟨q,x⟩:=g;have z:=T.guards b l[b] (dT m) q x hg;simp only[yielded,gU z]
    rw[u];split
    ·rename_i p
     rw[if_pos p] at c;rcases c with c|⟨c,a0,C,n⟩
     ·exact .inl (Oper.wp_mono (λr v A=>ih _ r v (by simpa using d) A) (Oper.wp_tail c))
     ·exact .inr ⟨c,a0,C,n⟩
    ·rename_i p
     rw[if_neg p] at c;exact ih _ _ _ (by simpa using d) c
theorem jU{ops:Array Oper}{C:World->Prop}{Q d:Act->Prop}(b:∀a,Q a->d a):∀(l:List Oper) (a:Act),wpQuiet P ops C Q l a->wpQuiet P ops C d l a
 |[],_,h=>b _ h
 |x::r,a,h=>by
  unfold wpQuiet at h⊢;split
  ·rename_i c;rw[if_pos c] at h
   exact Oper.quiet_mono (λe=>jU b r e) h
  ·rename_i c;rw[if_neg c] at h
   exact jU b r _ h
theorem pT{id:Nat}{Q:Exit->Act->World->Prop}{a:Act}{w W:World}(l:List Oper)(o:Oper)(g:P.follows .mixedOrders=true)(d:Region.lexB .any l.toArray=true)(f:ic l o=true)(j:Ext W w)
 (h:wpQuiet P l.toArray (λb=>∃e:Later W,b=e.w) (λc=>∀b,(∃e:Later W,b=e.w)->o.wp P c b (λa w=>Q .normal a w) Q) l a):(Code.region id (l++[o]).toArray true).wp P Q a w:=by
 refine wp_region_any g ?_;have m:(Array.replicate (l++[o]).toArray.size false)=(Array.replicate l.length false).push false:=by
  simp[Array.replicate_succ]
 rw[m];have i:(l++[o]).toArray.size=l.length+1:=by simp
 rw[i];refine mU (nx f) l.length _ a _ zS ?_;simp only[Region.lexB,Bool.and_eq_true] at d;refine wpAny_of_quiet (C:=λb=>∃e:Later W,b=e.w) (Q:=λc=>∀b,(∃e:Later W,b=e.w)->o.wp P c b (λa w=>Q .normal a w) Q) (λ_ b k h=>h b k) _ _ _ _ (ae j.drew) ?_;exact wpAnyQ_lex (C:=λb=>∃e:Later W,b=e.w) (md:=.any) d.1 l 0 (Array.replicate l.length false) a zS (by simpa using d.2) h
theorem eN{id:Nat}{Q:Exit->Act->World->Prop}{a:Act}{w W:World}{l:List Oper}{o:Oper}(j:P.follows .mixedOrders=true)(c:l.reverse.head? =some o)(f:Region.lexB .any l.dropLast.toArray=true)(g:ic l.dropLast o=true)(k:Ext W w)
 (h:wpQuiet P l.dropLast.toArray (λd=>∃e:Later W,d=e.w) (λb=>∀e:Later W,o.wp P b e.w (λa w=>Q .normal a w) Q) l.dropLast a):(Code.region id l.toArray true).wp P Q a w:=by
 have i:l=l.dropLast++[o]:=by
  rw[List.head?_reverse,List.getLast?_eq_some_iff] at c;obtain⟨n,rfl⟩:=c;simp
 have:=pT (id:=id) (Q:=Q) (a:=a) (w:=w) (W:=W) l.dropLast o j f g k ?_
 ·rwa[<-i] at this
 ·refine jU (λb h d m=>?_) _ _ h;obtain⟨e,rfl⟩:=m;exact h e
end
section
variable {H : Type} {enc : TypeId × Value → H} {w : World} {spare : Nat → Bool} {held : Bool}
end
theorem nI{α:Type}{l:List α}(h:l.length=7):∃a b c d e f g,l=[a,b,c,d,e,f,g]:=by
 match l,h with
 |[a,b,c,d,e,f,g],_=>exact⟨_,_,_,_,_,_,_,rfl⟩
theorem lN:Tryz.prog.cellsOf 3=1:=by kernel_rfl
theorem nL:Tryz.prog.cellsOf 4=1:=by kernel_rfl
section
variable {H : Type} {enc : TypeId × Value → H} {w : World} {spare : Nat → Bool} {held : Bool}
end
def eb(F:Nat->Value->World->Prop)(l:List Oper)(A:Act)(w:World):List Edge->Prop
 |[]=>True
 |e::r=>(if Region.binds .any e=true then(match(l[e.on]?).bind Oper.dst with|some d=>F e.on (A.tmps.getD d undef) w|none=>True) else True)/\eb F l A w r
def ig(l:List Oper)(n:Nat):Bool:=
 l.all (λo=>o.guard.isNone && (match o.dst with|some d=>decide (d<n)|none=>true)) && (List.range l.length).all λa=>match l[a]? with
  |some x=>x.after.all (λe=>!Region.binds .any e||decide (e.on<a)) && (match x.dst with
   |some d=>(List.range a).all λb=>((l[b]?).bind Oper.dst) !=some d
   |none=>true)
  |none=>true
structure Known(W:World)(a0:Act)(F:Nat->Value->World->Prop)(l:List Oper)(listed:Nat->Bool)(A:Act)(w:World):Prop where
 ext:Ext W w
 size:A.tmps.size=a0.tmps.size
 defers:A.defers=a0.defers
 done:∀(j:Nat) (d:Tmp),(l[j]?).bind Oper.dst=some d->listed j=true->F j (A.tmps.getD d undef) w
 rest:∀t:Tmp,(∀j:Nat,(l[j]?).bind Oper.dst≠some t)->A.tmps.getD t undef=a0.tmps.getD t undef
def kQ:Exit->Act->World->Prop:=λ_ _ _=>False
theorem Oper.wp_noWay{P:Program}{o:Oper}{a:Act}{w:World}{c:Act->World->Prop}{Q:Exit->Act->World->Prop}(h:o.wp P a w c kQ):o.wp P a w c Q:=by
 unfold Oper.wp at*;generalize (execOp a.eval o).run P w=r at*;cases r with
 |ok n w'=>
  cases n<;>simp only[Oper.upon] at h⊢<;>
   first
    |exact h
    |exact Calls.mono h (λe f b=>by cases e<;>first|exact b|exact b.elim|(obtain⟨_,_,d⟩:=b;exact d.elim))
    |exact h.elim
 |halt y w'=>cases y<;>simp only[Oper.upon] at h⊢<;>first|exact h|exact h.elim
def jA(P:Program)(W:World)(a0:Act)(F:Nat->Value->World->Prop)(l:List Oper)(i:Nat)(o:Oper):Prop:=
 ∀(a:Act) (w:World),Ext W w->eb F l a w o.after.toList->(∀b:Tmp,(∀e:Nat,(l[e]?).bind Oper.dst≠some b)->a.tmps.getD b undef=a0.tmps.getD b undef)->
  o.wp P a w (λd c=>∃v,d=a.put o.dst v/\Ext w c/\F i v c) kQ
def StepsOk(P:Program)(W:World)(a0:Act)(F:Nat->Value->World->Prop)(l:List Oper):List Oper->Nat->Prop
 |[],_=>True
 |o::r,i=>jA P W a0 F l i o/\StepsOk P W a0 F l r (i+1)
theorem StepsOk.get{P:Program}{W:World}{a0:Act}{F:Nat->Value->World->Prop}{l:List Oper}:∀(a:List Oper) (k:Nat),StepsOk P W a0 F l a k->∀(j:Nat) (o:Oper),a[j]? =some o->jA P W a0 F l (k+j) o
 |[],_,_,_,_,hj=>by simp at hj
 |x::a,k,h,0,o,hj=>by simp at hj;subst hj;exact h.1
 |x::a,k,h,j+1,o,hj=>by
  have:=StepsOk.get a (k+1) h.2 j o (by simpa using hj);rwa[show k+1+j=k+(j+1) by omega] at this
structure FactsOk(l:List Oper)(n:Nat):Prop where
 guard:∀(i:Nat) (o:Oper),l[i]? =some o->o.guard=none
 lt:∀(i:Nat) (d:Tmp),(l[i]?).bind Oper.dst=some d->d<n
 apart:∀(i j:Nat) (d:Tmp),(l[i]?).bind Oper.dst=some d->(l[j]?).bind Oper.dst=some d->i=j
theorem qC{l:List Oper}{n:Nat}(h:ig l n=true):FactsOk l n:=by
 simp only[ig,Bool.and_eq_true,List.all_eq_true,List.mem_range] at h;obtain⟨i,j⟩:=h;have lt:∀{a:Nat} {d:Tmp},(l[a]?).bind Oper.dst=some d->∃o,l[a]? =some o/\o.dst=some d/\a<l.length:=by
  intro a d hi;obtain⟨o,b,e⟩:=Option.bind_eq_some_iff.1 hi;exact⟨o,b,e,(y2c.1 b).1⟩
 have g:∀(a c:Nat) (d:Tmp),c<a->(l[a]?).bind Oper.dst=some d->(l[c]?).bind Oper.dst=some d->False:=by
  intro a c d k hi f;obtain⟨o,b,e,m⟩:=lt hi;have:=j a m;simp only[b,e,Bool.and_eq_true,List.all_eq_true,List.mem_range,bne_iff_ne,ne_eq] at this;exact this.2 c k f
 refine⟨λa o b=>?_,λa d hi=>?_,λa c d hi f=>?_⟩
 ·have:=(i o (List.mem_of_getElem? b)).1;simpa using this
 ·obtain⟨o,b,e,_⟩:=lt hi;have:=(i o (List.mem_of_getElem? b)).2;simpa [e] using this
 ·rcases Nat.lt_trichotomy a c with h|h|h
  ·exact(g c a d h f hi).elim
  ·exact h
  ·exact(g a c d h hi f).elim
theorem eI{a:Act}{d t:Tmp}{v:Value}:(a.put (some d) v).tmps.getD t undef=if t=d/\d<a.tmps.size then v else a.tmps.getD t undef:=by
 simp only[Act.put,Array.getD_eq_getD_getElem?,Array.getElem?_setIfInBounds];by_cases b:d=t
 ·subst b;by_cases c:d<a.tmps.size
  ·simp[c]
  ·simp[c]
 ·rw[if_neg b,if_neg (λe=>b e.1.symm)]
section
variable {P : Program} {W : World} {a0 : Act} {F : Nat → Value → World → Prop} {l : List Oper}
theorem Known.step(s:∀i v w b,F i v w->Ext w b->F i v b)(T:FactsOk l a0.tmps.size){listed:Array Bool}{A:Act}{w:World}(h:Known W a0 F l (λj=>listed.getD j false) A w)
 {i:Nat} {o:Oper} (r:l[i]? =some o) {v:Value} {b:World} (p:Ext w b) (hF:F i v b):Known W a0 F l (λj=>(listed.setIfInBounds i true).getD j false) (A.put o.dst v) b:=by
 have f:(l[i]?).bind Oper.dst=o.dst:=by rw[r];rfl
 have t:(A.put o.dst v).tmps.size=a0.tmps.size:=by
  cases hdd:o.dst<;>simp[Act.put,h.size]
 have q:(A.put o.dst v).defers=a0.defers:=by
  cases hdd:o.dst<;>simp[Act.put,h.defers]
 have n:∀a,o.dst≠some a->(A.put o.dst v).tmps.getD a undef=A.tmps.getD a undef:=by
  intro a g;cases hdd:o.dst with
  |none=>rfl
  |some d=>rw[eI,if_neg (λc=>g (by rw[hdd,c.1]))]
 refine⟨h.ext.trans p,t,q,λj d e m=>?_,λa g=>?_⟩
 ·by_cases k:i=j
  ·subst k;rw[f] at e;rw[e,eI,if_pos ⟨rfl,by rw[h.size];exact T.lt i d (by rw[f];exact e)⟩];exact hF
  ·rw[getD_set_ne false k] at m;rw[n d (λc=>k (T.apart i j d (by rw[f];exact c) e))];exact s _ _ _ _ (h.done j d e m) p
 ·rw[n a (λc=>g i (by rw[f];exact c))];exact h.rest a g
theorem fW{A:Act}{w:World}{listed:Nat->Bool}(h:∀(a:Nat) (d:Tmp),(l[a]?).bind Oper.dst=some d->listed a=true->F a (A.tmps.getD d undef) w):
 ∀b:List Edge,(∀e∈b,Region.binds .any e=true->listed e.on=true)->eb F l A w b
 |[],_=>trivial
 |e::r,he=>by
  refine⟨?_,fW h r λc i=>he c (cf _ i)⟩;split
  ·rename_i f
   split
   ·rename_i d g
    exact h e.on d g (he e (du ..) f)
   ·trivial
  ·trivial
theorem dI{F:Nat->Value->World->Prop}{l:List Oper}{A:Act}{w:World}{e:Edge}{f:List Edge}{d:Tmp}(b:eb F l A w (e::f))(a:Region.binds .any e=true)(c:(l[e.on]?).bind Oper.dst=some d):F e.on (A.tmps.getD d undef) w:=by
 have:=b.1;rw[if_pos a,c] at this;exact this
def left:List Bool->Nat
 |[]=>0
 |b::r=>(if b then 0 else 1)+left r
theorem fv:∀(a:List Bool) (i:Nat),a[i]? =some false->left (a.set i true)+1=left a
 |[],i,h=>by simp at h
 |b::r,0,h=>by simp at h;subst h;simp[left];omega
 |b::r,i+1,h=>by
  have:=fv r i (by simpa using h);simp only[List.set_cons_succ,left];omega
theorem fQ:∀(a:List Bool),false∈a->0<left a
 |[],h=>by cases h
 |b::r,h=>by
  cases h with
  |head=>simp[left];omega
  |tail _ ht=>have:=fQ r ht;simp only[left];omega
theorem eL(n:Nat):left (List.replicate n false)=n:=by
 induction n with
 |zero=>rfl
 |succ n ih=>simp only[List.replicate_succ,left,ih];simp;omega
theorem yz{Q:Exit->Act->World->Prop}(L:∀a v w t,F a v w->Ext w t->F a v t)(T:FactsOk l a0.tmps.size)(D:StepsOk P W a0 F l l 0)
 (B:∀A w,Known W a0 F l (λj=>decide (j<l.length)) A w->Q .normal A w)
 (C:∀a x,l[a]? =some x->∀e∈x.after,Region.binds .any e=true->e.on<a):
 ∀(f:Nat) (listed:Array Bool) (A:Act) (w:World),listed.size=l.length->(f=0->Region.ready .any l.toArray listed=[])->left listed.toList<=f->Known W a0 F l (λj=>listed.getD j false) A w->
  wpAny P .any l.toArray Q f listed A w:=by
 have fin:∀(listed:Array Bool) (A:Act) (w:World),listed.size=l.length->Region.ready .any l.toArray listed=[]->Known W a0 F l (λj=>listed.getD j false) A w->Q .normal A w:=by
  intro listed A w g s b;have z:∀n a,a<n->a<l.length->listed.getD a true=true:=by
   intro n;induction n with
   |zero=>intro a hi;omega
   |succ n ih=>
    intro a U hi;cases r:listed.getD a true with
    |true=>rfl
    |false=>
     have:a∈Region.ready .any l.toArray listed:=mem_ready.2 ⟨r,l[a],by simp[List.getElem?_eq_getElem hi],λe m k=>by
      have V:=C a l[a] (dT hi) e m k;have:=ih e.on zO zO;have c:e.on<listed.size:=by omega
      simpa [c] using this⟩
     rw[s] at this;cases this
  refine B A w ⟨b.ext,b.size,b.defers,λj d p r=>b.done j d p ?_,b.rest⟩;have q:j<l.length:=by simpa using r
  have:=z (j+1) j zO q;have c:j<listed.size:=by omega
  simpa [c] using this
 intro f;induction f with
 |zero=>
  intro listed A w g h _ b;exact⟨h rfl,fin listed A w g (h rfl) b⟩
 |succ f ih=>
  intro listed A w g _ R b;refine⟨λs=>fin listed A w g s b,λa hi=>?_⟩;obtain⟨h,o,K,E⟩:=mem_ready.1 hi;have i:l[a]? =some o:=by simpa using K
  have S:a<l.length:=(y2c.1 i).1;have G:left (listed.setIfInBounds a true).toList<=f:=by
   have c:a<listed.size:=by omega
   have J:listed.toList[a]? =some false:=by
    simp[c] at h;simp[c,h]
   have:=fv listed.toList a J;rw[show(listed.setIfInBounds a true).toList=listed.toList.set a true by simp];omega
  unfold wpOp;simp only[List.getElem?_toArray,i];rw[if_pos (by simp[Region.wanted,T.guard a o i])];have y:=StepsOk.get l 0 D a o i;rw[Nat.zero_add] at y;refine .inl (Oper.wp_mono ?_ (Oper.wp_noWay (y A w b.ext (fW b.done o.after.toList (λe m k=>E e (by simpa using m) k)) b.rest)));rintro O t ⟨v,rfl,M,hF⟩;refine ih _ _ _ (by simpa using g) (λI=>?_) G (b.step L T i M hF);subst I;rw[List.eq_nil_iff_forall_not_mem];intro j p;obtain⟨u,X,N,_⟩:=mem_ready.1 p;have q:j<l.length:=by
   have:=(y1w.1 N).1;simpa using this
  have c:j<(listed.setIfInBounds a true).size:=by simpa [g] using q
  have:false∈(listed.setIfInBounds a true).toList:=by
   simp only[Array.getD_eq_getD_getElem?,Array.getElem?_eq_getElem c,Option.getD_some] at u;rw[<-u];exact Array.mem_toList_iff.2 (Array.getElem_mem _)
  have:=fQ _ this;omega
theorem rj{n:Nat}(h:ig l n=true):∀i x,l[i]? =some x->∀e∈x.after,Region.binds .any e=true->e.on<i:=by
 simp only[ig,Bool.and_eq_true,List.all_eq_true,List.mem_range] at h;intro i x b e c a;have:=h.2 i (y2c.1 b).1;simp only[b,Bool.and_eq_true,Array.all_eq_true_iff_forall_mem,Bool.or_eq_true,Bool.not_eq_true',decide_eq_true_eq] at this;rcases this.1 e c with h|h
 ·rw[h] at a;cases a
 ·exact h
theorem eu(n j:Nat):(Array.replicate n false).getD j false=false:=by
 rw[Array.getD_eq_getD_getElem?,Array.getElem?_replicate];split<;>rfl
theorem pS{id:Nat}{Q:Exit->Act->World->Prop}{w:World}{o:Oper}(F:Nat->Value->World->Prop)(q:P.follows .mixedOrders=true)(e:l.reverse.head? =some o)(c:ig l.dropLast a0.tmps.size=true)(p:ic l.dropLast o=true)(t:Ext W w)
 (r:∀f v w h,F f v w->Ext w h->F f v h)
 (n:StepsOk P W a0 F l.dropLast l.dropLast 0) (k:∀b w,Known W a0 F l.dropLast (λg=>decide (g<l.dropLast.length)) b w->o.wp P b w (λi w=>Q .normal i w) Q):(Code.region id l.toArray true).wp P Q a0 w:=by
 have a:l=l.dropLast++[o]:=by
  rw[List.head?_reverse,List.getLast?_eq_some_iff] at e;obtain⟨y,rfl⟩:=e;simp
 refine wp_region_any q ?_;rw[a];generalize l.dropLast=m at*;have u:(Array.replicate (m++[o]).toArray.size false)=(Array.replicate m.length false).push false:=by
  simp[Array.replicate_succ]
 rw[u];have s:(m++[o]).toArray.size=m.length+1:=by simp
 rw[s];refine mU (nx p) m.length _ a0 _ zS ?_;refine yz r (qC c) n k (rj c) m.length _ a0 _ zS (λj=>?_) ?_ ⟨t.drew,rfl,rfl,λg d _ a=>?_,λx _=>rfl⟩
 ·have:m=[]:=cW j;subst this;rfl
 ·rw[Array.toList_replicate,eL];exact ac _
 ·rw[eu] at a;cases a
theorem ag{A:Act}{l:List Oper}(h0:∀t:Tmp,(∀a:Nat,(l[a]?).bind Oper.dst≠some t)->A.tmps.getD t undef=a0.tmps.getD t undef)(t:Tmp)(h:(l.all λo=>o.dst !=some t)=true):A.tmps.getD t undef=a0.tmps.getD t undef:=
 h0 t λa c=>by
  obtain⟨o,d,b⟩:=Option.bind_eq_some_iff.1 c;have:=List.all_eq_true.1 h o (List.mem_of_getElem? d);simp[b] at this
theorem el{A:Act}{n:Nat}{d:List Deferred}(b:A.tmps.size=n)(a:A.defers=d):A={tmps:=((List.range n).map λe=>A.tmps.getD e undef).toArray,defers:=d}:=by
 obtain⟨i,f⟩:=A;simp only at b a;subst a
 congr 1
 apply Array.ext
 ·simp[b]
 ·intro h c g;simp[c]
theorem tmpsF(A:Act):∃a:Nat->Value,(∀t,A.tmps.getD t undef=a t)/\∀t:Nat,A.tmps[t]?.getD undef=a t:=⟨_,λ_=>rfl,λt=>by rw[<-Array.getD_eq_getD_getElem?]⟩
end
theorem iy(w:World)(d e f g h i j k m:Value):∃a b:World,w.alloc (.cells #[.int .i64 0,.string ⟨#[]⟩,.string ⟨#[]⟩,.slice none 0 0,.slice none 0 0,.slice none 0 0,.slice none 0 0,.slice none 0 0,.slice none 0 0] 37)=a/\(a.cell? ⟨w.heap.size,0,none⟩=some (.int .i64 0)/\a.cell? ⟨w.heap.size,1,none⟩=some (.string ⟨#[]⟩)/\a.cell? ⟨w.heap.size,2,none⟩=some (.string ⟨#[]⟩)/\a.cell? ⟨w.heap.size,3,none⟩=some (.slice none 0 0)/\a.cell? ⟨w.heap.size,4,none⟩=some (.slice none 0 0)/\a.cell? ⟨w.heap.size,5,none⟩=some (.slice none 0 0)/\a.cell? ⟨w.heap.size,6,none⟩=some (.slice none 0 0)/\a.cell? ⟨w.heap.size,7,none⟩=some (.slice none 0 0)/\a.cell? ⟨w.heap.size,8,none⟩=some (.slice none 0 0))/\(a.frozen? ⟨w.heap.size,0,none⟩=false/\a.frozen? ⟨w.heap.size,1,none⟩=false/\a.frozen? ⟨w.heap.size,2,none⟩=false/\a.frozen? ⟨w.heap.size,3,none⟩=false/\a.frozen? ⟨w.heap.size,4,none⟩=false/\a.frozen? ⟨w.heap.size,5,none⟩=false/\a.frozen? ⟨w.heap.size,6,none⟩=false/\a.frozen? ⟨w.heap.size,7,none⟩=false/\a.frozen? ⟨w.heap.size,8,none⟩=false)/\(((((((((a.setCell ⟨w.heap.size,0,none⟩ d).setCell ⟨w.heap.size,1,none⟩ e).setCell ⟨w.heap.size,2,none⟩ f).setCell ⟨w.heap.size,3,none⟩ g).setCell ⟨w.heap.size,4,none⟩ h).setCell ⟨w.heap.size,5,none⟩ i).setCell ⟨w.heap.size,6,none⟩ j).setCell ⟨w.heap.size,7,none⟩ k).setCell ⟨w.heap.size,8,none⟩ m)=b/\Blk b w.heap.size 37 [d,e,f,g,h,i,j,k,m]/\Ext w b/\b.heap.size=w.heap.size+1:=by
 obtain⟨a,p,r,n⟩:=bI w (.int .i64 0) (.string ⟨#[]⟩) (.string ⟨#[]⟩) (.slice none 0 0) (.slice none 0 0) (.slice none 0 0) (.slice none 0 0) (.slice none 0 0) (.slice none 0 0) 37;obtain⟨b,c⟩:∃b,b=(((((((((a.setCell ⟨w.heap.size,0,none⟩ d).setCell ⟨w.heap.size,1,none⟩ e).setCell ⟨w.heap.size,2,none⟩ f).setCell ⟨w.heap.size,3,none⟩ g).setCell ⟨w.heap.size,4,none⟩ h).setCell ⟨w.heap.size,5,none⟩ i).setCell ⟨w.heap.size,6,none⟩ j).setCell ⟨w.heap.size,7,none⟩ k).setCell ⟨w.heap.size,8,none⟩ m):=⟨_,rfl⟩;have q:=n.store9 d e f g h i j k m;rw[<-c] at q;refine⟨a,b,p.symm,n.get9,n.free9,c.symm,q,?_,?_⟩
 ·rw[c];exact(((((((((r.setCell (ac _) _).setCell (ac _) _).setCell (ac _) _).setCell (ac _) _).setCell (ac _) _).setCell (ac _) _).setCell (ac _) _).setCell (ac _) _).setCell (ac _) _)
 ·rw[c,p];simp
theorem varS(w:World)(d e f g:Value):∃a b:World,w.alloc (.cells #[.int .i64 0,.string ⟨#[]⟩,.slice none 0 0,.slice none 0 0] 177)=a/\(a.cell? ⟨w.heap.size,0,none⟩=some (.int .i64 0)/\a.cell? ⟨w.heap.size,1,none⟩=some (.string ⟨#[]⟩)/\a.cell? ⟨w.heap.size,2,none⟩=some (.slice none 0 0)/\a.cell? ⟨w.heap.size,3,none⟩=some (.slice none 0 0))/\(a.frozen? ⟨w.heap.size,0,none⟩=false/\a.frozen? ⟨w.heap.size,1,none⟩=false/\a.frozen? ⟨w.heap.size,2,none⟩=false/\a.frozen? ⟨w.heap.size,3,none⟩=false)/\((((a.setCell ⟨w.heap.size,0,none⟩ d).setCell ⟨w.heap.size,1,none⟩ e).setCell ⟨w.heap.size,2,none⟩ f).setCell ⟨w.heap.size,3,none⟩ g)=b/\Blk b w.heap.size 177 [d,e,f,g]/\Ext w b/\b.heap.size=w.heap.size+1:=by
 obtain⟨a,i,k,h⟩:=bH w (.int .i64 0) (.string ⟨#[]⟩) (.slice none 0 0) (.slice none 0 0) 177;obtain⟨b,c⟩:∃b,b=((((a.setCell ⟨w.heap.size,0,none⟩ d).setCell ⟨w.heap.size,1,none⟩ e).setCell ⟨w.heap.size,2,none⟩ f).setCell ⟨w.heap.size,3,none⟩ g):=⟨_,rfl⟩;have j:=h.store4 d e f g;rw[<-c] at j;refine⟨a,b,i.symm,h.get4,h.free4,c.symm,j,?_,?_⟩
 ·rw[c];exact((((k.setCell (ac _) _).setCell (ac _) _).setCell (ac _) _).setCell (ac _) _)
 ·rw[c,i];simp
theorem varB(w:World)(d e f g h i j:Value):∃a b:World,w.alloc (.cells #[.string ⟨#[]⟩,.int .i64 0,.string ⟨#[]⟩,.int .i64 0,.int .i64 0,.int .u64 0,.slice none 0 0] 45)=a/\(a.cell? ⟨w.heap.size,0,none⟩=some (.string ⟨#[]⟩)/\a.cell? ⟨w.heap.size,1,none⟩=some (.int .i64 0)/\a.cell? ⟨w.heap.size,2,none⟩=some (.string ⟨#[]⟩)/\a.cell? ⟨w.heap.size,3,none⟩=some (.int .i64 0)/\a.cell? ⟨w.heap.size,4,none⟩=some (.int .i64 0)/\a.cell? ⟨w.heap.size,5,none⟩=some (.int .u64 0)/\a.cell? ⟨w.heap.size,6,none⟩=some (.slice none 0 0))/\(a.frozen? ⟨w.heap.size,0,none⟩=false/\a.frozen? ⟨w.heap.size,1,none⟩=false/\a.frozen? ⟨w.heap.size,2,none⟩=false/\a.frozen? ⟨w.heap.size,3,none⟩=false/\a.frozen? ⟨w.heap.size,4,none⟩=false/\a.frozen? ⟨w.heap.size,5,none⟩=false/\a.frozen? ⟨w.heap.size,6,none⟩=false)/\(((((((a.setCell ⟨w.heap.size,0,none⟩ d).setCell ⟨w.heap.size,1,none⟩ e).setCell ⟨w.heap.size,2,none⟩ f).setCell ⟨w.heap.size,3,none⟩ g).setCell ⟨w.heap.size,4,none⟩ h).setCell ⟨w.heap.size,5,none⟩ i).setCell ⟨w.heap.size,6,none⟩ j)=b/\Blk b w.heap.size 45 [d,e,f,g,h,i,j]/\Ext w b/\b.heap.size=w.heap.size+1:=by
 obtain⟨a,m,p,k⟩:=fm w (.string ⟨#[]⟩) (.int .i64 0) (.string ⟨#[]⟩) (.int .i64 0) (.int .i64 0) (.int .u64 0) (.slice none 0 0) 45;obtain⟨b,c⟩:∃b,b=(((((((a.setCell ⟨w.heap.size,0,none⟩ d).setCell ⟨w.heap.size,1,none⟩ e).setCell ⟨w.heap.size,2,none⟩ f).setCell ⟨w.heap.size,3,none⟩ g).setCell ⟨w.heap.size,4,none⟩ h).setCell ⟨w.heap.size,5,none⟩ i).setCell ⟨w.heap.size,6,none⟩ j):=⟨_,rfl⟩;have n:=k.store7 d e f g h i j;rw[<-c] at n;refine⟨a,b,m.symm,k.get7,k.free7,c.symm,n,?_,?_⟩
 ·rw[c];exact(((((((p.setCell (ac _) _).setCell (ac _) _).setCell (ac _) _).setCell (ac _) _).setCell (ac _) _).setCell (ac _) _).setCell (ac _) _)
 ·rw[c,m];simp
theorem varP(w:World)(d e f g h i j k:Value):∃a b:World,w.alloc (.cells #[.string ⟨#[]⟩,.bool false,.int .i64 0,.string ⟨#[]⟩,.int .i64 0,.int .i64 0,.int .u64 0,.slice none 0 0] 42)=a/\(a.cell? ⟨w.heap.size,0,none⟩=some (.string ⟨#[]⟩)/\a.cell? ⟨w.heap.size,1,none⟩=some (.bool false)/\a.cell? ⟨w.heap.size,2,none⟩=some (.int .i64 0)/\a.cell? ⟨w.heap.size,3,none⟩=some (.string ⟨#[]⟩)/\a.cell? ⟨w.heap.size,4,none⟩=some (.int .i64 0)/\a.cell? ⟨w.heap.size,5,none⟩=some (.int .i64 0)/\a.cell? ⟨w.heap.size,6,none⟩=some (.int .u64 0)/\a.cell? ⟨w.heap.size,7,none⟩=some (.slice none 0 0))/\(a.frozen? ⟨w.heap.size,0,none⟩=false/\a.frozen? ⟨w.heap.size,1,none⟩=false/\a.frozen? ⟨w.heap.size,2,none⟩=false/\a.frozen? ⟨w.heap.size,3,none⟩=false/\a.frozen? ⟨w.heap.size,4,none⟩=false/\a.frozen? ⟨w.heap.size,5,none⟩=false/\a.frozen? ⟨w.heap.size,6,none⟩=false/\a.frozen? ⟨w.heap.size,7,none⟩=false)/\((((((((a.setCell ⟨w.heap.size,0,none⟩ d).setCell ⟨w.heap.size,1,none⟩ e).setCell ⟨w.heap.size,2,none⟩ f).setCell ⟨w.heap.size,3,none⟩ g).setCell ⟨w.heap.size,4,none⟩ h).setCell ⟨w.heap.size,5,none⟩ i).setCell ⟨w.heap.size,6,none⟩ j).setCell ⟨w.heap.size,7,none⟩ k)=b/\Blk b w.heap.size 42 [d,e,f,g,h,i,j,k]/\Ext w b/\b.heap.size=w.heap.size+1:=by
 obtain⟨a,n,q,m⟩:=cX w (.string ⟨#[]⟩) (.bool false) (.int .i64 0) (.string ⟨#[]⟩) (.int .i64 0) (.int .i64 0) (.int .u64 0) (.slice none 0 0) 42;obtain⟨b,c⟩:∃b,b=((((((((a.setCell ⟨w.heap.size,0,none⟩ d).setCell ⟨w.heap.size,1,none⟩ e).setCell ⟨w.heap.size,2,none⟩ f).setCell ⟨w.heap.size,3,none⟩ g).setCell ⟨w.heap.size,4,none⟩ h).setCell ⟨w.heap.size,5,none⟩ i).setCell ⟨w.heap.size,6,none⟩ j).setCell ⟨w.heap.size,7,none⟩ k):=⟨_,rfl⟩;have p:=m.store8 d e f g h i j k;rw[<-c] at p;refine⟨a,b,n.symm,m.get8,m.free8,c.symm,p,?_,?_⟩
 ·rw[c];exact((((((((q.setCell (ac _) _).setCell (ac _) _).setCell (ac _) _).setCell (ac _) _).setCell (ac _) _).setCell (ac _) _).setCell (ac _) _).setCell (ac _) _)
 ·rw[c,n];simp
theorem varM(w:World)(d e f g:Value):∃a b:World,w.alloc (.cells #[.string ⟨#[]⟩,.slice none 0 0,.slice none 0 0,.slice none 0 0] 30)=a/\(a.cell? ⟨w.heap.size,0,none⟩=some (.string ⟨#[]⟩)/\a.cell? ⟨w.heap.size,1,none⟩=some (.slice none 0 0)/\a.cell? ⟨w.heap.size,2,none⟩=some (.slice none 0 0)/\a.cell? ⟨w.heap.size,3,none⟩=some (.slice none 0 0))/\(a.frozen? ⟨w.heap.size,0,none⟩=false/\a.frozen? ⟨w.heap.size,1,none⟩=false/\a.frozen? ⟨w.heap.size,2,none⟩=false/\a.frozen? ⟨w.heap.size,3,none⟩=false)/\((((a.setCell ⟨w.heap.size,0,none⟩ d).setCell ⟨w.heap.size,1,none⟩ e).setCell ⟨w.heap.size,2,none⟩ f).setCell ⟨w.heap.size,3,none⟩ g)=b/\Blk b w.heap.size 30 [d,e,f,g]/\Ext w b/\b.heap.size=w.heap.size+1:=by
 obtain⟨a,i,k,h⟩:=bH w (.string ⟨#[]⟩) (.slice none 0 0) (.slice none 0 0) (.slice none 0 0) 30;obtain⟨b,c⟩:∃b,b=((((a.setCell ⟨w.heap.size,0,none⟩ d).setCell ⟨w.heap.size,1,none⟩ e).setCell ⟨w.heap.size,2,none⟩ f).setCell ⟨w.heap.size,3,none⟩ g):=⟨_,rfl⟩;have j:=h.store4 d e f g;rw[<-c] at j;refine⟨a,b,i.symm,h.get4,h.free4,c.symm,j,?_,?_⟩
 ·rw[c];exact((((k.setCell (ac _) _).setCell (ac _) _).setCell (ac _) _).setCell (ac _) _)
 ·rw[c,i];simp
def eW(l:List Oper)(n:Nat):Bool:=
 l.all (λo=>match o.dst with|some d=>decide (d<n)|none=>true) && (List.range l.length).all λb=>match l[b]? with
  |some x=>x.after.all (λe=>!Region.binds .any e||decide (e.on<b)) && (match x.dst with
   |some d=>(List.range b).all λa=>((l[a]?).bind Oper.dst) !=some d
   |none=>true) && (match x.guard with
   |some (a,_)=>x.after.any (λe=>Region.binds .any e && e.on==a) && ((l[a]?).bind Oper.dst).isSome
   |none=>true)
  |none=>true
structure FactsOkG(l:List Oper)(n:Nat):Prop where
 lt:∀(i:Nat) (d:Tmp),(l[i]?).bind Oper.dst=some d->d<n
 apart:∀(i j:Nat) (d:Tmp),(l[i]?).bind Oper.dst=some d->(l[j]?).bind Oper.dst=some d->i=j
 order:∀i x,l[i]? =some x->∀e∈x.after,Region.binds .any e=true->e.on<i
 guard:∀(i:Nat) (x:Oper) (j:Nat) (b:Bool),l[i]? =some x->x.guard=some (j,b)->(∃e∈x.after,Region.binds .any e=true/\e.on=j)/\∃d,(l[j]?).bind Oper.dst=some d
theorem gI{l:List Oper}{n:Nat}(h:eW l n=true):FactsOkG l n:=by
 simp only[eW,Bool.and_eq_true,List.all_eq_true,List.mem_range] at h;obtain⟨q,k⟩:=h;have lt:∀{a:Nat} {d:Tmp},(l[a]?).bind Oper.dst=some d->∃o,l[a]? =some o/\o.dst=some d/\a<l.length:=by
  intro a d hi;obtain⟨o,f,g⟩:=Option.bind_eq_some_iff.1 hi;exact⟨o,f,g,(y2c.1 f).1⟩
 have p:∀(a b:Nat) (d:Tmp),b<a->(l[a]?).bind Oper.dst=some d->(l[b]?).bind Oper.dst=some d->False:=by
  intro a b d s hi j;obtain⟨o,f,g,t⟩:=lt hi;have:=k a t;simp only[f,g,Bool.and_eq_true,List.all_eq_true,List.mem_range,bne_iff_ne,ne_eq] at this;exact this.1.2 b s j
 refine⟨λa d hi=>?_,λa b d hi j=>?_,λa x i e m c=>?_,λa x b u i r=>?_⟩
 ·obtain⟨o,f,g,_⟩:=lt hi;have:=q o (List.mem_of_getElem? f);simpa [g] using this
 ·rcases Nat.lt_trichotomy a b with h|h|h
  ·exact(p b a d h j hi).elim
  ·exact h
  ·exact(p a b d h hi j).elim
 ·have:=k a (y2c.1 i).1;simp only[i,Bool.and_eq_true,Array.all_eq_true_iff_forall_mem,Bool.or_eq_true,Bool.not_eq_true',decide_eq_true_eq] at this;rcases this.1.1 e m with h|h
  ·rw[h] at c;cases c
  ·exact h
 ·have:=k a (y2c.1 i).1;simp only[i,r,Bool.and_eq_true] at this;obtain⟨e,m,c⟩:=Array.any_eq_true'.1 this.2.1;simp only[Bool.and_eq_true,beq_iff_eq] at c;exact⟨⟨e,m,c.1,c.2⟩,Option.isSome_iff_exists.1 this.2.2⟩
section
variable {P : Program} {W : World} {a0 : Act} {F : Nat → Value → World → Prop} {l : List Oper}
theorem Known.stepG(s:∀i v w b,F i v w->Ext w b->F i v b)(T:FactsOkG l a0.tmps.size){listed:Array Bool}{A:Act}{w:World}(h:Known W a0 F l (λj=>listed.getD j false) A w)
 {i:Nat} {o:Oper} (r:l[i]? =some o) {v:Value} {b:World} (p:Ext w b) (hF:F i v b):Known W a0 F l (λj=>(listed.setIfInBounds i true).getD j false) (A.put o.dst v) b:=by
 have f:(l[i]?).bind Oper.dst=o.dst:=by rw[r];rfl
 have t:(A.put o.dst v).tmps.size=a0.tmps.size:=by
  cases hdd:o.dst<;>simp[Act.put,h.size]
 have q:(A.put o.dst v).defers=a0.defers:=by
  cases hdd:o.dst<;>simp[Act.put,h.defers]
 have n:∀a,o.dst≠some a->(A.put o.dst v).tmps.getD a undef=A.tmps.getD a undef:=by
  intro a g;cases hdd:o.dst with
  |none=>rfl
  |some d=>rw[eI,if_neg (λc=>g (by rw[hdd,c.1]))]
 refine⟨h.ext.trans p,t,q,λj d e m=>?_,λa g=>?_⟩
 ·by_cases k:i=j
  ·subst k;rw[f] at e;rw[e,eI,if_pos ⟨rfl,by rw[h.size];exact T.lt i d (by rw[f];exact e)⟩];exact hF
  ·rw[getD_set_ne false k] at m;rw[n d (λc=>k (T.apart i j d (by rw[f];exact c) e))];exact s _ _ _ _ (h.done j d e m) p
 ·rw[n a (λc=>g i (by rw[f];exact c))];exact h.rest a g
def GuardsMet(F:Nat->Value->World->Prop):List Oper->Prop
 |[]=>True
 |o::r=>(match o.guard with|some (j,b)=>∀v w,F j v w->v=.bool b|none=>True)/\GuardsMet F r
theorem GuardsMet.get{F:Nat->Value->World->Prop}:∀{l:List Oper},GuardsMet F l->∀{i:Nat} {o:Oper},l[i]? =some o->∀{j b},o.guard=some (j,b)->∀v w,F j v w->v=.bool b
 |[],_,_,_,ho,_,_,_=>by simp at ho
 |x::r,h,0,o,ho,j,b,hg=>by
  simp at ho;subst ho;have:=h.1;rw[hg] at this;exact this
 |x::r,h,i+1,o,ho,j,b,hg=>GuardsMet.get h.2 (by simpa using ho) hg
theorem kw{A:Act}{w:World}{listed:Nat->Bool}{o:Oper}{i n:Nat}(T:FactsOkG l n)(q:GuardsMet F l)(j:l[i]? =some o)(t:A.tmps.size=n)
 (h:∀(a:Nat) (d:Tmp),(l[a]?).bind Oper.dst=some d->listed a=true->F a (A.tmps.getD d undef) w) (p:∀e∈o.after,Region.binds .any e=true->listed e.on=true):
 Region.wanted o (yielded l.toArray A.tmps)=true:=by
 unfold Region.wanted;cases hgd:o.guard with
 |none=>rfl
 |some g=>
  obtain⟨a,b⟩:=g;obtain⟨⟨e,s,m,rfl⟩,d,c⟩:=T.guard i o a b j hgd;have u:=q.get j hgd _ _ (h e.on d c (p e s m));have r:=T.lt e.on d c;have v:yielded l.toArray A.tmps e.on=some b:=by
   unfold yielded;simp only[List.getElem?_toArray];rw[c];have f:d<A.tmps.size:=by rw[t];exact r
   have k:A.tmps[d]? =some (.bool b):=by
    rw[Array.getElem?_eq_getElem f];have:=u;rw[Array.getD_eq_getD_getElem?,Array.getElem?_eq_getElem f] at this;exact congrArg some this
   simp[k]
  simp[v]
theorem qO{Q:Exit->Act->World->Prop}(L:∀a v w t,F a v w->Ext w t->F a v t)(T:FactsOkG l a0.tmps.size)(I:GuardsMet F l)(D:StepsOk P W a0 F l l 0)
 (B:∀A w,Known W a0 F l (λj=>decide (j<l.length)) A w->Q .normal A w):
 ∀(f:Nat) (listed:Array Bool) (A:Act) (w:World),listed.size=l.length->(f=0->Region.ready .any l.toArray listed=[])->left listed.toList<=f->Known W a0 F l (λj=>listed.getD j false) A w->
  wpAny P .any l.toArray Q f listed A w:=by
 have C:=T.order;have fin:∀(listed:Array Bool) (A:Act) (w:World),listed.size=l.length->Region.ready .any l.toArray listed=[]->Known W a0 F l (λj=>listed.getD j false) A w->Q .normal A w:=by
  intro listed A w g s b;have z:∀n a,a<n->a<l.length->listed.getD a true=true:=by
   intro n;induction n with
   |zero=>intro a hi;omega
   |succ n ih=>
    intro a U hi;cases r:listed.getD a true with
    |true=>rfl
    |false=>
     have:a∈Region.ready .any l.toArray listed:=mem_ready.2 ⟨r,l[a],by simp[List.getElem?_eq_getElem hi],λe m k=>by
      have V:=C a l[a] (dT hi) e m k;have:=ih e.on zO zO;have c:e.on<listed.size:=by omega
      simpa [c] using this⟩
     rw[s] at this;cases this
  refine B A w ⟨b.ext,b.size,b.defers,λj d p r=>b.done j d p ?_,b.rest⟩;have q:j<l.length:=by simpa using r
  have:=z (j+1) j zO q;have c:j<listed.size:=by omega
  simpa [c] using this
 intro f;induction f with
 |zero=>
  intro listed A w g h _ b;exact⟨h rfl,fin listed A w g (h rfl) b⟩
 |succ f ih=>
  intro listed A w g _ R b;refine⟨λs=>fin listed A w g s b,λa hi=>?_⟩;obtain⟨h,o,K,u⟩:=mem_ready.1 hi;have i:l[a]? =some o:=by simpa using K
  have S:a<l.length:=(y2c.1 i).1;have E:left (listed.setIfInBounds a true).toList<=f:=by
   have c:a<listed.size:=by omega
   have J:listed.toList[a]? =some false:=by
    simp[c] at h;simp[c,h]
   have:=fv listed.toList a J;rw[show(listed.setIfInBounds a true).toList=listed.toList.set a true by simp];omega
  unfold wpOp;simp only[List.getElem?_toArray,i];rw[if_pos (kw T I i b.size b.done u)];have y:=StepsOk.get l 0 D a o i;rw[Nat.zero_add] at y;refine .inl (Oper.wp_mono ?_ (Oper.wp_noWay (y A w b.ext (fW b.done o.after.toList (λe m k=>u e (by simpa using m) k)) b.rest)));rintro O t ⟨v,rfl,M,hF⟩;refine ih _ _ _ (by simpa using g) (λG=>?_) E (b.stepG L T i M hF);subst G;rw[List.eq_nil_iff_forall_not_mem];intro j p;obtain⟨x,X,N,_⟩:=mem_ready.1 p;have q:j<l.length:=by
   have:=(y1w.1 N).1;simpa using this
  have c:j<(listed.setIfInBounds a true).size:=by simpa [g] using q
  have:false∈(listed.setIfInBounds a true).toList:=by
   simp only[Array.getD_eq_getD_getElem?,Array.getElem?_eq_getElem c,Option.getD_some] at x;rw[<-x];exact Array.mem_toList_iff.2 (Array.getElem_mem _)
  have:=fQ _ this;omega
theorem aa{A:Act}{w:World}:∀{b:List Edge},eb F l A w b->∀(j:Nat) (d:Tmp),(b.any λe=>Region.binds .any e && e.on==j)=true->(l[j]?).bind Oper.dst=some d->F j (A.tmps.getD d undef) w
 |[],_,_,_,a,_=>by simp at a
 |e::r,hd,j,d,a,hl=>by
  rw[List.any_cons,Bool.or_eq_true] at a;rcases a with a|a
  ·simp only[Bool.and_eq_true,beq_iff_eq] at a;obtain⟨c,rfl⟩:=a;exact dI hd c hl
  ·exact aa hd.2 j d a hl
theorem rm{id:Nat}{Q:Exit->Act->World->Prop}{w:World}(F:Nat->Value->World->Prop)(m:P.follows .mixedOrders=true)(h:eW l a0.tmps.size=true)(k:GuardsMet F l)(p:Ext W w)(n:∀c v w f,F c v w->Ext w f->F c v f)
 (j:StepsOk P W a0 F l l 0) (i:∀a w,Known W a0 F l (λe=>decide (e<l.length)) a w->Q .normal a w):(Code.region id l.toArray true).wp P Q a0 w:=by
 refine wp_region_any m ?_;simp only[List.size_toArray];refine qO n (gI h) k j i l.length _ a0 _ zS (λg=>?_) ?_ ⟨p.drew,rfl,rfl,λe d _ b=>?_,λq _=>rfl⟩
 ·have:l=[]:=cW g;subst this;rfl
 ·rw[Array.toList_replicate,eL];exact ac _
 ·rw[eu] at b;cases b
end
end Go.Proofs.YtlfmlodanoolhaaGreatDoor
