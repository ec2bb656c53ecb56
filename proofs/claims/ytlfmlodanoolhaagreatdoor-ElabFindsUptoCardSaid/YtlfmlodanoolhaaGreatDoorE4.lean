import Derived.Lib.IndexMore
import Derived.Deep.Slices
import Derived.ChangeReads
import Derived.DataShut
import Derived.Test.YtlfmlodanoolhaaGreatDoorRows
import Derived.Test.YtlfmlodanoolhaaGreatDoorProg
import Derived.Test.YtlfmlodanoolhaaGreatDoorE1
set_option linter.all false
set_option maxRecDepth 200000
set_option maxHeartbeats 32000000
namespace Go.Proofs.YtlfmlodanoolhaaGreatDoor
open Go Go.RowKit Go.Proofs.Tryz
def wordsL:List (List UInt8):=[[109,111,100,117,108,101],[105,110],[111,117,116],[119,105,114,101],[114,101,103],[99,111,110,115,116],[97,115,115,105,103,110],[99,111,109,98],[111,110],[116,105,99,107],[105,110,115,116],[105,102],[101,108,115,101],[102,111,114],[99,104,101,99,107],[99,97,115,101],[122,101,120,116],[115,101,120,116],[116,114,117,110,99]]
def enc:List (List UInt8)→List UInt8
 |[]=>[32]
 |a::r=>32::(a++enc r)
theorem contains_cons(b:UInt8)(l sub:List UInt8):Lib.contains (b::l) sub=(sub.isPrefixOf (b::l)||Lib.contains l sub):=by
 have hg:=Lib.index_ge l sub;unfold Lib.contains;conv=>lhs;unfold Lib.index
 by_cases h:sub.isPrefixOf (b::l)=true
 ·simp[h]
 ·by_cases h1:Lib.index l sub= -1
  ·simp[h,h1]
  ·have:(Lib.index l sub== -1)=false:=by simpa using h1
   simp only[h,this];have h2:(0≤Lib.index l sub+1)↔(0≤Lib.index l sub):=by omega
   simp[h2]
theorem j0g(c:UInt8)(r:List UInt8):Lib.contains [] (c::r)=false:=by simp[Lib.contains,Lib.index]
theorem q7h(a r t:List UInt8)(h:(32:UInt8) ∉ a):Lib.contains (a++r) (32::t)=Lib.contains r (32::t):=by
 induction a with
 |nil=>rfl
 |cons c a ih=>
  have h1:¬(32:UInt8)=c:=fun e=>h (by simp[e])
  have h2:(32:UInt8) ∉ a:=fun e=>h (by simp[e])
  rw[List.cons_append,contains_cons,ih h2];simp[List.isPrefixOf,h1]
theorem j3d:∀(s a:List UInt8) (t:List UInt8),(32:UInt8) ∉ s→(32:UInt8) ∉ a→(s++[32]).isPrefixOf (a++32::t)=(s==a)
 |[],[],t,_,_=>by simp[List.isPrefixOf]
 |[],c::a,t,_,ha=>by
  have h1:¬(32:UInt8)=c:=fun e=>ha (by simp[e])
  simp[List.isPrefixOf,h1]
 |b::s,[],t,hs,_=>by
  have h1:¬b=(32:UInt8):=fun e=>hs (by simp[e])
  simp[List.isPrefixOf,h1]
 |b::s,c::a,t,hs,ha=>by
  have ih:=j3d s a t (fun e=>hs (by simp[e])) (fun e=>ha (by simp[e]));simp only[List.cons_append,List.isPrefixOf,ih];by_cases h:b=c<;>simp[h]
theorem k4n(ws:List (List UInt8)):∃t,enc ws=32::t:=by
 cases ws with
 |nil=>exact⟨_,rfl⟩
 |cons a r=>exact⟨_,rfl⟩
theorem q2r(s:List UInt8)(hs:(32:UInt8) ∉ s):∀ws:List (List UInt8),(∀a∈ws,(32:UInt8) ∉ a)→Lib.contains (enc ws) (32::(s++[32]))=ws.contains s
 |[],_=>by
  rw[enc,contains_cons,j0g];cases s<;>simp[List.isPrefixOf]
 |a::ws,h=>by
  have ih:=q2r s hs ws (fun x hx=>h x (by simp[hx]));have ha:=h a (by simp);obtain⟨t,ht⟩:=k4n ws;rw[enc,contains_cons,q7h _ _ _ ha,ih];rw[ht,List.isPrefixOf,j3d s a t hs ha];rw[List.contains_cons];simp
theorem z9i:∀s:List UInt8,Lib.contains s [32]=s.contains 32
 |[]=>by simp[Lib.contains,Lib.index]
 |b::s=>by
  rw[contains_cons,z9i s,List.contains_cons];simp[List.isPrefixOf]
theorem q3m:∀a∈wordsL,(32:UInt8) ∉ a:=by decide
def q9f(s:ByteArray):Bool:=wordsL.contains s.data.toList
theorem k2g(s:List UInt8):(s !=[] && (!Lib.contains s [32] && Lib.contains (enc wordsL) (32::(s++[32]))))=wordsL.contains s:=by
 rw[z9i];by_cases h:s=[]
 ·subst h;decide
 ·by_cases hb:(32:UInt8)∈s
  ·have hc:s.contains 32=true:=by simpa using hb
   have:wordsL.contains s=false:=by
    cases hw:wordsL.contains s with
    |false=>rfl
    |true=>exact(q3m s (by simpa using hw) hb).elim
   rw[this,hc];simp
  ·have hc:s.contains 32=false:=by simpa using hb
   rw[hc,q2r s hb wordsL q3m];have:(s !=[])=true:=by simpa using h
   rw[this];simp
def k5v(c:UInt8):Bool:=decide (97≤c.toNat∧c.toNat≤122∨65≤c.toNat∧c.toNat≤90∨c.toNat=95)
def k2b(i:Nat)(c:UInt8):Bool:=k5v c||(decide (i≠0) && decide (48≤c.toNat∧c.toNat≤57))
theorem okAt_iff{i:Nat}{c:UInt8}:k2b i c=true↔((97≤c.toNat∧c.toNat≤122∨65≤c.toNat∧c.toNat≤90∨c.toNat=95)∨i≠0∧48≤c.toNat∧c.toNat≤57):=by
 simp[k2b,k5v]
theorem q1n{i:Nat}{c:UInt8}(h:¬((97≤c.toNat∧c.toNat≤122∨65≤c.toNat∧c.toNat≤90∨c.toNat=95)∨i≠0∧48≤c.toNat∧c.toNat≤57)):k2b i c=false:=by
 cases e:k2b i c with
 |false=>rfl
 |true=>exact(h (okAt_iff.1 e)).elim
def z2y(s:ByteArray):Prop:=1≤s.size∧s.size≤64∧(∀(i:Nat) (h:i<s.size),k2b i s.data[i]=true)∧q9f s=false
noncomputable def z5t(s:ByteArray):Bool:=@decide (z2y s) (Classical.propDecidable _)
theorem nameOk_iff{s:ByteArray}:z5t s=true↔z2y s:=by simp[z5t]
theorem z8i{s:ByteArray}(h:¬z2y s):z5t s=false:=by simp[z5t,h]
def z0e{α:Type}(sz:α→Nat):List α→Nat
 |[]=>0
 |x::r=>sz x+z0e sz r
def z0j{α:Type}(dp:α→Nat):List α→Nat
 |[]=>0
 |x::r=>max (dp x) (z0j dp r)
theorem z5u{α:Type}(sz:α→Nat)(a b:List α):z0e sz (a++b)=z0e sz a+z0e sz b:=by
 induction a with
 |nil=>simp[z0e]
 |cons x r ih=>simp only[List.cons_append,z0e,ih];omega
theorem q8s{α:Type}(dp:α→Nat)(a b:List α):z0j dp (a++b)=max (z0j dp a) (z0j dp b):=by
 induction a with
 |nil=>simp[z0j]
 |cons x r ih=>simp only[List.cons_append,z0j,ih];omega
theorem z2i{α:Type}(sz:α→Nat)(l:List α)(k:Nat)(h:k<l.length):z0e sz (l.take (k+1))=z0e sz (l.take k)+sz l[k]:=by
 rw[List.take_succ_eq_append_getElem h,z5u];simp[z0e]
theorem z2j{α:Type}(dp:α→Nat)(l:List α)(k:Nat)(h:k<l.length):z0j dp (l.take (k+1))=max (z0j dp (l.take k)) (dp l[k]):=by
 rw[List.take_succ_eq_append_getElem h,q8s];simp[z0j]
theorem z2z{α:Type}(sz:α→Nat)(l:List α)(k:Nat):z0e sz (l.take k)≤z0e sz l:=by
 have:=z5u sz (l.take k) (l.drop k);rw[List.take_append_drop] at this;omega
theorem z0g{α:Type}(sz:α→Nat)(l:List α)(x:α)(h:x∈l):sz x≤z0e sz l:=by
 induction l with
 |nil=>cases h
 |cons y r ih=>
  simp only[z0e];cases h with
  |head=>omega
  |tail _ ht=>have:=ih ht;omega
theorem z0y{α:Type}(dp sz:α→Nat)(l:List α)(h:∀x,x∈l→dp x≤sz x):z0j dp l≤z0e sz l:=by
 induction l with
 |nil=>simp[z0j]
 |cons y r ih=>
  have:=h y (y1s ..);have:=ih fun x hx=>h x (y1r _ hx)
  simp only[z0j,z0e];omega
theorem z0b{α:Type}(sz:α→Nat)(l:List α)(h:∀x,1≤sz x):l.length≤z0e sz l:=by
 induction l with
 |nil=>simp
 |cons y r ih=>have:=h y;simp only[z0e,List.length_cons];omega
mutual
def z0l:X→Nat
 |.mk _ _ _ _ _ l=>1+j2v l
def j2v:List X→Nat
 |[]=>0
 |x::r=>z0l x+j2v r
 end
mutual
def z2o:X→Nat
 |.mk _ _ _ _ _ l=>1+j4g l
def j4g:List X→Nat
 |[]=>0
 |x::r=>max (z2o x) (j4g r)
 end
theorem j7x(l:List X):j2v l=z0e z0l l:=by induction l with|nil=>rfl|cons x r ih=>simp[j2v,z0e,ih]
theorem k1d(l:List X):j4g l=z0j z2o l:=by induction l with|nil=>rfl|cons x r ih=>simp[j4g,z0j,ih]
theorem z3u(x:X):z0l x=1+z0e z0l x.l:=by cases x;rw[z0l,j7x];rfl
theorem q0p(x:X):z2o x=1+z0j z2o x.l:=by cases x;rw[z2o,k1d];rfl
mutual
def z0p:S→Nat
 |.mk _ _ x l=>1+z0e z0l x+j2w l
def j2w:List S→Nat
 |[]=>0
 |x::r=>z0p x+j2w r
 end
mutual
def z6q:S→Nat
 |.mk _ _ x l=>1+max (z0j z2o x) (j4h l)
def j4h:List S→Nat
 |[]=>0
 |x::r=>max (z6q x) (j4h r)
 end
theorem j7y(l:List S):j2w l=z0e z0p l:=by induction l with|nil=>rfl|cons x r ih=>simp[j2w,z0e,ih]
theorem k1e(l:List S):j4h l=z0j z6q l:=by induction l with|nil=>rfl|cons x r ih=>simp[j4h,z0j,ih]
theorem z0w(x:S):z0p x=1+z0e z0l x.x+z0e z0p x.l:=by cases x;rw[z0p,j7y];rfl
theorem j4i(x:S):z6q x=1+max (z0j z2o x.x) (z0j z6q x.l):=by cases x;rw[z6q,k1e];rfl
def z1c(b:Bnd):Nat:=1+z0l b.x
def z7m(b:Bnd):Nat:=1+z2o b.x
def z3k(b:Prt):Nat:=1+z0l b.w
def q7g(b:Prt):Nat:=1+z2o b.w
mutual
def z0i:Itm→Nat
 |.mk _ _ _ x s l els ps bs=>1+z0e z0l x+z0e z0p s+q8l l+q8l els+z0e z1c ps+z0e z1c bs
def q8l:List Itm→Nat
 |[]=>0
 |x::r=>z0i x+q8l r
 end
mutual
def z4q:Itm→Nat
 |.mk _ _ _ x s l els ps bs=>1+max (max (max (max (max (z0j z2o x) (z0j z6q s)) (j0f l)) (j0f els)) (z0j z7m ps)) (z0j z7m bs)
def j0f:List Itm→Nat
 |[]=>0
 |x::r=>max (z4q x) (j0f r)
 end
theorem q8k(l:List Itm):q8l l=z0e z0i l:=by induction l with|nil=>rfl|cons x r ih=>simp[q8l,z0e,ih]
theorem j0e(l:List Itm):j0f l=z0j z4q l:=by induction l with|nil=>rfl|cons x r ih=>simp[j0f,z0j,ih]
theorem z0r(x:Itm):z0i x=1+z0e z0l x.x+z0e z0p x.s+z0e z0i x.l+z0e z0i x.els+z0e z1c x.params+z0e z1c x.binds:=by cases x;rw[z0i,q8k,q8k];rfl
theorem j4j(x:Itm):z4q x=1+max (max (max (max (max (z0j z2o x.x) (z0j z6q x.s)) (z0j z4q x.l)) (z0j z4q x.els)) (z0j z7m x.params)) (z0j z7m x.binds):=by cases x;rw[z4q,j0e,j0e];rfl
def z0x(m:Mdl):Nat:=1+z0e z1c m.params+z0e z3k m.ports+z0e z0i m.items
def q1z(m:Mdl):Nat:=1+max (max (z0j z7m m.params) (z0j q7g m.ports)) (z0j z4q m.items)
theorem z1n(x:X):1≤z0l x:=by rw[z3u];omega
theorem z1o(x:S):1≤z0p x:=by rw[z0w];omega
theorem z1z(x:Bnd):1≤z1c x:=by unfold z1c;omega
theorem z9y(x:Prt):1≤z3k x:=by unfold z3k;omega
theorem z1i(x:Itm):1≤z0i x:=by rw[z0r];omega
theorem z9z(x:Mdl):1≤z0x x:=by unfold z0x;omega
theorem z8y(x:X):z2o x≤z0l x:=by
 induction x using X.ind with
 |h x ih=>have:=z0y z2o z0l x.l ih;rw[q0p,z3u];omega
theorem z8o(l:List X):z0j z2o l≤z0e z0l l:=z0y _ _ _ fun x _=>z8y x
theorem k4s(x:S):z6q x≤z0p x:=by
 induction x using S.ind with
 |h x ih=>have:=z0y z6q z0p x.l ih;have:=z8o x.x;rw[j4i,z0w];omega
theorem q4q(l:List S):z0j z6q l≤z0e z0p l:=z0y _ _ _ fun x _=>k4s x
theorem k4w(x:Bnd):z7m x≤z1c x:=by have:=z8y x.x;unfold z7m z1c;omega
theorem z6r(l:List Bnd):z0j z7m l≤z0e z1c l:=z0y _ _ _ fun x _=>k4w x
theorem k4t(x:Prt):q7g x≤z3k x:=by have:=z8y x.w;unfold q7g z3k;omega
theorem j0d(l:List Prt):z0j q7g l≤z0e z3k l:=z0y _ _ _ fun x _=>k4t x
theorem k4v(x:Itm):z4q x≤z0i x:=by
 induction x using Itm.ind with
 |h x ih1 ih2=>
  have:=z0y z4q z0i x.l ih1;have:=z0y z4q z0i x.els ih2;have:=z8o x.x;have:=q4q x.s;have:=z6r x.params;have:=z6r x.binds;rw[j4j,z0r];omega
theorem q0q(l:List Itm):z0j z4q l≤z0e z0i l:=z0y _ _ _ fun x _=>k4v x
theorem k4u(x:Mdl):q1z x≤z0x x:=by
 have:=z6r x.params;have:=j0d x.ports;have:=q0q x.items;unfold q1z z0x;omega
theorem k1f(l:List Mdl):z0j q1z l≤z0e z0x l:=z0y _ _ _ fun x _=>k4u x
noncomputable def yes(p:Prop):Bool:=@decide p (Classical.propDecidable _)
theorem yes_iff{p:Prop}:yes p=true↔p:=by simp[yes]
theorem yes_no{p:Prop}:yes p=false↔¬p:=by simp[yes]
theorem z1h{p q:Prop}(h:p↔q):yes p=yes q:=by
 rw[Bool.eq_iff_iff,yes_iff,yes_iff,h]
def z3z(op:Int):Prop:=op=2∨op=3∨op=4
def z4u(op:Int)(n:Int):Prop:=(op=1∨op=2)∧n=0∨(op=4∨op=5)∧n=1∨(op=3∨op=6∨op=9∨op=10)∧n=2∨op=7∧n=3∨op=8∧1≤n
def k6y(op n:Int):Prop:=op=5∧1≤n∧n≤6∨op=6∧11≤n∧n≤26∨op=10∧31≤n∧n≤33∨(op≠5∧op≠6∧op≠10)∧n=0
def k6f(op w v:Int):Prop:=op≠1∧w=0∧v=0∨op=1∧0≤w∧w≤64∧(w=0∨w=64∨v<2 ^ w.toNat)
def y0v(op:Int)(s:ByteArray):Prop:=z3z op∧z2y s∨¬z3z op∧s.size=0
def k2a(x:X):Prop:=z4u x.op x.l.length∧k6y x.op x.n∧k6f x.op x.w x.v∧y0v x.op x.name
inductive MayX:X→Prop
 |mk (x:X) (h:k2a x) (hl:∀y,y∈x.l→MayX y):MayX x
theorem MayX_iff{x:X}:MayX x↔k2a x∧∀y,y∈x.l→MayX y:=
 ⟨fun h=>by cases h with|mk _ h hl=>exact⟨h,hl⟩,fun h=>.mk x h.1 h.2⟩
inductive VX:X→Prop
 |mk (x:X) (h:0≤x.v) (h2:x.v<18446744073709551616) (hs:x.name.size<4294967281) (hl:∀y,y∈x.l→VX y):VX x
theorem VX_iff{x:X}:VX x↔0≤x.v∧x.v<18446744073709551616∧x.name.size<4294967281∧∀y,y∈x.l→VX y:=
 ⟨fun h=>by cases h with|mk _ h h2 hs hl=>exact⟨h,h2,hs,hl⟩,fun⟨h,h2,hs,hl⟩=>.mk x h h2 hs hl⟩
inductive VS:S→Prop
 |mk (x:S) (hs:x.name.size<4294967281) (hx:∀y,y∈x.x→VX y) (hl:∀y,y∈x.l→VS y):VS x
theorem VS_iff{x:S}:VS x↔x.name.size<4294967281∧(∀y,y∈x.x→VX y)∧∀y,y∈x.l→VS y:=
 ⟨fun h=>by cases h with|mk _ hs hx hl=>exact⟨hs,hx,hl⟩,fun⟨hs,hx,hl⟩=>.mk x hs hx hl⟩
def k3x(x:X):Prop:=z3z x.op
def z3y:List X→Prop
 |[]=>False
 |x::_=>k3x x
def q5l(l:List S)(k:Nat):Int:=match l[k]? with|some s=>s.op|none=>0
mutual
inductive MayS:S→Prop
 |assign (s:S) (h:s.op=1) (hx:∀y,y∈s.x→MayX y) (hn:s.name.size=0) (h2:s.x.length=2) (ht:z3y s.x) (hl:s.l.length=0):MayS s
 |if_ (s:S) (h:s.op=2) (hx:∀y,y∈s.x→MayX y) (hn:s.name.size=0) (h1:s.x.length=1) (h2:s.l.length=2) (h3:q5l s.l 0=5) (h4:q5l s.l 1=5∨q5l s.l 1=2) (hl:∀y,y∈s.l→MayS y):MayS s
 |case_ (s:S) (h:s.op=3) (hx:∀y,y∈s.x→MayX y) (hn:s.name.size=0) (h1:s.x.length=1) (h2:1≤s.l.length) (hl:∀(i:Nat) (hi:i<s.l.length),MayArm (i+1=s.l.length) s.l[i]):MayS s
 |block (s:S) (h:s.op=5) (hn:s.name.size=0) (h0:s.x.length=0) (hl:∀y,y∈s.l→MayS y):MayS s
 |for_ (s:S) (h:s.op=6) (hx:∀y,y∈s.x→MayX y) (hn:z2y s.name) (h2:s.x.length=2) (hl:∀y,y∈s.l→MayS y):MayS s
inductive MayArm:Prop→S→Prop
 |mk (p:Prop) (s:S) (h:s.op=4) (hn:s.name.size=0) (he:s.x.length=0↔p) (hx:∀y,y∈s.x→MayX y) (hl:∀y,y∈s.l→MayS y):MayArm p s
end
theorem MayArm_iff{p:Prop}{s:S}:MayArm p s↔s.op=4∧s.name.size=0∧(s.x.length=0↔p)∧(∀y,y∈s.x→MayX y)∧(∀y,y∈s.l→MayS y):=
 ⟨fun h=>by cases h with|mk _ _ h hn he hx hl=>exact⟨h,hn,he,hx,hl⟩,fun⟨h,hn,he,hx,hl⟩=>.mk p s h hn he hx hl⟩
def z4k(l:List S):Prop:=1≤l.length∧∀(i:Nat) (hi:i<l.length),MayArm (i+1=l.length) l[i]
def z6z(l:List S):Prop:=∀y,y∈l→MayS y
def q4x(l:List X):Prop:=∀y,y∈l→MayX y
theorem MayS_iff{s:S}:MayS s↔q4x s.x∧(s.op≠6∧s.name.size=0∨s.op=6∧z2y s.name)∧
 (s.op=1∧s.x.length=2∧z3y s.x∧s.l.length=0∨s.op=2∧s.x.length=1∧s.l.length=2∧q5l s.l 0=5∧(q5l s.l 1=5∨q5l s.l 1=2)∧z6z s.l∨
   s.op=3∧s.x.length=1∧z4k s.l∨s.op=5∧s.x.length=0∧z6z s.l∨s.op=6∧s.x.length=2∧z6z s.l):=by
 constructor
 ·intro h;cases h with
  |assign _ h hx hn h2 ht hl=>exact⟨hx,.inl ⟨by omega,hn⟩,.inl ⟨h,h2,ht,hl⟩⟩
  |if_ _ h hx hn h1 h2 h3 h4 hl=>exact⟨hx,.inl ⟨by omega,hn⟩,.inr (.inl ⟨h,h1,h2,h3,h4,hl⟩)⟩
  |case_ _ h hx hn h1 h2 hl=>exact⟨hx,.inl ⟨by omega,hn⟩,.inr (.inr (.inl ⟨h,h1,h2,hl⟩))⟩
  |block _ h hn h0 hl=>exact⟨fun y hy=>(by rw[List.eq_nil_of_length_eq_zero h0] at hy;cases hy),.inl ⟨by omega,hn⟩,.inr (.inr (.inr (.inl ⟨h,h0,hl⟩)))⟩
  |for_ _ h hx hn h2 hl=>exact⟨hx,.inr ⟨h,hn⟩,.inr (.inr (.inr (.inr ⟨h,h2,hl⟩)))⟩
 ·rintro⟨hx,hn,h⟩;rcases h with⟨h,h2,ht,hl⟩|⟨h,h1,h2,h3,h4,hl⟩|⟨h,h1,h2,hl⟩|⟨h,h0,hl⟩|⟨h,h2,hl⟩
  ·exact .assign s h hx (by omega) h2 ht hl
  ·exact .if_ s h hx (by omega) h1 h2 h3 h4 hl
  ·exact .case_ s h hx (by omega) h1 h2 hl
  ·exact .block s h (by omega) h0 hl
  ·exact .for_ s h hx (by rcases hn with hn|hn;exact(hn.1 h).elim;exact hn.2) h2 hl
def q3g(b:Bnd):Prop:=z2y b.name∧MayX b.x
def k6a(p:Prt):Prop:=z2y p.name∧MayX p.w
def z7k(p:Prop)(s:ByteArray):Prop:=p∧z2y s∨¬p∧s.size=0
def k1g(op:Int):Nat:=if op=3∨op=4∨op=9 then 2 else if op=5∨op=6∨op=7 then 0 else 1
def k2y(x:Itm):Prop:=1≤x.op∧x.op≤10∧z7k (x.op≠4∧x.op≠5∧x.op≠6∧x.op≠8) x.name∧z7k (x.op=7∨x.op=9) x.of∧x.x.length=k1g x.op∧(x.op=4→z3y x.x)∧
 (x.op=5∨x.op=6∨x.s.length=0)∧(x.op=8∨x.op=9∨x.l.length=0)∧(x.op=8∨x.els.length=0)∧(x.op=7∨x.params.length=0∧x.binds.length=0)
inductive MayI:Itm→Prop
 |mk (x:Itm) (h:k2y x) (hx:q4x x.x) (hs:z6z x.s) (hl:∀y,y∈x.l→MayI y) (he:∀y,y∈x.els→MayI y) (hp:∀y,y∈x.params→q3g y) (hb:∀y,y∈x.binds→q3g y):MayI x
theorem MayI_iff{x:Itm}:MayI x↔k2y x∧q4x x.x∧z6z x.s∧(∀y,y∈x.l→MayI y)∧(∀y,y∈x.els→MayI y)∧(∀y,y∈x.params→q3g y)∧(∀y,y∈x.binds→q3g y):=
 ⟨fun h=>by cases h with|mk _ h hx hs hl he hp hb=>exact⟨h,hx,hs,hl,he,hp,hb⟩,fun⟨h,hx,hs,hl,he,hp,hb⟩=>.mk x h hx hs hl he hp hb⟩
def j2j(m:Mdl):Prop:=z2y m.name∧(∀y,y∈m.params→q3g y)∧(∀y,y∈m.ports→k6a y)∧(∀y,y∈m.items→MayI y)
theorem k5b(w:World)(v0:Value)(t:TypeId):∃(W1:World) (e0:Later W1),w.alloc (.cells #[v0] t)=e0.w∧Ext w W1∧W1.heap.size=w.heap.size+1∧(∀e:Later W1,e.w.cell? ⟨w.heap.size,0,none⟩=some v0):=
 ⟨w.alloc (.cells #[v0] t),⟨_,y1g _⟩,rfl,y1v _ _,by simp,fun e=>((y1w w t [v0]).ext e.ext).cell 0⟩
theorem y1c(w:World)(v0 v1:Value)(t:TypeId):∃(W1:World) (e0:Later W1),w.alloc (.cells #[v0,v1] t)=e0.w∧Ext w W1∧W1.heap.size=w.heap.size+1∧(∀e:Later W1,e.w.cell? ⟨w.heap.size,0,none⟩=some v0)∧(∀e:Later W1,e.w.cell? ⟨w.heap.size,1,none⟩=some v1):=
 ⟨w.alloc (.cells #[v0,v1] t),⟨_,y1g _⟩,rfl,y1v _ _,by simp,fun e=>((y1w w t [v0,v1]).ext e.ext).cell 0,fun e=>((y1w w t [v0,v1]).ext e.ext).cell 1⟩
theorem k9v(w:World)(v0 v1 v2:Value)(t:TypeId):∃(W1:World) (e0:Later W1),w.alloc (.cells #[v0,v1,v2] t)=e0.w∧Ext w W1∧W1.heap.size=w.heap.size+1∧(∀e:Later W1,e.w.cell? ⟨w.heap.size,0,none⟩=some v0)∧(∀e:Later W1,e.w.cell? ⟨w.heap.size,1,none⟩=some v1)∧(∀e:Later W1,e.w.cell? ⟨w.heap.size,2,none⟩=some v2):=
 ⟨w.alloc (.cells #[v0,v1,v2] t),⟨_,y1g _⟩,rfl,y1v _ _,by simp,fun e=>((y1w w t [v0,v1,v2]).ext e.ext).cell 0,fun e=>((y1w w t [v0,v1,v2]).ext e.ext).cell 1,fun e=>((y1w w t [v0,v1,v2]).ext e.ext).cell 2⟩
theorem q2c(w:World)(v0 v1 v2 v3:Value)(t:TypeId):∃(W1:World) (e0:Later W1),w.alloc (.cells #[v0,v1,v2,v3] t)=e0.w∧Ext w W1∧W1.heap.size=w.heap.size+1∧(∀e:Later W1,e.w.cell? ⟨w.heap.size,0,none⟩=some v0)∧(∀e:Later W1,e.w.cell? ⟨w.heap.size,1,none⟩=some v1)∧(∀e:Later W1,e.w.cell? ⟨w.heap.size,2,none⟩=some v2)∧(∀e:Later W1,e.w.cell? ⟨w.heap.size,3,none⟩=some v3):=
 ⟨w.alloc (.cells #[v0,v1,v2,v3] t),⟨_,y1g _⟩,rfl,y1v _ _,by simp,fun e=>((y1w w t [v0,v1,v2,v3]).ext e.ext).cell 0,fun e=>((y1w w t [v0,v1,v2,v3]).ext e.ext).cell 1,fun e=>((y1w w t [v0,v1,v2,v3]).ext e.ext).cell 2,fun e=>((y1w w t [v0,v1,v2,v3]).ext e.ext).cell 3⟩
theorem k9u(w:World)(v0 v1 v2 v3 v4:Value)(t:TypeId):∃(W1:World) (e0:Later W1),w.alloc (.cells #[v0,v1,v2,v3,v4] t)=e0.w∧Ext w W1∧W1.heap.size=w.heap.size+1∧(∀e:Later W1,e.w.cell? ⟨w.heap.size,0,none⟩=some v0)∧(∀e:Later W1,e.w.cell? ⟨w.heap.size,1,none⟩=some v1)∧(∀e:Later W1,e.w.cell? ⟨w.heap.size,2,none⟩=some v2)∧(∀e:Later W1,e.w.cell? ⟨w.heap.size,3,none⟩=some v3)∧(∀e:Later W1,e.w.cell? ⟨w.heap.size,4,none⟩=some v4):=
 ⟨w.alloc (.cells #[v0,v1,v2,v3,v4] t),⟨_,y1g _⟩,rfl,y1v _ _,by simp,fun e=>((y1w w t [v0,v1,v2,v3,v4]).ext e.ext).cell 0,fun e=>((y1w w t [v0,v1,v2,v3,v4]).ext e.ext).cell 1,fun e=>((y1w w t [v0,v1,v2,v3,v4]).ext e.ext).cell 2,fun e=>((y1w w t [v0,v1,v2,v3,v4]).ext e.ext).cell 3,fun e=>((y1w w t [v0,v1,v2,v3,v4]).ext e.ext).cell 4⟩
theorem z6b(w:World)(v0 v1 v2 v3 v4 v5:Value)(t:TypeId):∃(W1:World) (e0:Later W1),w.alloc (.cells #[v0,v1,v2,v3,v4,v5] t)=e0.w∧Ext w W1∧W1.heap.size=w.heap.size+1∧(∀e:Later W1,e.w.cell? ⟨w.heap.size,0,none⟩=some v0)∧(∀e:Later W1,e.w.cell? ⟨w.heap.size,1,none⟩=some v1)∧(∀e:Later W1,e.w.cell? ⟨w.heap.size,2,none⟩=some v2)∧(∀e:Later W1,e.w.cell? ⟨w.heap.size,3,none⟩=some v3)∧(∀e:Later W1,e.w.cell? ⟨w.heap.size,4,none⟩=some v4)∧(∀e:Later W1,e.w.cell? ⟨w.heap.size,5,none⟩=some v5):=
 ⟨w.alloc (.cells #[v0,v1,v2,v3,v4,v5] t),⟨_,y1g _⟩,rfl,y1v _ _,by simp,fun e=>((y1w w t [v0,v1,v2,v3,v4,v5]).ext e.ext).cell 0,fun e=>((y1w w t [v0,v1,v2,v3,v4,v5]).ext e.ext).cell 1,fun e=>((y1w w t [v0,v1,v2,v3,v4,v5]).ext e.ext).cell 2,fun e=>((y1w w t [v0,v1,v2,v3,v4,v5]).ext e.ext).cell 3,fun e=>((y1w w t [v0,v1,v2,v3,v4,v5]).ext e.ext).cell 4,fun e=>((y1w w t [v0,v1,v2,v3,v4,v5]).ext e.ext).cell 5⟩
theorem k5a(w:World)(v0 v1 v2 v3 v4 v5 v6:Value)(t:TypeId):∃(W1:World) (e0:Later W1),w.alloc (.cells #[v0,v1,v2,v3,v4,v5,v6] t)=e0.w∧Ext w W1∧W1.heap.size=w.heap.size+1∧(∀e:Later W1,e.w.cell? ⟨w.heap.size,0,none⟩=some v0)∧(∀e:Later W1,e.w.cell? ⟨w.heap.size,1,none⟩=some v1)∧(∀e:Later W1,e.w.cell? ⟨w.heap.size,2,none⟩=some v2)∧(∀e:Later W1,e.w.cell? ⟨w.heap.size,3,none⟩=some v3)∧(∀e:Later W1,e.w.cell? ⟨w.heap.size,4,none⟩=some v4)∧(∀e:Later W1,e.w.cell? ⟨w.heap.size,5,none⟩=some v5)∧(∀e:Later W1,e.w.cell? ⟨w.heap.size,6,none⟩=some v6):=
 ⟨w.alloc (.cells #[v0,v1,v2,v3,v4,v5,v6] t),⟨_,y1g _⟩,rfl,y1v _ _,by simp,fun e=>((y1w w t [v0,v1,v2,v3,v4,v5,v6]).ext e.ext).cell 0,fun e=>((y1w w t [v0,v1,v2,v3,v4,v5,v6]).ext e.ext).cell 1,fun e=>((y1w w t [v0,v1,v2,v3,v4,v5,v6]).ext e.ext).cell 2,fun e=>((y1w w t [v0,v1,v2,v3,v4,v5,v6]).ext e.ext).cell 3,fun e=>((y1w w t [v0,v1,v2,v3,v4,v5,v6]).ext e.ext).cell 4,fun e=>((y1w w t [v0,v1,v2,v3,v4,v5,v6]).ext e.ext).cell 5,fun e=>((y1w w t [v0,v1,v2,v3,v4,v5,v6]).ext e.ext).cell 6⟩
theorem y1b(w:World)(v0 v1 v2 v3 v4 v5 v6 v7:Value)(t:TypeId):∃(W1:World) (e0:Later W1),w.alloc (.cells #[v0,v1,v2,v3,v4,v5,v6,v7] t)=e0.w∧Ext w W1∧W1.heap.size=w.heap.size+1∧(∀e:Later W1,e.w.cell? ⟨w.heap.size,0,none⟩=some v0)∧(∀e:Later W1,e.w.cell? ⟨w.heap.size,1,none⟩=some v1)∧(∀e:Later W1,e.w.cell? ⟨w.heap.size,2,none⟩=some v2)∧(∀e:Later W1,e.w.cell? ⟨w.heap.size,3,none⟩=some v3)∧(∀e:Later W1,e.w.cell? ⟨w.heap.size,4,none⟩=some v4)∧(∀e:Later W1,e.w.cell? ⟨w.heap.size,5,none⟩=some v5)∧(∀e:Later W1,e.w.cell? ⟨w.heap.size,6,none⟩=some v6)∧(∀e:Later W1,e.w.cell? ⟨w.heap.size,7,none⟩=some v7):=
 ⟨w.alloc (.cells #[v0,v1,v2,v3,v4,v5,v6,v7] t),⟨_,y1g _⟩,rfl,y1v _ _,by simp,fun e=>((y1w w t [v0,v1,v2,v3,v4,v5,v6,v7]).ext e.ext).cell 0,fun e=>((y1w w t [v0,v1,v2,v3,v4,v5,v6,v7]).ext e.ext).cell 1,fun e=>((y1w w t [v0,v1,v2,v3,v4,v5,v6,v7]).ext e.ext).cell 2,fun e=>((y1w w t [v0,v1,v2,v3,v4,v5,v6,v7]).ext e.ext).cell 3,fun e=>((y1w w t [v0,v1,v2,v3,v4,v5,v6,v7]).ext e.ext).cell 4,fun e=>((y1w w t [v0,v1,v2,v3,v4,v5,v6,v7]).ext e.ext).cell 5,fun e=>((y1w w t [v0,v1,v2,v3,v4,v5,v6,v7]).ext e.ext).cell 6,fun e=>((y1w w t [v0,v1,v2,v3,v4,v5,v6,v7]).ext e.ext).cell 7⟩
theorem k1m(w:World)(v0 v1 v2 v3 v4 v5 v6 v7 v8:Value)(t:TypeId):∃(W1:World) (e0:Later W1),w.alloc (.cells #[v0,v1,v2,v3,v4,v5,v6,v7,v8] t)=e0.w∧Ext w W1∧W1.heap.size=w.heap.size+1∧(∀e:Later W1,e.w.cell? ⟨w.heap.size,0,none⟩=some v0)∧(∀e:Later W1,e.w.cell? ⟨w.heap.size,1,none⟩=some v1)∧(∀e:Later W1,e.w.cell? ⟨w.heap.size,2,none⟩=some v2)∧(∀e:Later W1,e.w.cell? ⟨w.heap.size,3,none⟩=some v3)∧(∀e:Later W1,e.w.cell? ⟨w.heap.size,4,none⟩=some v4)∧(∀e:Later W1,e.w.cell? ⟨w.heap.size,5,none⟩=some v5)∧(∀e:Later W1,e.w.cell? ⟨w.heap.size,6,none⟩=some v6)∧(∀e:Later W1,e.w.cell? ⟨w.heap.size,7,none⟩=some v7)∧(∀e:Later W1,e.w.cell? ⟨w.heap.size,8,none⟩=some v8):=
 ⟨w.alloc (.cells #[v0,v1,v2,v3,v4,v5,v6,v7,v8] t),⟨_,y1g _⟩,rfl,y1v _ _,by simp,fun e=>((y1w w t [v0,v1,v2,v3,v4,v5,v6,v7,v8]).ext e.ext).cell 0,fun e=>((y1w w t [v0,v1,v2,v3,v4,v5,v6,v7,v8]).ext e.ext).cell 1,fun e=>((y1w w t [v0,v1,v2,v3,v4,v5,v6,v7,v8]).ext e.ext).cell 2,fun e=>((y1w w t [v0,v1,v2,v3,v4,v5,v6,v7,v8]).ext e.ext).cell 3,fun e=>((y1w w t [v0,v1,v2,v3,v4,v5,v6,v7,v8]).ext e.ext).cell 4,fun e=>((y1w w t [v0,v1,v2,v3,v4,v5,v6,v7,v8]).ext e.ext).cell 5,fun e=>((y1w w t [v0,v1,v2,v3,v4,v5,v6,v7,v8]).ext e.ext).cell 6,fun e=>((y1w w t [v0,v1,v2,v3,v4,v5,v6,v7,v8]).ext e.ext).cell 7,fun e=>((y1w w t [v0,v1,v2,v3,v4,v5,v6,v7,v8]).ext e.ext).cell 8⟩
def Later.under{W W1:World}(e:Later W1)(h:Ext W W1):Later W:=⟨e.w,h.trans e.ext⟩
def ECalls(P:Program)(f:FuncId)(args:Array Value)(W:World)(v:Value):Prop:=∀w,Ext W w→Calls P f args w fun x w'=>x=.returned v∧Ext w w'
theorem ECalls.still{P:Program}{f:FuncId}{args:Array Value}{W:World}{v:Value}(h:∀w,Ext W w→Calls P f args w fun x w'=>x=.returned v∧w'=w):ECalls P f args W v:=
 fun w hw=>(h w hw).mono fun x w'' ⟨h1,h2⟩=>⟨h1,by rw[h2];exact y1g _⟩
theorem ECalls.later{P:Program}{f:FuncId}{args:Array Value}{W W1:World}{v:Value}(h:ECalls P f args W v)(hx:Ext W W1):ECalls P f args W1 v:=
 fun w hw=>h w (hx.trans hw)
theorem ECalls.at_{P:Program}{f:FuncId}{args:Array Value}{W:World}{v:Value}(h:ECalls P f args W v)(e:Later W):Calls P f args e.w fun x w''=>x=.returned v∧∃e':Later W,w''=e'.w:=
 y2a (h e.w e.ext)
theorem z0k{W W1:World}{p:Addr}{v:Value}(h:∀e:Later W,e.w.cell? p=some v)(hx:Ext W W1):∀e:Later W1,e.w.cell? p=some v:=fun e=>h (e.under hx)
theorem cellAt{W:World}{p:Addr}{v:Value}(h:W.cell? p=some v):∀e:Later W,e.w.cell? p=some v:=fun e=>e.ext.at_ h
theorem q1a(p q:Prop):yes (p∧q)=(yes p && yes q):=by rw[Bool.eq_iff_iff,yes_iff,Bool.and_eq_true,yes_iff,yes_iff]
theorem z7v(s:ByteArray):yes (z2y s)=z5t s:=by rw[Bool.eq_iff_iff,yes_iff,nameOk_iff]
def VB(b:Bnd):Prop:=b.name.size<4294967281∧VX b.x
def VP(b:Prt):Prop:=b.name.size<4294967281∧VX b.w
inductive VI:Itm→Prop
 |mk (x:Itm) (hn:x.name.size<4294967281) (ho:x.of.size<4294967281) (hx:∀y,y∈x.x→VX y) (hs:∀y,y∈x.s→VS y) (hl:∀y,y∈x.l→VI y) (he:∀y,y∈x.els→VI y) (hp:∀y,y∈x.params→VB y) (hb:∀y,y∈x.binds→VB y):VI x
theorem VI_iff{x:Itm}:VI x↔x.name.size<4294967281∧x.of.size<4294967281∧(∀y,y∈x.x→VX y)∧(∀y,y∈x.s→VS y)∧(∀y,y∈x.l→VI y)∧(∀y,y∈x.els→VI y)∧(∀y,y∈x.params→VB y)∧(∀y,y∈x.binds→VB y):=
 ⟨fun h=>by cases h with|mk _ hn ho hx hs hl he hp hb=>exact⟨hn,ho,hx,hs,hl,he,hp,hb⟩,fun⟨hn,ho,hx,hs,hl,he,hp,hb⟩=>.mk x hn ho hx hs hl he hp hb⟩
def VM(m:Mdl):Prop:=m.name.size<4294967281∧(∀y,y∈m.params→VB y)∧(∀y,y∈m.ports→VP y)∧(∀y,y∈m.items→VI y)
def q8f(l:List Oper)(o:Oper):Bool:=
 o.guard.isNone && (List.range l.length).all (fun i=>o.after.any fun e=>Region.binds .any e && e.on==i) && o.after.all (fun e=>!Region.binds .any e||decide (e.on<l.length)) &&
  (List.range l.length).all (fun i=>match l[i]? with
    |some x=>x.after.all (fun e=>!Region.binds .any e||decide (e.on<i)) && (match x.guard with|none=>true|some (j,_)=>decide (j<l.length))
    |none=>true)
section
variable {P : Program} {l : List Oper} {o : Oper}
structure TailFacts(l:List Oper)(o:Oper):Prop where
 guard:o.guard=none
 waits:∀i,i<l.length→∃e∈o.after,Region.binds .any e=true∧e.on=i
 last:∀e∈o.after,Region.binds .any e=true→e.on<l.length
 order:∀(i:Nat) (x:Oper),l[i]? =some x→∀e∈x.after,Region.binds .any e=true→e.on<i
 guards:∀(i:Nat) (x:Oper),l[i]? =some x→∀j b,x.guard=some (j,b)→j<l.length
theorem q2j(h:q8f l o=true):TailFacts l o:=by
 simp only[q8f,Bool.and_eq_true,List.all_eq_true,List.mem_range,Array.all_eq_true_iff_forall_mem,Bool.or_eq_true,Bool.not_eq_true',decide_eq_true_eq] at h;obtain⟨⟨⟨h1,h2⟩,h3⟩,h4⟩:=h;have lt:∀{i:Nat} {x:Oper},l[i]? =some x→i<l.length:=fun hi=>(y1t.1 hi).1
 refine⟨by simpa using h1,fun i hi=>?_,fun e he hb=>?_,fun i x hx e he hb=>?_,fun i x hx j b hg=>?_⟩
 ·obtain⟨e,he,hb⟩:=Array.any_eq_true'.1 (h2 i hi);simp only[Bool.and_eq_true,beq_iff_eq] at hb;exact⟨e,he,hb.1,hb.2⟩
 ·rcases h3 e he with h|h
  ·rw[h] at hb;cases hb
  ·exact h
 ·have:=h4 i (lt hx);simp only[hx,Bool.and_eq_true,Array.all_eq_true_iff_forall_mem,Bool.or_eq_true,Bool.not_eq_true',decide_eq_true_eq] at this;rcases this.1 e he with h|h
  ·rw[h] at hb;cases hb
  ·exact h
 ·have:=h4 i (lt hx);simp only[hx,Bool.and_eq_true,hg,decide_eq_true_eq] at this;exact this.2
theorem z2a{listed:Array Bool}{j:Nat}(d:Bool)(h:j<listed.size):(listed.push false).getD j d=listed.getD j d:=by
 simp[Array.getElem?_push_lt h,h]
theorem q1v{i:Nat}(h:i<l.length):(l++[o]).toArray[i]? =l.toArray[i]? :=by
 simp[List.getElem?_append_left h]
theorem z8f(T:TailFacts l o){listed:Array Bool}(hs:listed.size=l.length){i:Nat}(hi:i<l.length):
 i∈Region.ready .any (l++[o]).toArray (listed.push false)↔i∈Region.ready .any l.toArray listed:=by
 rw[mem_ready,mem_ready,z2a true (by omega),q1v hi];constructor
 ·rintro⟨h0,x,hx,hall⟩;refine⟨h0,x,hx,fun e he hb=>?_⟩;have:=T.order i x (by simpa using hx) e he hb;rw[←z2a false (by omega)];exact hall e he hb
 ·rintro⟨h0,x,hx,hall⟩;refine⟨h0,x,hx,fun e he hb=>?_⟩;have:=T.order i x (by simpa using hx) e he hb;rw[z2a false (by omega)];exact hall e he hb
theorem q6i(T:TailFacts l o){listed:Array Bool}(hs:listed.size=l.length)(h:Region.ready .any l.toArray listed=[]):∀n i,i<n→i<l.length→listed.getD i true=true:=by
 intro n;induction n with
 |zero=>intro i hi;omega
 |succ n ih=>
  intro i hin hi;cases hl:listed.getD i true with
  |true=>rfl
  |false=>
   have:i∈Region.ready .any l.toArray listed:=mem_ready.2 ⟨hl,l[i],by simp[List.getElem?_eq_getElem hi],fun e he hb=>by
    have hlt:=T.order i l[i] (y1o hi) e he hb;have:=ih e.on (by omega) (by omega);have hz:e.on<listed.size:=by omega
    simpa [hz] using this⟩
   rw[h] at this;cases this
theorem q1q(T:TailFacts l o){listed:Array Bool}(hs:listed.size=l.length):
 l.length∈Region.ready .any (l++[o]).toArray (listed.push false)↔Region.ready .any l.toArray listed=[]:=by
 constructor
 ·intro h;obtain⟨_,x,hx,hall⟩:=mem_ready.1 h;have hxo:x=o:=by simpa using hx.symm
  subst hxo;rw[List.eq_nil_iff_forall_not_mem];intro i hi;obtain⟨h0,y,hy,_⟩:=mem_ready.1 hi;have hlt:i<l.length:=by
   have:=(y1n.1 hy).1;simpa using this
  obtain⟨e,he,hb,heq⟩:=T.waits i hlt;have:=hall e he hb;rw[heq,z2a false (by omega)] at this;have hz:i<listed.size:=by omega
  simp[hz] at h0 this;rw[h0] at this;cases this
 ·intro h;refine mem_ready.2 ⟨?_,o,by simp,fun e he hb=>?_⟩
  ·rw[←hs];simp
  ·have hlt:=T.last e he hb;have:=q6i T hs h (e.on+1) e.on (by omega) hlt;rw[z2a false (by omega)];have hz:e.on<listed.size:=by omega
   simpa [hz] using this
theorem z4z{ops:Array Oper}{listed:Array Bool}{i:Nat}(h:i∈Region.ready .any ops listed):i<ops.size:=by
 obtain⟨_,y,hy,_⟩:=mem_ready.1 h;exact(y1n.1 hy).1
def j4p(P:Program)(o:Oper)(Q:Exit→Act→World→Prop):Exit→Act→World→Prop
 |.normal,a,w=>o.wp P a w (fun a w=>Q .normal a w) Q
 |e,a,w=>Q e a w
theorem Oper.wp_tail{x:Oper}{a:Act}{w:World}{K:Act→World→Prop}{Q:Exit→Act→World→Prop}(h:x.wp P a w K (j4p P o Q)):x.wp P a w K Q:=by
 unfold Oper.wp at*;generalize (execOp a.eval x).run P w=r at*;cases r with
 |ok n w'=>
  cases n<;>simp only[Oper.upon] at h⊢<;>
   first
    |exact h
    |exact Calls.mono h (fun e w'' he=>by cases e<;>exact he)
    |exact h.elim
 |halt y w'=>cases y<;>simp only[Oper.upon] at h⊢<;>exact h
theorem q5a(T:TailFacts l o){Q:Exit→Act→World→Prop}:∀(fuel:Nat) (listed:Array Bool) (a:Act) (w:World),listed.size=l.length→
 wpAny P .any l.toArray (j4p P o Q) fuel listed a w→wpAny P .any (l++[o]).toArray Q (fuel+1) (listed.push false) a w:=by
 have done:∀(fuel:Nat) (listed:Array Bool) (a:Act) (w:World),listed.size=l.length→Region.ready .any l.toArray listed=[]→o.wp P a w (fun a w=>Q .normal a w) Q→
  wpOp P (l++[o]).toArray Q l.length (wpAny P .any (l++[o]).toArray Q fuel ((listed.push false).setIfInBounds l.length true)) a w:=by
  intro fuel listed a w hs hr h;have hnil:Region.ready .any (l++[o]).toArray ((listed.push false).setIfInBounds l.length true)=[]:=by
   rw[List.eq_nil_iff_forall_not_mem];intro i hi;obtain⟨h0,y,hy,hall⟩:=mem_ready.1 hi;have hlt:=z4z hi;simp only[List.size_toArray,List.length_append,List.length_cons,List.length_nil] at hlt;by_cases hin:i=l.length
   ·subst hin;simp[hs] at h0
   ·rw[getD_set_ne true (Ne.symm hin),z2a true (by omega)] at h0;have:=q6i T hs hr (i+1) i (by omega) (by omega);rw[h0] at this;cases this
  unfold wpOp;simp only[List.getElem?_toArray,List.getElem?_append_right (Nat.le_refl _),Nat.sub_self,List.getElem?_cons_zero];rw[if_pos (by simp[Region.wanted,T.guard])];refine .inl (Oper.wp_mono (fun a' w' hq=>?_) h);cases fuel with
  |zero=>exact⟨hnil,hq⟩
  |succ fuel=>exact⟨fun _=>hq,fun i hi=>by rw[hnil] at hi;cases hi⟩
 intro fuel;induction fuel with
 |zero=>
  intro listed a w hs h;refine⟨fun h0=>?_,fun i hi=>?_⟩
  ·have:=(q1q T hs).2 h.1;rw[h0] at this;cases this
  ·have hlt:=z4z hi;simp only[List.size_toArray,List.length_append,List.length_cons,List.length_nil] at hlt;by_cases hin:i=l.length
   ·subst hin;exact done 0 listed a w hs h.1 h.2
   ·have:=(z8f T hs (by omega)).1 hi;rw[h.1] at this;cases this
 |succ fuel ih=>
  intro listed a w hs h;refine⟨fun h0=>?_,fun i hi=>?_⟩
  ·have hr:Region.ready .any l.toArray listed=[]:=by
    rw[List.eq_nil_iff_forall_not_mem];intro i hi;have hlt:=z4z hi;have:=(z8f T hs (by simpa using hlt)).2 hi;rw[h0] at this;cases this
   have:=(q1q T hs).2 hr;rw[h0] at this;cases this
  ·have hlt:=z4z hi;simp only[List.size_toArray,List.length_append,List.length_cons,List.length_nil] at hlt;by_cases hin:i=l.length
   ·subst hin;have hr:=(q1q T hs).1 hi;exact done (fuel+1) listed a w hs hr (h.1 hr)
   ·have hil:i<l.length:=by omega
    have hi':=(z8f T hs hil).1 hi;have h1:=h.2 i hi';have hset:(listed.push false).setIfInBounds i true=(listed.setIfInBounds i true).push false:=by
     apply Array.ext_getElem?;intro j;simp only[Array.getElem?_setIfInBounds,Array.getElem?_push,Array.size_setIfInBounds,Array.size_push];by_cases h1:i=j
     ·subst h1;rw[if_pos rfl,if_pos (by omega),if_neg (by omega),if_pos rfl,if_pos (by omega)]
     ·rw[if_neg h1,if_neg h1]
    rw[hset];unfold wpOp at h1⊢;rw[q1v hil];simp only[List.getElem?_toArray,List.getElem?_eq_getElem hil] at h1⊢;have hy:Region.wanted l[i] (yielded (l++[o]).toArray a.tmps)=Region.wanted l[i] (yielded l.toArray a.tmps):=by
     unfold Region.wanted;cases hg:l[i].guard with
     |none=>rfl
     |some g=>
      obtain⟨j,b⟩:=g;have hj:=T.guards i l[i] (y1o hil) j b hg;simp only[yielded,q1v hj]
    rw[hy];split
    ·rename_i hw
     rw[if_pos hw] at h1;rcases h1 with h1|⟨h1,a0,w0,hq⟩
     ·exact .inl (Oper.wp_mono (fun a' w' hk=>ih _ a' w' (by simpa using hs) hk) (Oper.wp_tail h1))
     ·exact .inr ⟨h1,a0,w0,hq⟩
    ·rename_i hw
     rw[if_neg hw] at h1;exact ih _ _ _ (by simpa using hs) h1
theorem z7w{ops:Array Oper}{C:World→Prop}{Q Q':Act→Prop}(hq:∀a,Q a→Q' a):∀(l:List Oper) (a:Act),wpQuiet P ops C Q l a→wpQuiet P ops C Q' l a
 |[],_,h=>hq _ h
 |x::r,a,h=>by
  unfold wpQuiet at h⊢;split
  ·rename_i hw;rw[if_pos hw] at h
   exact Oper.quiet_mono (fun a'=>z7w hq r a') h
  ·rename_i hw;rw[if_neg hw] at h
   exact z7w hq r _ h
theorem z9c{id:Nat}{Q:Exit→Act→World→Prop}{a:Act}{w W:World}(l:List Oper)(o:Oper)(hm:P.follows .mixedOrders=true)(hB:Region.lexB .any l.toArray=true)(hT:q8f l o=true)(hw:Ext W w)
 (h:wpQuiet P l.toArray (fun w'=>∃e:Later W,w'=e.w) (fun a'=>∀w',(∃e:Later W,w'=e.w)→o.wp P a' w' (fun a w=>Q .normal a w) Q) l a):(Code.region id (l++[o]).toArray true).wp P Q a w:=by
 refine wp_region_any hm ?_;have hx:(Array.replicate (l++[o]).toArray.size false)=(Array.replicate l.length false).push false:=by
  simp[Array.replicate_succ]
 rw[hx];have hsz:(l++[o]).toArray.size=l.length+1:=by simp
 rw[hsz];refine q5a (q2j hT) l.length _ a _ (by simp) ?_;simp only[Region.lexB,Bool.and_eq_true] at hB;refine wpAny_of_quiet (C:=fun w'=>∃e:Later W,w'=e.w) (Q:=fun a'=>∀w',(∃e:Later W,w'=e.w)→o.wp P a' w' (fun a w=>Q .normal a w) Q) (fun _ w' hw' h=>h w' hw') _ _ _ _ (y1h hw.drew) ?_;exact wpAnyQ_lex (C:=fun w'=>∃e:Later W,w'=e.w) (md:=.any) hB.1 l 0 (Array.replicate l.length false) a (by simp) (by simpa using hB.2) h
theorem z0n{id:Nat}{Q:Exit→Act→World→Prop}{a:Act}{w W:World}{l:List Oper}{o:Oper}(hm:P.follows .mixedOrders=true)(ho:l.reverse.head? =some o)(hB:Region.lexB .any l.dropLast.toArray=true)(hT:q8f l.dropLast o=true)(hw:Ext W w)
 (h:wpQuiet P l.dropLast.toArray (fun w'=>∃e:Later W,w'=e.w) (fun a'=>∀e:Later W,o.wp P a' e.w (fun a w=>Q .normal a w) Q) l.dropLast a):(Code.region id l.toArray true).wp P Q a w:=by
 have hl:l=l.dropLast++[o]:=by
  rw[List.head?_reverse,List.getLast?_eq_some_iff] at ho;obtain⟨ys,rfl⟩:=ho;simp
 have:=z9c (id:=id) (Q:=Q) (a:=a) (w:=w) (W:=W) l.dropLast o hm hB hT hw ?_
 ·rwa[←hl] at this
 ·refine z7w (fun a' h w' hw'=>?_) _ _ h;obtain⟨e,rfl⟩:=hw';exact h e
end
section
variable {H : Type} {enc : TypeId × Value → H} {w : World} {spare : Nat → Bool} {held : Bool}
theorem q3f(d:DataW H):1≤Rows.uptoBulk d:=by
 cases d with
 |lit l=>cases l<;>simp[Rows.uptoBulk]
 |nil=>simp[Rows.uptoBulk]
 |ptr d=>simp[Rows.uptoBulk]
 |slice elems spare=>simp[Rows.uptoBulk]
 |agg parts=>simp[Rows.uptoBulk]
 |iface t d=>simp[Rows.uptoBulk]
 |map entries=>simp[Rows.uptoBulk]
 |held h=>simp[Rows.uptoBulk]
theorem k1l{d:DataW H}{l:List (DataW H)}(h:d∈l):Rows.uptoBulk d≤Rows.uptoBulkAll l:=by
 induction l with
 |nil=>cases h
 |cons x r ih=>
  simp only[Rows.uptoBulkAll];rcases List.mem_cons.1 h with e|e
  ·subst e;omega
  ·have:=ih e;omega
theorem j2i(l r:List (DataW H)):Rows.uptoBulkAll (l++r)=Rows.uptoBulkAll l+Rows.uptoBulkAll r:=by
 induction l with
 |nil=>simp[Rows.uptoBulkAll]
 |cons x l ih=>simp only[List.cons_append,Rows.uptoBulkAll,ih];omega
theorem j2b{α:Type}(Q:Nat→α→Prop)(sz:α→Nat)(D:Nat→DataW H):∀len,(∀i,i<len→∃y,Q i y∧sz y≤Rows.uptoBulk (D i))→
 ∃l:List α,l.length=len∧(∀k (h:k<l.length),Q k l[k])∧z0e sz l≤Rows.uptoBulkAll ((List.range len).map D):=by
 intro len;induction len with
 |zero=>intro _;exact⟨[],rfl,fun k h=>absurd h (by simp),by simp[z0e]⟩
 |succ len ih=>
  intro h;obtain⟨l,h1,h2,h3⟩:=ih (fun i hi=>h i (by omega));obtain⟨y,hy,hz⟩:=h len (by omega);refine⟨l++[y],by simp[h1],fun k hk=>?_,?_⟩
  ·by_cases e:k<l.length
   ·rw[List.getElem_append_left e];exact h2 k e
   ·have:k=len:=by simp at hk;omega
    subst this;rw[List.getElem_append_right (by omega)];simpa [h1] using hy
  ·rw[z5u,List.range_succ,List.map_append,j2i];simp only[z0e,List.map_cons,List.map_nil,Rows.uptoBulkAll];omega
theorem k1j{x:Addr}{v:Value}(h:w.cell? x=some v):x.spot=none:=by
 cases hsp:x.spot with
 |none=>rfl
 |some s=>
  simp only[World.cell?] at h;split at h
  ·simp[hsp] at h
  ·cases h
theorem k9z{a:Addr}(h:a.spot=none)(k:Nat):a.add k=⟨a.block,a.off+k,none⟩:=by
 unfold Addr.add;split
 ·rename_i h0
  subst h0;cases a
  simp_all
 ·rfl
theorem j8k{α:Type}{R:α→List Value→Prop}{V:α→Prop}{sz:α→Nat}{t e:TypeId}{n:Nat}(ht:Tryz.prog.underlying t=some (.slice e))(hc:Tryz.prog.cellsOf e=n)(hn:0<n){fuel:Nat}{cs:List Value}{d:DataW H}{ps:List MemPlace}
 (h1:∀y cs,R y cs→∀v,v∈cs→v.oneCell'=true) (h:DataW.trod enc Tryz.prog w 0 spare held fuel t cs=some (d,ps))
 (hel:∀fuel' cs' d' ps',Rows.uptoBulk d'<Rows.uptoBulk d→DataW.trod enc Tryz.prog w 0 spare held fuel' e cs'=some (d',ps')→∃y,R y cs'∧V y∧sz y≤Rows.uptoBulk d'):
 ∃(l:List α) (v:Value),cs=[v]∧Sl R w w.heap.size n l v∧(∀y,y∈l→V y)∧z0e sz l+1≤Rows.uptoBulk d:=by
 rcases Go.Deep.open_slice ht h with⟨rfl,hx⟩|⟨a,len,cap,m,fu,D,Pl,rfl,-,hlc,-,hm,hx,hall⟩
 ·exact⟨[],_,rfl,y2c,(fun y hy=>by cases hy),by simp only[z0e];exact q3f d⟩
 ·have hd:d=.slice ((List.range len).map D) ((List.range (m - len)).map fun j=>D (len+j)):=(Prod.mk.inj hx).1;have hml:len≤m:=by rw[hm];split<;>omega
  have hbd:Rows.uptoBulkAll ((List.range len).map D)+1≤Rows.uptoBulk d:=by rw[hd];simp only[Rows.uptoBulk];omega
  have hel':∀i,i<len→∃y,(ElemAt w w.heap.size (some a) n i (R y)∧V y)∧sz y≤Rows.uptoBulk (D i):=fun i hi=>by
   obtain⟨cs',hcs,htr⟩:=hall i (by omega);rw[hc] at hcs;have hDi:Rows.uptoBulk (D i)≤Rows.uptoBulkAll ((List.range len).map D):=k1l (y2f.2 ⟨i,List.mem_range.2 hi,rfl⟩);obtain⟨y,hR,hV,hz⟩:=hel fu cs' (D i) (Pl i) (by omega) htr;refine⟨y,⟨?_,hV⟩,hz⟩;obtain⟨hb0,hlen,hcell⟩:=World.cells?_some hcs;obtain⟨cs0,hcs0,-⟩:=hall 0 (by omega);rw[hc,Nat.zero_mul] at hcs0;obtain⟨-,hlen0,hcell0⟩:=World.cells?_some hcs0;have hsp:a.spot=none:=by
    have h0:=hcell0 0 (by omega);rw[List.getElem?_eq_getElem (by omega)] at h0;have:=k1j h0;simpa [Addr.add] using this
   have hblk:a.block<w.heap.size:=by
    have:=World.cells?_block hcs0 hn;simpa [Addr.add] using this
   have ha:a=⟨a.block,a.off,none⟩:=by cases a;simp_all
   refine⟨a.block,a.off,cs',by rw[←ha],hblk,hlen,fun j v hj=>?_,h1 y cs' hR,hR⟩;have hjn:j<n:=by have:=(y1t.1 hj).1;omega
   have:=hcell j hjn;rw[Go.Deep.add_add,k9z hsp,hj] at this;rw[Nat.add_assoc];exact this
  obtain⟨l,hl,hq,hsz⟩:=j2b (fun i y=>ElemAt w w.heap.size (some a) n i (R y)∧V y) sz D len hel';subst hl;exact⟨l,_,rfl,⟨some a,cap,rfl,hlc,fun k hk=>(hq k hk).1⟩,fun y hy=>by obtain⟨k,hk,rfl⟩:=List.getElem_of_mem hy;exact(hq k hk).2,by omega⟩
end
theorem k9h{α:Type}{l:List α}(h:l.length=3):∃a b c,l=[a,b,c]:=by
 match l,h with
 |[a,b,c],_=>exact⟨_,_,_,rfl⟩
theorem k9g{α:Type}{l:List α}(h:l.length=4):∃a b c d,l=[a,b,c,d]:=by
 match l,h with
 |[a,b,c,d],_=>exact⟨_,_,_,_,rfl⟩
theorem k9e{α:Type}{l:List α}(h:l.length=7):∃a b c d e f g,l=[a,b,c,d,e,f,g]:=by
 match l,h with
 |[a,b,c,d,e,f,g],_=>exact⟨_,_,_,_,_,_,_,rfl⟩
theorem k8d:Tryz.prog.cellsOf 3=1:=by kernel_rfl
theorem y0z:Tryz.prog.cellsOf 9=1:=by kernel_rfl
theorem k5z:Tryz.prog.cellsOf 4=1:=by kernel_rfl
theorem y0y:Tryz.prog.cellsOf 38=1:=by kernel_rfl
section
variable {H : Type} {enc : TypeId × Value → H} {w : World} {spare : Nat → Bool} {held : Bool}
theorem k2r{fuel:Nat}{c:Value}{y:DataW H×List MemPlace}(h:DataW.trod enc Tryz.prog w 0 spare held fuel 9 [c]=some y):∃s:ByteArray,c=.string s∧s.size+1≤Rows.uptoBulk y.1:=by
 obtain⟨s,h1,h2,h3⟩:=DataW.trod_string underlying9 h;simp only[List.cons.injEq,and_true] at h1;exact⟨s,h1,by rw[h2];simp[Rows.uptoBulk]⟩
theorem j3b{fuel:Nat}{c:Value}{y:DataW H×List MemPlace}(h:DataW.trod enc Tryz.prog w 0 spare held fuel 3 [c]=some y):∃n,c=.int .i64 n∧1≤Rows.uptoBulk y.1:=by
 obtain⟨n,h1,h2,h3⟩:=DataW.trod_int underlying3 h;simp only[List.cons.injEq,and_true] at h1;exact⟨n,h1,q3f _⟩
theorem k2q{fuel:Nat}{c:Value}{y:DataW H×List MemPlace}(h:DataW.trod enc Tryz.prog w 0 spare held fuel 38 [c]=some y):∃n,c=.int .u64 n∧(0≤n∧n<18446744073709551616)∧1≤Rows.uptoBulk y.1:=by
 obtain⟨n,h1,h2,h3⟩:=DataW.trod_int underlying38 h;simp only[List.cons.injEq,and_true] at h1;have hw:=(Lit.wf_int_iff _ _).1 h3;exact⟨n,h1,(by simp[IntKind.min,IntKind.max,IntKind.bits,IntKind.signed] at hw;omega),q3f _⟩
end
def z3d(F:Nat→Value→World→Prop)(l:List Oper)(A:Act)(w:World):List Edge→Prop
 |[]=>True
 |e::r=>(if Region.binds .any e=true then(match(l[e.on]?).bind Oper.dst with|some d=>F e.on (A.tmps.getD d undef) w|none=>True) else True)∧z3d F l A w r
def q4o(l:List Oper)(n:Nat):Bool:=
 l.all (fun o=>o.guard.isNone && (match o.dst with|some d=>decide (d<n)|none=>true)) && (List.range l.length).all fun i=>match l[i]? with
  |some x=>x.after.all (fun e=>!Region.binds .any e||decide (e.on<i)) && (match x.dst with
   |some d=>(List.range i).all fun j=>((l[j]?).bind Oper.dst) !=some d
   |none=>true)
  |none=>true
structure Known(W:World)(a0:Act)(F:Nat→Value→World→Prop)(l:List Oper)(listed:Nat→Bool)(A:Act)(w:World):Prop where
 ext:Ext W w
 size:A.tmps.size=a0.tmps.size
 defers:A.defers=a0.defers
 done:∀(j:Nat) (d:Tmp),(l[j]?).bind Oper.dst=some d→listed j=true→F j (A.tmps.getD d undef) w
 rest:∀t:Tmp,(∀j:Nat,(l[j]?).bind Oper.dst≠some t)→A.tmps.getD t undef=a0.tmps.getD t undef
def k8n:Exit→Act→World→Prop:=fun _ _ _=>False
theorem Oper.wp_noWay{P:Program}{o:Oper}{a:Act}{w:World}{K:Act→World→Prop}{Q:Exit→Act→World→Prop}(h:o.wp P a w K k8n):o.wp P a w K Q:=by
 unfold Oper.wp at*;generalize (execOp a.eval o).run P w=r at*;cases r with
 |ok n w'=>
  cases n<;>simp only[Oper.upon] at h⊢<;>
   first
    |exact h
    |exact Calls.mono h (fun e w'' he=>by cases e<;>first|exact he|exact he.elim|(obtain⟨_,_,hh⟩:=he;exact hh.elim))
    |exact h.elim
 |halt y w'=>cases y<;>simp only[Oper.upon] at h⊢<;>first|exact h|exact h.elim
def j4q(P:Program)(W:World)(a0:Act)(F:Nat→Value→World→Prop)(l:List Oper)(i:Nat)(o:Oper):Prop:=
 ∀(A:Act) (w:World),Ext W w→z3d F l A w o.after.toList→(∀t:Tmp,(∀j:Nat,(l[j]?).bind Oper.dst≠some t)→A.tmps.getD t undef=a0.tmps.getD t undef)→
  o.wp P A w (fun A' w'=>∃v,A'=A.put o.dst v∧Ext w w'∧F i v w') k8n
def StepsOk(P:Program)(W:World)(a0:Act)(F:Nat→Value→World→Prop)(l:List Oper):List Oper→Nat→Prop
 |[],_=>True
 |o::r,i=>j4q P W a0 F l i o∧StepsOk P W a0 F l r (i+1)
theorem StepsOk.get{P:Program}{W:World}{a0:Act}{F:Nat→Value→World→Prop}{l:List Oper}:∀(r:List Oper) (k:Nat),StepsOk P W a0 F l r k→∀(j:Nat) (o:Oper),r[j]? =some o→j4q P W a0 F l (k+j) o
 |[],_,_,_,_,hj=>by simp at hj
 |x::r,k,h,0,o,hj=>by simp at hj;subst hj;exact h.1
 |x::r,k,h,j+1,o,hj=>by
  have:=StepsOk.get r (k+1) h.2 j o (by simpa using hj);rwa[show k+1+j=k+(j+1) by omega] at this
structure FactsOk(l:List Oper)(n:Nat):Prop where
 guard:∀(i:Nat) (o:Oper),l[i]? =some o→o.guard=none
 lt:∀(i:Nat) (d:Tmp),(l[i]?).bind Oper.dst=some d→d<n
 apart:∀(i j:Nat) (d:Tmp),(l[i]?).bind Oper.dst=some d→(l[j]?).bind Oper.dst=some d→i=j
theorem q9m{l:List Oper}{n:Nat}(h:q4o l n=true):FactsOk l n:=by
 simp only[q4o,Bool.and_eq_true,List.all_eq_true,List.mem_range] at h;obtain⟨h1,h2⟩:=h;have lt:∀{i:Nat} {d:Tmp},(l[i]?).bind Oper.dst=some d→∃o,l[i]? =some o∧o.dst=some d∧i<l.length:=by
  intro i d hi;obtain⟨o,ho,hd⟩:=Option.bind_eq_some_iff.1 hi;exact⟨o,ho,hd,(y1t.1 ho).1⟩
 have ap:∀(i j:Nat) (d:Tmp),j<i→(l[i]?).bind Oper.dst=some d→(l[j]?).bind Oper.dst=some d→False:=by
  intro i j d hji hi hj;obtain⟨o,ho,hd,hl⟩:=lt hi;have:=h2 i hl;simp only[ho,hd,Bool.and_eq_true,List.all_eq_true,List.mem_range,bne_iff_ne,ne_eq] at this;exact this.2 j hji hj
 refine⟨fun i o ho=>?_,fun i d hi=>?_,fun i j d hi hj=>?_⟩
 ·have:=(h1 o (List.mem_of_getElem? ho)).1;simpa using this
 ·obtain⟨o,ho,hd,_⟩:=lt hi;have:=(h1 o (List.mem_of_getElem? ho)).2;simpa [hd] using this
 ·rcases Nat.lt_trichotomy i j with h|h|h
  ·exact(ap j i d h hj hi).elim
  ·exact h
  ·exact(ap i j d h hi hj).elim
theorem z4m{a:Act}{d t:Tmp}{v:Value}:(a.put (some d) v).tmps.getD t undef=if t=d∧d<a.tmps.size then v else a.tmps.getD t undef:=by
 simp only[Act.put,Array.getD_eq_getD_getElem?,Array.getElem?_setIfInBounds];by_cases h:d=t
 ·subst h;by_cases hl:d<a.tmps.size
  ·simp[hl]
  ·simp[hl]
 ·rw[if_neg h,if_neg (fun hh=>h hh.1.symm)]
section
variable {P : Program} {W : World} {a0 : Act} {F : Nat → Value → World → Prop} {l : List Oper}
theorem Known.step(hst:∀i v w w',F i v w→Ext w w'→F i v w')(T:FactsOk l a0.tmps.size){listed:Array Bool}{A:Act}{w:World}(h:Known W a0 F l (fun j=>listed.getD j false) A w)
 {i:Nat} {o:Oper} (ho:l[i]? =some o) {v:Value} {w':World} (hx:Ext w w') (hF:F i v w'):Known W a0 F l (fun j=>(listed.setIfInBounds i true).getD j false) (A.put o.dst v) w':=by
 have hd0:(l[i]?).bind Oper.dst=o.dst:=by rw[ho];rfl
 have hsz:(A.put o.dst v).tmps.size=a0.tmps.size:=by
  cases hdd:o.dst<;>simp[Act.put,h.size]
 have hdf:(A.put o.dst v).defers=a0.defers:=by
  cases hdd:o.dst<;>simp[Act.put,h.defers]
 have hother:∀t,o.dst≠some t→(A.put o.dst v).tmps.getD t undef=A.tmps.getD t undef:=by
  intro t ht;cases hdd:o.dst with
  |none=>rfl
  |some d=>rw[z4m,if_neg (fun hh=>ht (by rw[hdd,hh.1]))]
 refine⟨h.ext.trans hx,hsz,hdf,fun j d hj hl=>?_,fun t ht=>?_⟩
 ·by_cases hij:i=j
  ·subst hij;rw[hd0] at hj;rw[hj,z4m,if_pos ⟨rfl,by rw[h.size];exact T.lt i d (by rw[hd0];exact hj)⟩];exact hF
  ·rw[getD_set_ne false hij] at hl;rw[hother d (fun hh=>hij (T.apart i j d (by rw[hd0];exact hh) hj))];exact hst _ _ _ _ (h.done j d hj hl) hx
 ·rw[hother t (fun hh=>ht i (by rw[hd0];exact hh))];exact h.rest t ht
theorem z3o{A:Act}{w:World}{listed:Nat→Bool}(h:∀(j:Nat) (d:Tmp),(l[j]?).bind Oper.dst=some d→listed j=true→F j (A.tmps.getD d undef) w):
 ∀es:List Edge,(∀e∈es,Region.binds .any e=true→listed e.on=true)→z3d F l A w es
 |[],_=>trivial
 |e::r,he=>by
  refine⟨?_,z3o h r fun e' he'=>he e' (y1r _ he')⟩;split
  ·rename_i hb
   split
   ·rename_i d hd
    exact h e.on d hd (he e (y1s ..) hb)
   ·trivial
  ·trivial
theorem j2h{F:Nat→Value→World→Prop}{l:List Oper}{A:Act}{w:World}{e:Edge}{r:List Edge}{d:Tmp}(hd:z3d F l A w (e::r))(hb:Region.binds .any e=true)(hl:(l[e.on]?).bind Oper.dst=some d):F e.on (A.tmps.getD d undef) w:=by
 have:=hd.1;rw[if_pos hb,hl] at this;exact this
def left:List Bool→Nat
 |[]=>0
 |b::r=>(if b then 0 else 1)+left r
theorem z5v:∀(L:List Bool) (i:Nat),L[i]? =some false→left (L.set i true)+1=left L
 |[],i,h=>by simp at h
 |b::r,0,h=>by simp at h;subst h;simp[left];omega
 |b::r,i+1,h=>by
  have:=z5v r i (by simpa using h);simp only[List.set_cons_succ,left];omega
theorem z7h:∀(L:List Bool),false∈L→0<left L
 |[],h=>by cases h
 |b::r,h=>by
  cases h with
  |head=>simp[left];omega
  |tail _ ht=>have:=z7h r ht;simp only[left];omega
theorem z0z(n:Nat):left (List.replicate n false)=n:=by
 induction n with
 |zero=>rfl
 |succ n ih=>simp only[List.replicate_succ,left,ih];simp;omega
theorem j0u{Q:Exit→Act→World→Prop}(hst:∀i v w w',F i v w→Ext w w'→F i v w')(T:FactsOk l a0.tmps.size)(hS:StepsOk P W a0 F l l 0)
 (hE:∀A w,Known W a0 F l (fun j=>decide (j<l.length)) A w→Q .normal A w)
 (hO:∀i x,l[i]? =some x→∀e∈x.after,Region.binds .any e=true→e.on<i):
 ∀(fuel:Nat) (listed:Array Bool) (A:Act) (w:World),listed.size=l.length→(fuel=0→Region.ready .any l.toArray listed=[])→left listed.toList≤fuel→Known W a0 F l (fun j=>listed.getD j false) A w→
  wpAny P .any l.toArray Q fuel listed A w:=by
 have fin:∀(listed:Array Bool) (A:Act) (w:World),listed.size=l.length→Region.ready .any l.toArray listed=[]→Known W a0 F l (fun j=>listed.getD j false) A w→Q .normal A w:=by
  intro listed A w hs hr hk;have all:∀n i,i<n→i<l.length→listed.getD i true=true:=by
   intro n;induction n with
   |zero=>intro i hi;omega
   |succ n ih=>
    intro i hin hi;cases hl:listed.getD i true with
    |true=>rfl
    |false=>
     have:i∈Region.ready .any l.toArray listed:=mem_ready.2 ⟨hl,l[i],by simp[List.getElem?_eq_getElem hi],fun e he hb=>by
      have hlt:=hO i l[i] (y1o hi) e he hb;have:=ih e.on (by omega) (by omega);have hz:e.on<listed.size:=by omega
      simpa [hz] using this⟩
     rw[hr] at this;cases this
  refine hE A w ⟨hk.ext,hk.size,hk.defers,fun j d hj hl=>hk.done j d hj ?_,hk.rest⟩;have hjl:j<l.length:=by simpa using hl
  have:=all (j+1) j (by omega) hjl;have hz:j<listed.size:=by omega
  simpa [hz] using this
 intro fuel;induction fuel with
 |zero=>
  intro listed A w hs h0 _ hk;exact⟨h0 rfl,fin listed A w hs (h0 rfl) hk⟩
 |succ fuel ih=>
  intro listed A w hs _ hc hk;refine⟨fun hr=>fin listed A w hs hr hk,fun i hi=>?_⟩;obtain⟨h0,o,ho,hall⟩:=mem_ready.1 hi;have ho':l[i]? =some o:=by simpa using ho
  have hil:i<l.length:=(y1t.1 ho').1;have hcount:left (listed.setIfInBounds i true).toList≤fuel:=by
   have hz:i<listed.size:=by omega
   have hget:listed.toList[i]? =some false:=by
    simp[hz] at h0;simp[hz,h0]
   have:=z5v listed.toList i hget;rw[show(listed.setIfInBounds i true).toList=listed.toList.set i true by simp];omega
  unfold wpOp;simp only[List.getElem?_toArray,ho'];rw[if_pos (by simp[Region.wanted,T.guard i o ho'])];have hstep:=StepsOk.get l 0 hS i o ho';rw[Nat.zero_add] at hstep;refine .inl (Oper.wp_mono ?_ (Oper.wp_noWay (hstep A w hk.ext (z3o hk.done o.after.toList (fun e he hb=>hall e (by simpa using he) hb)) hk.rest)));rintro A' w' ⟨v,rfl,hx,hF⟩;refine ih _ _ _ (by simpa using hs) (fun hf=>?_) hcount (hk.step hst T ho' hx hF);subst hf;rw[List.eq_nil_iff_forall_not_mem];intro j hj;obtain⟨hj0,y,hy,_⟩:=mem_ready.1 hj;have hjl:j<l.length:=by
   have:=(y1n.1 hy).1;simpa using this
  have hz:j<(listed.setIfInBounds i true).size:=by simpa [hs] using hjl
  have:false∈(listed.setIfInBounds i true).toList:=by
   simp only[Array.getD_eq_getD_getElem?,Array.getElem?_eq_getElem hz,Option.getD_some] at hj0;rw[←hj0];exact Array.mem_toList_iff.2 (Array.getElem_mem _)
  have:=z7h _ this;omega
theorem q2w{n:Nat}(h:q4o l n=true):∀i x,l[i]? =some x→∀e∈x.after,Region.binds .any e=true→e.on<i:=by
 simp only[q4o,Bool.and_eq_true,List.all_eq_true,List.mem_range] at h;intro i x hx e he hb;have:=h.2 i (y1t.1 hx).1;simp only[hx,Bool.and_eq_true,Array.all_eq_true_iff_forall_mem,Bool.or_eq_true,Bool.not_eq_true',decide_eq_true_eq] at this;rcases this.1 e he with h|h
 ·rw[h] at hb;cases hb
 ·exact h
theorem z1s(n j:Nat):(Array.replicate n false).getD j false=false:=by
 rw[Array.getD_eq_getD_getElem?,Array.getElem?_replicate];split<;>rfl
theorem z9d{id:Nat}{Q:Exit→Act→World→Prop}{w:World}{o:Oper}(F:Nat→Value→World→Prop)(hm:P.follows .mixedOrders=true)(ho:l.reverse.head? =some o)(hB:q4o l.dropLast a0.tmps.size=true)(hT:q8f l.dropLast o=true)(hw:Ext W w)
 (hst:∀i v w w',F i v w→Ext w w'→F i v w')
 (hS:StepsOk P W a0 F l.dropLast l.dropLast 0) (hE:∀A w,Known W a0 F l.dropLast (fun j=>decide (j<l.dropLast.length)) A w→o.wp P A w (fun a w=>Q .normal a w) Q):(Code.region id l.toArray true).wp P Q a0 w:=by
 have hl:l=l.dropLast++[o]:=by
  rw[List.head?_reverse,List.getLast?_eq_some_iff] at ho;obtain⟨ys,rfl⟩:=ho;simp
 refine wp_region_any hm ?_;rw[hl];generalize l.dropLast=m at*;have hx:(Array.replicate (m++[o]).toArray.size false)=(Array.replicate m.length false).push false:=by
  simp[Array.replicate_succ]
 rw[hx];have hsz:(m++[o]).toArray.size=m.length+1:=by simp
 rw[hsz];refine q5a (q2j hT) m.length _ a0 _ (by simp) ?_;refine j0u hst (q9m hB) hS hE (q2w hB) m.length _ a0 _ (by simp) (fun h=>?_) ?_ ⟨hw.drew,rfl,rfl,fun j d _ hl=>?_,fun t _=>rfl⟩
 ·have:m=[]:=y1q h;subst this;rfl
 ·rw[Array.toList_replicate,z0z];exact y1j _
 ·rw[z1s] at hl;cases hl
theorem z0c{A:Act}{l:List Oper}(h0:∀t:Tmp,(∀j:Nat,(l[j]?).bind Oper.dst≠some t)→A.tmps.getD t undef=a0.tmps.getD t undef)(t:Tmp)(h:(l.all fun o=>o.dst !=some t)=true):A.tmps.getD t undef=a0.tmps.getD t undef:=
 h0 t fun j hj=>by
  obtain⟨o,ho,hd⟩:=Option.bind_eq_some_iff.1 hj;have:=List.all_eq_true.1 h o (List.mem_of_getElem? ho);simp[hd] at this
theorem z4x{A:Act}{n:Nat}{d:List Deferred}(hs:A.tmps.size=n)(hd:A.defers=d):A={tmps:=((List.range n).map fun t=>A.tmps.getD t undef).toArray,defers:=d}:=by
 obtain⟨tm,df⟩:=A;simp only at hs hd;subst hd
 congr 1
 apply Array.ext
 ·simp[hs]
 ·intro i h1 h2;simp[h1]
theorem tmpsF(A:Act):∃f:Nat→Value,(∀t,A.tmps.getD t undef=f t)∧∀t:Nat,A.tmps[t]?.getD undef=f t:=⟨_,fun _=>rfl,fun t=>by rw[←Array.getD_eq_getD_getElem?]⟩
end
theorem k8t(w:World)(v0 v1 v2 v3 v4 v5 v6 v7 v8:Value):∃Wb Wc:World,w.alloc (.cells #[.int .i64 0,.string ⟨#[]⟩,.string ⟨#[]⟩,.slice none 0 0,.slice none 0 0,.slice none 0 0,.slice none 0 0,.slice none 0 0,.slice none 0 0] 37)=Wb∧(Wb.cell? ⟨w.heap.size,0,none⟩=some (.int .i64 0)∧Wb.cell? ⟨w.heap.size,1,none⟩=some (.string ⟨#[]⟩)∧Wb.cell? ⟨w.heap.size,2,none⟩=some (.string ⟨#[]⟩)∧Wb.cell? ⟨w.heap.size,3,none⟩=some (.slice none 0 0)∧Wb.cell? ⟨w.heap.size,4,none⟩=some (.slice none 0 0)∧Wb.cell? ⟨w.heap.size,5,none⟩=some (.slice none 0 0)∧Wb.cell? ⟨w.heap.size,6,none⟩=some (.slice none 0 0)∧Wb.cell? ⟨w.heap.size,7,none⟩=some (.slice none 0 0)∧Wb.cell? ⟨w.heap.size,8,none⟩=some (.slice none 0 0))∧(Wb.frozen? ⟨w.heap.size,0,none⟩=false∧Wb.frozen? ⟨w.heap.size,1,none⟩=false∧Wb.frozen? ⟨w.heap.size,2,none⟩=false∧Wb.frozen? ⟨w.heap.size,3,none⟩=false∧Wb.frozen? ⟨w.heap.size,4,none⟩=false∧Wb.frozen? ⟨w.heap.size,5,none⟩=false∧Wb.frozen? ⟨w.heap.size,6,none⟩=false∧Wb.frozen? ⟨w.heap.size,7,none⟩=false∧Wb.frozen? ⟨w.heap.size,8,none⟩=false)∧(((((((((Wb.setCell ⟨w.heap.size,0,none⟩ v0).setCell ⟨w.heap.size,1,none⟩ v1).setCell ⟨w.heap.size,2,none⟩ v2).setCell ⟨w.heap.size,3,none⟩ v3).setCell ⟨w.heap.size,4,none⟩ v4).setCell ⟨w.heap.size,5,none⟩ v5).setCell ⟨w.heap.size,6,none⟩ v6).setCell ⟨w.heap.size,7,none⟩ v7).setCell ⟨w.heap.size,8,none⟩ v8)=Wc∧Blk Wc w.heap.size 37 [v0,v1,v2,v3,v4,v5,v6,v7,v8]∧Ext w Wc∧Wc.heap.size=w.heap.size+1:=by
 obtain⟨Wb,hWb,hxb,hbb⟩:=q0y w (.int .i64 0) (.string ⟨#[]⟩) (.string ⟨#[]⟩) (.slice none 0 0) (.slice none 0 0) (.slice none 0 0) (.slice none 0 0) (.slice none 0 0) (.slice none 0 0) 37;obtain⟨Wc,hWc⟩:∃Wc,Wc=(((((((((Wb.setCell ⟨w.heap.size,0,none⟩ v0).setCell ⟨w.heap.size,1,none⟩ v1).setCell ⟨w.heap.size,2,none⟩ v2).setCell ⟨w.heap.size,3,none⟩ v3).setCell ⟨w.heap.size,4,none⟩ v4).setCell ⟨w.heap.size,5,none⟩ v5).setCell ⟨w.heap.size,6,none⟩ v6).setCell ⟨w.heap.size,7,none⟩ v7).setCell ⟨w.heap.size,8,none⟩ v8):=⟨_,rfl⟩;have hbc:=hbb.store9 v0 v1 v2 v3 v4 v5 v6 v7 v8;rw[←hWc] at hbc;refine⟨Wb,Wc,hWb.symm,hbb.get9,hbb.free9,hWc.symm,hbc,?_,?_⟩
 ·rw[hWc];exact(((((((((hxb.setCell (y1j _) _).setCell (y1j _) _).setCell (y1j _) _).setCell (y1j _) _).setCell (y1j _) _).setCell (y1j _) _).setCell (y1j _) _).setCell (y1j _) _).setCell (y1j _) _)
 ·rw[hWc,hWb];simp
theorem varS(w:World)(v0 v1 v2 v3:Value):∃Wb Wc:World,w.alloc (.cells #[.int .i64 0,.string ⟨#[]⟩,.slice none 0 0,.slice none 0 0] 177)=Wb∧(Wb.cell? ⟨w.heap.size,0,none⟩=some (.int .i64 0)∧Wb.cell? ⟨w.heap.size,1,none⟩=some (.string ⟨#[]⟩)∧Wb.cell? ⟨w.heap.size,2,none⟩=some (.slice none 0 0)∧Wb.cell? ⟨w.heap.size,3,none⟩=some (.slice none 0 0))∧(Wb.frozen? ⟨w.heap.size,0,none⟩=false∧Wb.frozen? ⟨w.heap.size,1,none⟩=false∧Wb.frozen? ⟨w.heap.size,2,none⟩=false∧Wb.frozen? ⟨w.heap.size,3,none⟩=false)∧((((Wb.setCell ⟨w.heap.size,0,none⟩ v0).setCell ⟨w.heap.size,1,none⟩ v1).setCell ⟨w.heap.size,2,none⟩ v2).setCell ⟨w.heap.size,3,none⟩ v3)=Wc∧Blk Wc w.heap.size 177 [v0,v1,v2,v3]∧Ext w Wc∧Wc.heap.size=w.heap.size+1:=by
 obtain⟨Wb,hWb,hxb,hbb⟩:=q2d w (.int .i64 0) (.string ⟨#[]⟩) (.slice none 0 0) (.slice none 0 0) 177;obtain⟨Wc,hWc⟩:∃Wc,Wc=((((Wb.setCell ⟨w.heap.size,0,none⟩ v0).setCell ⟨w.heap.size,1,none⟩ v1).setCell ⟨w.heap.size,2,none⟩ v2).setCell ⟨w.heap.size,3,none⟩ v3):=⟨_,rfl⟩;have hbc:=hbb.store4 v0 v1 v2 v3;rw[←hWc] at hbc;refine⟨Wb,Wc,hWb.symm,hbb.get4,hbb.free4,hWc.symm,hbc,?_,?_⟩
 ·rw[hWc];exact((((hxb.setCell (y1j _) _).setCell (y1j _) _).setCell (y1j _) _).setCell (y1j _) _)
 ·rw[hWc,hWb];simp
theorem varB(w:World)(v0 v1 v2 v3 v4 v5 v6:Value):∃Wb Wc:World,w.alloc (.cells #[.string ⟨#[]⟩,.int .i64 0,.string ⟨#[]⟩,.int .i64 0,.int .i64 0,.int .u64 0,.slice none 0 0] 45)=Wb∧(Wb.cell? ⟨w.heap.size,0,none⟩=some (.string ⟨#[]⟩)∧Wb.cell? ⟨w.heap.size,1,none⟩=some (.int .i64 0)∧Wb.cell? ⟨w.heap.size,2,none⟩=some (.string ⟨#[]⟩)∧Wb.cell? ⟨w.heap.size,3,none⟩=some (.int .i64 0)∧Wb.cell? ⟨w.heap.size,4,none⟩=some (.int .i64 0)∧Wb.cell? ⟨w.heap.size,5,none⟩=some (.int .u64 0)∧Wb.cell? ⟨w.heap.size,6,none⟩=some (.slice none 0 0))∧(Wb.frozen? ⟨w.heap.size,0,none⟩=false∧Wb.frozen? ⟨w.heap.size,1,none⟩=false∧Wb.frozen? ⟨w.heap.size,2,none⟩=false∧Wb.frozen? ⟨w.heap.size,3,none⟩=false∧Wb.frozen? ⟨w.heap.size,4,none⟩=false∧Wb.frozen? ⟨w.heap.size,5,none⟩=false∧Wb.frozen? ⟨w.heap.size,6,none⟩=false)∧(((((((Wb.setCell ⟨w.heap.size,0,none⟩ v0).setCell ⟨w.heap.size,1,none⟩ v1).setCell ⟨w.heap.size,2,none⟩ v2).setCell ⟨w.heap.size,3,none⟩ v3).setCell ⟨w.heap.size,4,none⟩ v4).setCell ⟨w.heap.size,5,none⟩ v5).setCell ⟨w.heap.size,6,none⟩ v6)=Wc∧Blk Wc w.heap.size 45 [v0,v1,v2,v3,v4,v5,v6]∧Ext w Wc∧Wc.heap.size=w.heap.size+1:=by
 obtain⟨Wb,hWb,hxb,hbb⟩:=k5c w (.string ⟨#[]⟩) (.int .i64 0) (.string ⟨#[]⟩) (.int .i64 0) (.int .i64 0) (.int .u64 0) (.slice none 0 0) 45;obtain⟨Wc,hWc⟩:∃Wc,Wc=(((((((Wb.setCell ⟨w.heap.size,0,none⟩ v0).setCell ⟨w.heap.size,1,none⟩ v1).setCell ⟨w.heap.size,2,none⟩ v2).setCell ⟨w.heap.size,3,none⟩ v3).setCell ⟨w.heap.size,4,none⟩ v4).setCell ⟨w.heap.size,5,none⟩ v5).setCell ⟨w.heap.size,6,none⟩ v6):=⟨_,rfl⟩;have hbc:=hbb.store7 v0 v1 v2 v3 v4 v5 v6;rw[←hWc] at hbc;refine⟨Wb,Wc,hWb.symm,hbb.get7,hbb.free7,hWc.symm,hbc,?_,?_⟩
 ·rw[hWc];exact(((((((hxb.setCell (y1j _) _).setCell (y1j _) _).setCell (y1j _) _).setCell (y1j _) _).setCell (y1j _) _).setCell (y1j _) _).setCell (y1j _) _)
 ·rw[hWc,hWb];simp
theorem varP(w:World)(v0 v1 v2 v3 v4 v5 v6 v7:Value):∃Wb Wc:World,w.alloc (.cells #[.string ⟨#[]⟩,.bool false,.int .i64 0,.string ⟨#[]⟩,.int .i64 0,.int .i64 0,.int .u64 0,.slice none 0 0] 42)=Wb∧(Wb.cell? ⟨w.heap.size,0,none⟩=some (.string ⟨#[]⟩)∧Wb.cell? ⟨w.heap.size,1,none⟩=some (.bool false)∧Wb.cell? ⟨w.heap.size,2,none⟩=some (.int .i64 0)∧Wb.cell? ⟨w.heap.size,3,none⟩=some (.string ⟨#[]⟩)∧Wb.cell? ⟨w.heap.size,4,none⟩=some (.int .i64 0)∧Wb.cell? ⟨w.heap.size,5,none⟩=some (.int .i64 0)∧Wb.cell? ⟨w.heap.size,6,none⟩=some (.int .u64 0)∧Wb.cell? ⟨w.heap.size,7,none⟩=some (.slice none 0 0))∧(Wb.frozen? ⟨w.heap.size,0,none⟩=false∧Wb.frozen? ⟨w.heap.size,1,none⟩=false∧Wb.frozen? ⟨w.heap.size,2,none⟩=false∧Wb.frozen? ⟨w.heap.size,3,none⟩=false∧Wb.frozen? ⟨w.heap.size,4,none⟩=false∧Wb.frozen? ⟨w.heap.size,5,none⟩=false∧Wb.frozen? ⟨w.heap.size,6,none⟩=false∧Wb.frozen? ⟨w.heap.size,7,none⟩=false)∧((((((((Wb.setCell ⟨w.heap.size,0,none⟩ v0).setCell ⟨w.heap.size,1,none⟩ v1).setCell ⟨w.heap.size,2,none⟩ v2).setCell ⟨w.heap.size,3,none⟩ v3).setCell ⟨w.heap.size,4,none⟩ v4).setCell ⟨w.heap.size,5,none⟩ v5).setCell ⟨w.heap.size,6,none⟩ v6).setCell ⟨w.heap.size,7,none⟩ v7)=Wc∧Blk Wc w.heap.size 42 [v0,v1,v2,v3,v4,v5,v6,v7]∧Ext w Wc∧Wc.heap.size=w.heap.size+1:=by
 obtain⟨Wb,hWb,hxb,hbb⟩:=q7r w (.string ⟨#[]⟩) (.bool false) (.int .i64 0) (.string ⟨#[]⟩) (.int .i64 0) (.int .i64 0) (.int .u64 0) (.slice none 0 0) 42;obtain⟨Wc,hWc⟩:∃Wc,Wc=((((((((Wb.setCell ⟨w.heap.size,0,none⟩ v0).setCell ⟨w.heap.size,1,none⟩ v1).setCell ⟨w.heap.size,2,none⟩ v2).setCell ⟨w.heap.size,3,none⟩ v3).setCell ⟨w.heap.size,4,none⟩ v4).setCell ⟨w.heap.size,5,none⟩ v5).setCell ⟨w.heap.size,6,none⟩ v6).setCell ⟨w.heap.size,7,none⟩ v7):=⟨_,rfl⟩;have hbc:=hbb.store8 v0 v1 v2 v3 v4 v5 v6 v7;rw[←hWc] at hbc;refine⟨Wb,Wc,hWb.symm,hbb.get8,hbb.free8,hWc.symm,hbc,?_,?_⟩
 ·rw[hWc];exact((((((((hxb.setCell (y1j _) _).setCell (y1j _) _).setCell (y1j _) _).setCell (y1j _) _).setCell (y1j _) _).setCell (y1j _) _).setCell (y1j _) _).setCell (y1j _) _)
 ·rw[hWc,hWb];simp
theorem varM(w:World)(v0 v1 v2 v3:Value):∃Wb Wc:World,w.alloc (.cells #[.string ⟨#[]⟩,.slice none 0 0,.slice none 0 0,.slice none 0 0] 30)=Wb∧(Wb.cell? ⟨w.heap.size,0,none⟩=some (.string ⟨#[]⟩)∧Wb.cell? ⟨w.heap.size,1,none⟩=some (.slice none 0 0)∧Wb.cell? ⟨w.heap.size,2,none⟩=some (.slice none 0 0)∧Wb.cell? ⟨w.heap.size,3,none⟩=some (.slice none 0 0))∧(Wb.frozen? ⟨w.heap.size,0,none⟩=false∧Wb.frozen? ⟨w.heap.size,1,none⟩=false∧Wb.frozen? ⟨w.heap.size,2,none⟩=false∧Wb.frozen? ⟨w.heap.size,3,none⟩=false)∧((((Wb.setCell ⟨w.heap.size,0,none⟩ v0).setCell ⟨w.heap.size,1,none⟩ v1).setCell ⟨w.heap.size,2,none⟩ v2).setCell ⟨w.heap.size,3,none⟩ v3)=Wc∧Blk Wc w.heap.size 30 [v0,v1,v2,v3]∧Ext w Wc∧Wc.heap.size=w.heap.size+1:=by
 obtain⟨Wb,hWb,hxb,hbb⟩:=q2d w (.string ⟨#[]⟩) (.slice none 0 0) (.slice none 0 0) (.slice none 0 0) 30;obtain⟨Wc,hWc⟩:∃Wc,Wc=((((Wb.setCell ⟨w.heap.size,0,none⟩ v0).setCell ⟨w.heap.size,1,none⟩ v1).setCell ⟨w.heap.size,2,none⟩ v2).setCell ⟨w.heap.size,3,none⟩ v3):=⟨_,rfl⟩;have hbc:=hbb.store4 v0 v1 v2 v3;rw[←hWc] at hbc;refine⟨Wb,Wc,hWb.symm,hbb.get4,hbb.free4,hWc.symm,hbc,?_,?_⟩
 ·rw[hWc];exact((((hxb.setCell (y1j _) _).setCell (y1j _) _).setCell (y1j _) _).setCell (y1j _) _)
 ·rw[hWc,hWb];simp
end Go.Proofs.YtlfmlodanoolhaaGreatDoor
