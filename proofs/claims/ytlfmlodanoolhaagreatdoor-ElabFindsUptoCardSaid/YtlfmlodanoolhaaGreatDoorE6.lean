import Derived.Test.YtlfmlodanoolhaaGreatDoorE5
set_option linter.all false
set_option maxRecDepth 200000
set_option maxHeartbeats 32000000
namespace Go.Proofs.YtlfmlodanoolhaaGreatDoor
open Go Go.RowKit
section
variable {P : Program} {l r : List Oper} {Q : Exit → Act → World → Prop}
def j1c(l r:List Oper):Bool:=
 r.all (fun o=>(List.range l.length).all fun i=>o.after.any fun e=>Region.binds .any e && e.on==i) &&
  (List.range l.length).all (fun i=>match l[i]? with
    |some x=>x.after.all (fun e=>!Region.binds .any e||decide (e.on<i)) && (match x.guard with|none=>true|some (j,_)=>decide (j<l.length))
    |none=>true)
structure StageT(l r:List Oper):Prop where
 waits:∀o,o∈r→∀i,i<l.length→∃e∈o.after,Region.binds .any e=true∧e.on=i
 order:∀(i:Nat) (x:Oper),l[i]? =some x→∀e∈x.after,Region.binds .any e=true→e.on<i
 guards:∀(i:Nat) (x:Oper),l[i]? =some x→∀j b,x.guard=some (j,b)→j<l.length
theorem j1b(h:j1c l r=true):StageT l r:=by
 simp only[j1c,Bool.and_eq_true,List.all_eq_true,List.mem_range] at h;obtain⟨h1,h4⟩:=h;have lt:∀{i:Nat} {x:Oper},l[i]? =some x→i<l.length:=fun hi=>(y1t.1 hi).1
 refine⟨fun o ho i hi=>?_,fun i x hx e he hb=>?_,fun i x hx j b hg=>?_⟩
 ·obtain⟨e,he,hb⟩:=Array.any_eq_true'.1 (h1 o ho i hi);simp only[Bool.and_eq_true,beq_iff_eq] at hb;exact⟨e,he,hb.1,hb.2⟩
 ·have:=h4 i (lt hx);simp only[hx,Bool.and_eq_true,Array.all_eq_true_iff_forall_mem,Bool.or_eq_true,Bool.not_eq_true',decide_eq_true_eq] at this;rcases this.1 e he with h|h
  ·rw[h] at hb;cases hb
  ·exact h
 ·have:=h4 i (lt hx);simp only[hx,Bool.and_eq_true,hg,decide_eq_true_eq] at this;exact this.2
def z8q(P:Program)(l r:List Oper)(Q:Exit→Act→World→Prop):Exit→Act→World→Prop
 |.normal,a,w=>wpAny P .any (l++r).toArray Q r.length (Array.replicate l.length true++Array.replicate r.length false) a w
 |e,a,w=>Q e a w
theorem k0k{i:Nat}(hi:i<l.length):(l++r).toArray[i]? =l.toArray[i]? :=by
 simp[List.getElem?_append_left hi]
theorem z8s{listed:Array Bool}{n i:Nat}(b:Bool)(hi:i<listed.size):(listed++Array.replicate n false).getD i b=listed.getD i b:=by
 simp[Array.getElem?_append_left hi,Array.getElem?_eq_getElem hi,Array.size_append]
theorem q8v:∀(L:List Bool),left L=0→L=List.replicate L.length true
 |[],_=>rfl
 |b::r,h=>by
  cases b with
  |false=>simp[left] at h
  |true=>simp only[left] at h;rw[List.length_cons,List.replicate_succ,←q8v r (by simpa using h)]
theorem q3s(T:StageT l r){listed:Array Bool}(hs:listed.size=l.length){i:Nat}(hi:i<l.length):
 i∈Region.ready .any (l++r).toArray (listed++Array.replicate r.length false)↔i∈Region.ready .any l.toArray listed:=by
 rw[mem_ready,mem_ready,z8s true (by omega),k0k hi];constructor
 ·rintro⟨h0,x,hx,hall⟩;refine⟨h0,x,hx,fun e he hb=>?_⟩;have:=T.order i x (by simpa using hx) e he hb;rw[←z8s false (by omega)];exact hall e he hb
 ·rintro⟨h0,x,hx,hall⟩;refine⟨h0,x,hx,fun e he hb=>?_⟩;have:=T.order i x (by simpa using hx) e he hb;rw[z8s false (by omega)];exact hall e he hb
theorem j7t(T:StageT l r){listed:Array Bool}(hs:listed.size=l.length)(h:Region.ready .any l.toArray listed=[]):∀n i,i<n→i<l.length→listed.getD i true=true:=by
 intro n;induction n with
 |zero=>intro i hi;omega
 |succ n ih=>
  intro i hin hi;cases hl:listed.getD i true with
  |true=>rfl
  |false=>
   have:i∈Region.ready .any l.toArray listed:=mem_ready.2 ⟨hl,l[i],by simp[List.getElem?_eq_getElem hi],fun e he hb=>by
    have hlt:=T.order i l[i] (y1o hi) e he hb;have:=ih e.on (by omega) (by omega);have hz:e.on<listed.size:=by omega
    simpa [hz] using this⟩
   rw[h] at this;cases this
theorem q8w{listed:Array Bool}(h:∀i,i<listed.size→listed.getD i true=true):left listed.toList=0:=by
 rcases Nat.eq_zero_or_pos (left listed.toList) with h0|h0
 ·exact h0
 ·exfalso;have:∀L:List Bool,0<left L→false∈L:=by
   intro L;induction L with
   |nil=>intro h;simp[left] at h
   |cons b r ih=>
    intro h;cases b with
    |false=>exact y1s ..
    |true=>exact y1r _ (ih (by simpa [left] using h))
  obtain⟨i,hi,he⟩:=List.mem_iff_getElem.1 (this _ h0);have hz:i<listed.size:=by simpa using hi
  have:=h i hz;simp[hz] at this;simp at he;rw[he] at this;cases this
theorem j0s(T:StageT l r):∀(fuel:Nat) (listed:Array Bool) (a:Act) (w:World),listed.size=l.length→left listed.toList=fuel→
 wpAny P .any l.toArray (z8q P l r Q) fuel listed a w→wpAny P .any (l++r).toArray Q (fuel+r.length) (listed++Array.replicate r.length false) a w:=by
 intro fuel;induction fuel with
 |zero=>
  intro listed a w hs hl h;have e:listed=Array.replicate l.length true:=by
   apply Array.ext';rw[q8v _ hl,Array.toList_replicate,Array.length_toList,hs]
  rw[e,Nat.zero_add];exact h.2
 |succ fuel ih=>
  intro listed a w hs hl h;rw[show fuel+1+r.length=(fuel+r.length)+1 by omega];refine⟨fun h0=>?_,fun i hi=>?_⟩
  ·exfalso;have hr:Region.ready .any l.toArray listed=[]:=by
    rw[List.eq_nil_iff_forall_not_mem];intro i hi;have hlt:=z4z hi;have:=(q3s T hs (by simpa using hlt)).2 hi;rw[h0] at this;cases this
   have:=q8w (listed:=listed) (fun i hi=>j7t T hs hr (i+1) i (by omega) (by omega));omega
  ·by_cases hil:i<l.length
   ·have hi':=(q3s T hs hil).1 hi;obtain⟨h0,-,-,-⟩:=mem_ready.1 hi';have h1:=h.2 i hi';have hzi:i<listed.size:=by omega
    have hset:(listed++Array.replicate r.length false).setIfInBounds i true=(listed.setIfInBounds i true)++Array.replicate r.length false:=by
     apply Array.ext';simp[List.set_append,hzi]
    have hcount:left (listed.setIfInBounds i true).toList=fuel:=by
     have hget:listed.toList[i]? =some false:=by
      simp[hzi] at h0;simp[hzi,h0]
     have:=z5v listed.toList i hget;rw[show(listed.setIfInBounds i true).toList=listed.toList.set i true by simp];omega
    rw[hset];unfold wpOp at h1⊢;rw[k0k hil];simp only[List.getElem?_toArray,List.getElem?_eq_getElem hil] at h1⊢;have hy:Region.wanted l[i] (yielded (l++r).toArray a.tmps)=Region.wanted l[i] (yielded l.toArray a.tmps):=by
     unfold Region.wanted;cases hg:l[i].guard with
     |none=>rfl
     |some g=>
      obtain⟨j,b⟩:=g;have hj:=T.guards i l[i] (y1o hil) j b hg;simp only[yielded,k0k hj]
    rw[hy];split
    ·rename_i hw
     rw[if_pos hw] at h1;rcases h1 with h1|⟨h1,a0,w0,hq⟩
     ·exact .inl (Oper.wp_mono (fun a' w' hk=>ih _ a' w' (by simpa using hs) hcount hk) (Oper.wp_exits (Q:=z8q P l r Q) (fun e a w hne hq=>by cases e<;>first|exact hq|exact absurd rfl hne) h1))
     ·exact .inr ⟨h1,a0,w0,hq⟩
    ·rename_i hw
     rw[if_neg hw] at h1;exact ih _ _ _ (by simpa using hs) hcount h1
   ·exfalso;obtain⟨h0,y,hy,hall⟩:=mem_ready.1 hi;have hmem:y∈r:=by
     have h1:(l++r)[i]? =some y:=by simpa using hy
     rw[List.getElem?_append_right (by omega)] at h1;exact List.mem_of_getElem? h1
    have:=q8w (listed:=listed) (fun j hj=>by
     obtain⟨e,he,hb,hon⟩:=T.waits y hmem j (by omega);have h2:=hall e he hb;rw[hon,z8s false hj] at h2;simpa [hj] using h2)
    omega
end
section
variable {P : Program} {a0 : Act} {F : Nat → Value → World → Prop} {J : (Nat → Bool) → (Tmp → Value) → World → Prop} {Pn : List PanicEntry → World → Prop} {l : List Oper}
theorem q2g{id:Nat}{Q:Exit→Act→World→Prop}{w:World}(k:Nat)(F:Nat→Value→World→Prop)(J:(Nat→Bool)→(Tmp→Value)→World→Prop)(Pn:List PanicEntry→World→Prop)(hm:P.follows .mixedOrders=true)(hst:∀i v w w',F i v w→F i v w')(hB:z5a (l.take k) a0.tmps.size=true)(hT:j1c (l.take k) (l.drop k)=true)
 (hg:GuardsMet F (l.take k)) (h0:J (fun _=>false) (tau a0) w.drew)
 (hS:StepsI P a0 F J Pn (l.take k) (l.take k) 0) (hP:∀A ch w,A.defers=a0.defers→Pn ch w→Q (.panic ch) A w)
 (hE:∀A w,KnownI a0 F J (l.take k) (fun j=>decide (j<(l.take k).length)) A w→wpAny P .any l.toArray Q (l.drop k).length (Array.replicate (l.take k).length true++Array.replicate (l.drop k).length false) A w):(Code.region id l.toArray true).wp P Q a0 w:=by
 refine wp_region_any hm ?_;have hl:l.take k++l.drop k=l:=List.take_append_drop k l;have hf:l.toArray.size=(l.take k).length+(l.drop k).length:=by
  rw[←List.length_append,List.take_append_drop];simp
 have hE':∀A w,KnownI a0 F J (l.take k) (fun j=>decide (j<(l.take k).length)) A w→z8q P (l.take k) (l.drop k) Q .normal A w:=fun A w h=>by
  unfold z8q;rw[hl];exact hE A w h
 have hP':∀A ch w,A.defers=a0.defers→Pn ch w→z8q P (l.take k) (l.drop k) Q (.panic ch) A w:=fun A ch w h1 h2=>hP A ch w h1 h2
 have hf0:(fun j=>(Array.replicate (l.take k).length false).getD j false)=fun _=>false:=by
  funext j
  exact z1s ..
 have key:=j0s (P:=P) (Q:=Q) (j1b hT) (left (Array.replicate (l.take k).length false).toList) (Array.replicate (l.take k).length false) a0 w.drew (by simp) rfl
  (q2h hst (z3a hB) hg hS hP' hE' (left (Array.replicate (l.take k).length false).toList) _ a0 w.drew (by simp) (by
    rw[Array.toList_replicate,z0z];intro h;have:l.take k=[]:=y1q h;rw[this];rfl) (y1j _) ⟨rfl,rfl,(fun j d _ hl=>by rw[z1s] at hl;cases hl),(fun t _=>rfl),(by rw[hf0];exact h0)⟩)
 rw[hl] at key;have e1:left (Array.replicate (l.take k).length false).toList+(l.drop k).length=l.toArray.size:=by rw[Array.toList_replicate,z0z];exact hf.symm
 have e2:Array.replicate (l.take k).length false++Array.replicate (l.drop k).length false=Array.replicate l.toArray.size false:=by
  rw[hf];apply Array.ext';simp
 rw[e1,e2] at key;exact key
def k6n(p:Nat)(d:Tmp)(J0:World→Prop)(J1:Value→World→Prop)(q:Nat)(dq:Tmp)(K:Value→World→Prop)(L:Nat→Bool)(τ:Tmp→Value)(w:World):Prop:=phJ p d J0 J1 L τ w∧(match L q with|false=>True|true=>K (τ dq) w)
theorem q5i{p q:Nat}{d dq:Tmp}{J0:World→Prop}{J1 K:Value→World→Prop}:j4r (k6n p d J0 J1 q dq K) [p,q] [d,dq]:=fun L L' τ τ' w hS hT h=>by
 unfold k6n at h⊢;refine⟨z6j L L' τ τ' w (fun s hs=>hS s (by simp at hs;simp[hs])) (fun t ht=>hT t (by simp at ht;simp[ht])) h.1,?_⟩;rw[hS q (by simp),hT dq (by simp)];exact h.2
theorem j3e{p q:Nat}{d dq:Tmp}{J0:World→Prop}{J1 K:Value→World→Prop}{I:World→Prop}(h0:∀w,J0 w→I w)(h1:∀v w,J1 v w→I w)(L:Nat→Bool)(τ:Tmp→Value)(w:World)(h:k6n p d J0 J1 q dq K L τ w):I w:=q1k h0 h1 L τ w h.1
theorem StepI.turn2{p q:Nat}{d dq:Tmp}{J0:World→Prop}{J1 K:Value→World→Prop}{o:Oper}(ho:o.dst=some d)(hd:decide (d<a0.tmps.size)=true)(hpq:decide (q=p)=false)(hdq:decide (d=dq)=false)
 (h:∀(A:Act) (w:World),J0 w→z3d F l A w o.after.toList→(∀t:Tmp,(∀j:Nat,(l[j]?).bind Oper.dst≠some t)→A.tmps.getD t undef=a0.tmps.getD t undef)→o.wp P A w (fun A' w'=>∃v,A'=A.put o.dst v∧F p v w'∧J1 v w'∧∀u,K u w→K u w') (z4s Pn A)):StepI P a0 F (k6n p d J0 J1 q dq K) Pn l p o:=by
 intro L A w hli haf hsz hdep hrest hJ;obtain⟨hJ,hK⟩:=hJ;unfold phJ at hJ;rw[hli] at hJ;refine Oper.wp_mono ?_ (h A w hJ hdep hrest);rintro A' w' ⟨v,rfl,hF,hJ1,hKK⟩;refine⟨v,rfl,hF,?_,?_⟩
 ·unfold phJ;simp only[beq_self_eq_true,Bool.or_true];rw[ho,z2r (by rw[hsz];exact of_decide_eq_true hd)];exact hJ1
 ·have hne:(q==p)=false:=by simpa using of_decide_eq_false hpq
  simp only[hne,Bool.or_false];rw[q6l (by rw[ho];intro e;injection e with e;exact of_decide_eq_false hdq e)];split
  ·trivial
  ·rename_i hq
   rw[hq] at hK;exact hKK _ hK
theorem StepI.lay2{p q:Nat}{d dq:Tmp}{J0:World→Prop}{J1 K:Value→World→Prop}{o:Oper}(ho:o.dst=some dq)(hd:decide (dq<a0.tmps.size)=true)(hpq:decide (p=q)=false)(hdq:decide (dq=d)=false)(hx0:∀w w',J0 w→Ext w w'→J0 w')(hx1:∀u w w',J1 u w→Ext w w'→J1 u w')
 (h:∀(A:Act) (w:World),(J0 w∨∃u,J1 u w)→z3d F l A w o.after.toList→(∀t:Tmp,(∀j:Nat,(l[j]?).bind Oper.dst≠some t)→A.tmps.getD t undef=a0.tmps.getD t undef)→o.wp P A w (fun A' w'=>∃v,A'=A.put o.dst v∧F q v w'∧Ext w w'∧K v w') (z4s Pn A)):StepI P a0 F (k6n p d J0 J1 q dq K) Pn l q o:=by
 intro L A w hli haf hsz hdep hrest hJ;obtain⟨hJ,-⟩:=hJ;refine Oper.wp_mono ?_ (h A w ?_ hdep hrest)
 ·rintro A' w' ⟨v,rfl,hF,hx,hK⟩;refine⟨v,rfl,hF,?_,?_⟩
  ·unfold phJ at hJ⊢;have hne:(p==q)=false:=by simpa using of_decide_eq_false hpq
   simp only[hne,Bool.or_false];rw[q6l (by rw[ho];intro e;injection e with e;exact of_decide_eq_false hdq e)];split
   ·rename_i hp
    rw[hp] at hJ;exact hx0 _ _ hJ hx
   ·rename_i hp
    rw[hp] at hJ;exact hx1 _ _ _ hJ hx
  ·simp only[beq_self_eq_true,Bool.or_true];rw[ho,z2r (by rw[hsz];exact of_decide_eq_true hd)];exact hK
 ·unfold phJ at hJ;split at hJ
  ·exact .inl hJ
  ·exact .inr ⟨_,hJ⟩
theorem q7t{ops:Array Oper}{Q:Exit→Act→World→Prop}{i j:Nat}{listed:Array Bool}{a:Act}{w:World}(h:Region.ready .any ops listed=[i,j])(hi:Region.ready .any ops (listed.setIfInBounds i true)=[j])(hj:Region.ready .any ops (listed.setIfInBounds j true)=[i])
 (hij:Region.ready .any ops ((listed.setIfInBounds i true).setIfInBounds j true)=[]) (hji:Region.ready .any ops ((listed.setIfInBounds j true).setIfInBounds i true)=[])
 (h1:wpOp P ops Q i (fun a' w'=>wpOp P ops Q j (fun a'' w''=>Q .normal a'' w'') a' w') a w) (h2:wpOp P ops Q j (fun a' w'=>wpOp P ops Q i (fun a'' w''=>Q .normal a'' w'') a' w') a w):wpAny P .any ops Q 2 listed a w:=by
 have e1:∀{x y:Nat} (L:Array Bool),Region.ready .any ops L=[y]→Region.ready .any ops (L.setIfInBounds y true)=[]→∀a w,wpOp P ops Q y (fun a'' w''=>Q .normal a'' w'') a w→wpAny P .any ops Q 1 L a w:=fun{x y} L hL hL2 a w hq=>
  ⟨(fun h0=>by rw[hL] at h0;cases h0),(fun z hz=>by
    rw[hL] at hz;obtain rfl:z=y:=by simpa using hz
    exact wpOp_mono (fun a' w' hq=>⟨hL2,hq⟩) hq)⟩
 refine⟨(fun h0=>by rw[h] at h0;cases h0),(fun z hz=>?_)⟩;rw[h] at hz;simp only[List.mem_cons,List.not_mem_nil,or_false] at hz;rcases hz with rfl|rfl
 ·exact wpOp_mono (fun a' w' hq=>e1 (x:=0) _ hi hij a' w' hq) h1
 ·exact wpOp_mono (fun a' w' hq=>e1 (x:=0) _ hj hji a' w' hq) h2
end
abbrev CJ:=(Tmp→Value)→World→Prop
def chJ:List (Nat×CJ)→CJ→(Nat→Bool)→(Tmp→Value)→World→Prop
 |[],E,_,τ,w=>E τ w
 |(p,J)::r,E,L,τ,w=>match L p with|false=>J τ w∧∀q,q∈r→L q.1=false|true=>chJ r E L τ w
def nxJ:List (Nat×CJ)→CJ→CJ
 |[],E=>E
 |(_,J)::_,_=>J
def y0m(Φ:CJ→Prop):List (Nat×CJ)→Prop
 |[]=>True
 |q::r=>Φ q.2∧y0m Φ r
theorem k5x{p:Nat}{J E:CJ}{post:List (Nat×CJ)}{L:Nat→Bool}{τ:Tmp→Value}{w:World}(hp:L p=false):∀(pre:List (Nat×CJ)),(∀q,pre.getLast? =some q→L q.1=true)→chJ (pre++(p,J)::post) E L τ w→
 J τ w∧(∀q,q∈pre→L q.1=true)∧∀q,q∈post→L q.1=false
 |[],_,h=>by
  rw[List.nil_append,chJ,hp] at h;exact⟨h.1,fun q hq=>absurd hq List.not_mem_nil,h.2⟩
 |(x,Jx)::pre,hl,h=>by
  rw[List.cons_append,chJ] at h;cases hx:L x with
  |false=>
   rw[hx] at h;cases pre with
   |nil=>have:=hl (x,Jx) rfl;rw[hx] at this;cases this
   |cons y r=>
    obtain⟨q,hq⟩:∃q,(y::r).getLast? =some q:=⟨_,List.getLast?_eq_some_getLast (by simp)⟩;have h1:=hl q (by rw[List.getLast?_cons_cons];exact hq);have h2:=h.2 q (List.mem_append_left _ (List.mem_of_getLast? hq));rw[h1] at h2;cases h2
  |true=>
   rw[hx] at h;obtain⟨h1,h2,h3⟩:=k5x hp pre (fun q hq=>hl q (by
    cases pre with
    |nil=>cases hq
    |cons y r=>rw[List.getLast?_cons_cons];exact hq)) h
   refine⟨h1,fun q hq=>?_,h3⟩;rcases List.mem_cons.1 hq with rfl|hq
   ·exact hx
   ·exact h2 q hq
theorem j4l{p:Nat}{J E:CJ}{post:List (Nat×CJ)}{L:Nat→Bool}{τ:Tmp→Value}{w:World}(hp:L p=true)(hpost:∀q,q∈post→L q.1=false)(h:nxJ post E τ w):∀(pre:List (Nat×CJ)),(∀q,q∈pre→L q.1=true)→chJ (pre++(p,J)::post) E L τ w
 |[],_=>by
  rw[List.nil_append,chJ,hp];cases post with
  |nil=>exact h
  |cons y r=>
   obtain⟨y,Jy⟩:=y;show chJ ((y,Jy)::r) E L τ w;rw[chJ,hpost (y,Jy) (List.mem_cons_self ..)];exact⟨h,fun q hq=>hpost q (y1r _ hq)⟩
 |(x,Jx)::pre,hl=>by
  rw[List.cons_append,chJ,hl (x,Jx) (List.mem_cons_self ..)];exact j4l hp hpost h pre (fun q hq=>hl q (y1r _ hq))
theorem k1i{I:World→Prop}{E:CJ}{L:Nat→Bool}{τ:Tmp→Value}{w:World}(hE:∀τ w,E τ w→I w):∀(c:List (Nat×CJ)),y0m (fun J=>∀τ w,J τ w→I w) c→chJ c E L τ w→I w
 |[],_,h=>hE _ _ h
 |(p,J)::r,ha,h=>by
  rw[chJ] at h;split at h
  ·exact ha.1 _ _ h.1
  ·exact k1i hE r ha.2 h
theorem z5k{T:List Tmp}{E:CJ}(hE:∀τ τ' w,(∀t,t∈T→τ' t=τ t)→E τ w→E τ' w):∀(c:List (Nat×CJ)),y0m (fun J=>∀τ τ' w,(∀t,t∈T→τ' t=τ t)→J τ w→J τ' w) c→j4r (chJ c E) (c.map Prod.fst) T
 |[],_=>fun L L' τ τ' w _ hT h=>hE τ τ' w hT h
 |(p,J)::r,ha=>fun L L' τ τ' w hS hT h=>by
  rw[chJ] at h⊢;rw[hS p (by simp)];split at h
  ·exact⟨ha.1 τ τ' w hT h.1,fun q hq=>by rw[hS q.1 (by simp;exact .inr ⟨_,hq⟩)];exact h.2 q hq⟩
  ·exact z5k hE r ha.2 L L' τ τ' w (fun s hs=>hS s (by simp at hs⊢;exact .inr hs)) hT h
theorem q2b{I:World→Prop}{E:CJ}{c:List (Nat×CJ)}{L:Nat→Bool}{τ:Tmp→Value}{w:World}(h:chJ c E L τ w)(hE:∀τ w,E τ w→I w)(ha:y0m (fun J=>∀τ w,J τ w→I w) c):I w:=k1i hE c ha h
theorem z6u{E:CJ}{τ:Tmp→Value}{w:World}:∀(c:List (Nat×CJ)),nxJ c E τ w→chJ c E (fun _=>false) τ w
 |[],h=>h
 |(p,J)::r,h=>⟨h,fun _ _=>rfl⟩
theorem z9r{E:CJ}{L:Nat→Bool}{τ:Tmp→Value}{w:World}:∀(c:List (Nat×CJ)),(c.all fun q=>L q.1)=true→chJ c E L τ w→E τ w
 |[],_,h=>h
 |(p,J)::r,hl,h=>by
  simp only[List.all_cons,Bool.and_eq_true] at hl;rw[chJ,hl.1] at h;exact z9r r hl.2 h
section
variable {P : Program} {a0 : Act} {F : Nat → Value → World → Prop} {Pn : List PanicEntry → World → Prop} {l : List Oper}
theorem StepI.chain{c:List (Nat×CJ)}{E:CJ}(i:Nat){p:Nat}{J:CJ}{o:Oper}(hp:c[i]? =some (p,J))(hw:(match(c.take i).getLast? with|none=>true|some q=>o.after.any fun e=>Region.binds .any e && e.on==q.1)=true)(hn:((c.take i++c.drop (i+1)).all fun q=>q.1 !=p)=true)
 (h:∀(A:Act) (w:World),A.tmps.size=a0.tmps.size→J (tau A) w→z3d F l A w o.after.toList→(∀t:Tmp,(∀j:Nat,(l[j]?).bind Oper.dst≠some t)→A.tmps.getD t undef=a0.tmps.getD t undef)→
   o.wp P A w (fun A' w'=>∃v,A'=A.put o.dst v∧F p v w'∧nxJ (c.drop (i+1)) E (tau (A.put o.dst v)) w') (z4s Pn A)):StepI P a0 F (chJ c E) Pn l p o:=by
 have hc:c=c.take i++(p,J)::c.drop (i+1):=by
  obtain⟨hi,he⟩:=y1t.1 hp;rw[←he,←List.drop_eq_getElem_cons hi,List.take_append_drop]
 intro L A w hli haf hsz hdep hrest hJ;rw[hc] at hJ;obtain⟨h1,h2,h3⟩:=k5x hli (c.take i) (fun q hq=>by
  rw[hq] at hw;obtain⟨e,he,hb⟩:=Array.any_eq_true'.1 hw;simp only[Bool.and_eq_true,beq_iff_eq] at hb;rw[←hb.2];exact haf e he hb.1) hJ
 refine Oper.wp_mono ?_ (h A w hsz h1 hdep hrest);rintro A' w' ⟨v,rfl,hF,hN⟩;refine⟨v,rfl,hF,?_⟩;simp only[List.all_append,Bool.and_eq_true,List.all_eq_true,bne_iff_ne,ne_eq] at hn;rw[hc];refine j4l (by simp) (fun q hq=>?_) hN _ (fun q hq=>?_)
 ·have:=hn.2 q hq;simp[h3 q hq,this]
 ·simp[h2 q hq]
end
end Go.Proofs.YtlfmlodanoolhaaGreatDoor
