import Derived.Test.YtlfmlodanoolhaaGreatDoorE4
set_option linter.all false
set_option maxRecDepth 200000
set_option maxHeartbeats 32000000
namespace Go.Proofs.YtlfmlodanoolhaaGreatDoor
open Go Go.RowKit
def z5a(l:List Oper)(n:Nat):Bool:=
 l.all (fun o=>match o.dst with|some d=>decide (d<n)|none=>true) && (List.range l.length).all fun i=>match l[i]? with
  |some x=>x.after.all (fun e=>!Region.binds .any e||decide (e.on<i)) && (match x.dst with
   |some d=>(List.range i).all fun j=>((l[j]?).bind Oper.dst) !=some d
   |none=>true) && (match x.guard with
   |some (j,_)=>x.after.any (fun e=>Region.binds .any e && e.on==j) && ((l[j]?).bind Oper.dst).isSome
   |none=>true)
  |none=>true
structure FactsOkG(l:List Oper)(n:Nat):Prop where
 lt:∀(i:Nat) (d:Tmp),(l[i]?).bind Oper.dst=some d→d<n
 apart:∀(i j:Nat) (d:Tmp),(l[i]?).bind Oper.dst=some d→(l[j]?).bind Oper.dst=some d→i=j
 order:∀i x,l[i]? =some x→∀e∈x.after,Region.binds .any e=true→e.on<i
 guard:∀(i:Nat) (x:Oper) (j:Nat) (b:Bool),l[i]? =some x→x.guard=some (j,b)→(∃e∈x.after,Region.binds .any e=true∧e.on=j)∧∃d,(l[j]?).bind Oper.dst=some d
theorem z3a{l:List Oper}{n:Nat}(h:z5a l n=true):FactsOkG l n:=by
 simp only[z5a,Bool.and_eq_true,List.all_eq_true,List.mem_range] at h;obtain⟨h1,h2⟩:=h;have lt:∀{i:Nat} {d:Tmp},(l[i]?).bind Oper.dst=some d→∃o,l[i]? =some o∧o.dst=some d∧i<l.length:=by
  intro i d hi;obtain⟨o,ho,hd⟩:=Option.bind_eq_some_iff.1 hi;exact⟨o,ho,hd,(y1t.1 ho).1⟩
 have ap:∀(i j:Nat) (d:Tmp),j<i→(l[i]?).bind Oper.dst=some d→(l[j]?).bind Oper.dst=some d→False:=by
  intro i j d hji hi hj;obtain⟨o,ho,hd,hl⟩:=lt hi;have:=h2 i hl;simp only[ho,hd,Bool.and_eq_true,List.all_eq_true,List.mem_range,bne_iff_ne,ne_eq] at this;exact this.1.2 j hji hj
 refine⟨fun i d hi=>?_,fun i j d hi hj=>?_,fun i x hx e he hb=>?_,fun i x j b hx hg=>?_⟩
 ·obtain⟨o,ho,hd,_⟩:=lt hi;have:=h1 o (List.mem_of_getElem? ho);simpa [hd] using this
 ·rcases Nat.lt_trichotomy i j with h|h|h
  ·exact(ap j i d h hj hi).elim
  ·exact h
  ·exact(ap i j d h hi hj).elim
 ·have:=h2 i (y1t.1 hx).1;simp only[hx,Bool.and_eq_true,Array.all_eq_true_iff_forall_mem,Bool.or_eq_true,Bool.not_eq_true',decide_eq_true_eq] at this;rcases this.1.1 e he with h|h
  ·rw[h] at hb;cases hb
  ·exact h
 ·have:=h2 i (y1t.1 hx).1;simp only[hx,hg,Bool.and_eq_true] at this;obtain⟨e,he,hb⟩:=Array.any_eq_true'.1 this.2.1;simp only[Bool.and_eq_true,beq_iff_eq] at hb;exact⟨⟨e,he,hb.1,hb.2⟩,Option.isSome_iff_exists.1 this.2.2⟩
section
variable {P : Program} {W : World} {a0 : Act} {F : Nat → Value → World → Prop} {l : List Oper}
theorem Known.stepG(hst:∀i v w w',F i v w→Ext w w'→F i v w')(T:FactsOkG l a0.tmps.size){listed:Array Bool}{A:Act}{w:World}(h:Known W a0 F l (fun j=>listed.getD j false) A w)
 {i:Nat} {o:Oper} (ho:l[i]? =some o) {v:Value} {w':World} (hx:Ext w w') (hF:F i v w'):Known W a0 F l (fun j=>(listed.setIfInBounds i true).getD j false) (A.put o.dst v) w':=by
 have hd0:(l[i]?).bind Oper.dst=o.dst:=by rw[ho];rfl
 have hsz:(A.put o.dst v).tmps.size=a0.tmps.size:=by
  cases hdd:o.dst<;>simp[Act.put,h.size]
 have hdf:(A.put o.dst v).defers=a0.defers:=by
  cases hdd:o.dst<;>simp[Act.put,h.defers]
 have hother:∀t,o.dst≠some t→(A.put o.dst v).tmps.getD t undef=A.tmps.getD t undef:=by
  intro t ht;cases hdd:o.dst with
  |none=>rfl
  |some d=>rw[z4m,if_neg (fun hh=>ht (by rw[hdd,hh.1]))]
 refine⟨h.ext.trans hx,hsz,hdf,fun j d hj hl=>?_,fun t ht=>?_⟩
 ·by_cases hij:i=j
  ·subst hij;rw[hd0] at hj;rw[hj,z4m,if_pos ⟨rfl,by rw[h.size];exact T.lt i d (by rw[hd0];exact hj)⟩];exact hF
  ·rw[getD_set_ne false hij] at hl;rw[hother d (fun hh=>hij (T.apart i j d (by rw[hd0];exact hh) hj))];exact hst _ _ _ _ (h.done j d hj hl) hx
 ·rw[hother t (fun hh=>ht i (by rw[hd0];exact hh))];exact h.rest t ht
def GuardsMet(F:Nat→Value→World→Prop):List Oper→Prop
 |[]=>True
 |o::r=>(match o.guard with|some (j,b)=>∀v w,F j v w→v=.bool b|none=>True)∧GuardsMet F r
theorem GuardsMet.get{F:Nat→Value→World→Prop}:∀{l:List Oper},GuardsMet F l→∀{i:Nat} {o:Oper},l[i]? =some o→∀{j b},o.guard=some (j,b)→∀v w,F j v w→v=.bool b
 |[],_,_,_,ho,_,_,_=>by simp at ho
 |x::r,h,0,o,ho,j,b,hg=>by
  simp at ho;subst ho;have:=h.1;rw[hg] at this;exact this
 |x::r,h,i+1,o,ho,j,b,hg=>GuardsMet.get h.2 (by simpa using ho) hg
theorem q3o{A:Act}{w:World}{listed:Nat→Bool}{o:Oper}{i n:Nat}(T:FactsOkG l n)(hg:GuardsMet F l)(ho:l[i]? =some o)(hn:A.tmps.size=n)
 (h:∀(j:Nat) (d:Tmp),(l[j]?).bind Oper.dst=some d→listed j=true→F j (A.tmps.getD d undef) w) (he:∀e∈o.after,Region.binds .any e=true→listed e.on=true):
 Region.wanted o (yielded l.toArray A.tmps)=true:=by
 unfold Region.wanted;cases hgd:o.guard with
 |none=>rfl
 |some g=>
  obtain⟨j,b⟩:=g;obtain⟨⟨e,hm,hb,rfl⟩,d,hd⟩:=T.guard i o j b ho hgd;have hv:=hg.get ho hgd _ _ (h e.on d hd (he e hm hb));have hlt:=T.lt e.on d hd;have hy:yielded l.toArray A.tmps e.on=some b:=by
   unfold yielded;simp only[List.getElem?_toArray];rw[hd];have h1:d<A.tmps.size:=by rw[hn];exact hlt
   have h2:A.tmps[d]? =some (.bool b):=by
    rw[Array.getElem?_eq_getElem h1];have:=hv;rw[Array.getD_eq_getD_getElem?,Array.getElem?_eq_getElem h1] at this;exact congrArg some this
   simp[h2]
  simp[hy]
theorem q7y{Q:Exit→Act→World→Prop}(hst:∀i v w w',F i v w→Ext w w'→F i v w')(T:FactsOkG l a0.tmps.size)(hg:GuardsMet F l)(hS:StepsOk P W a0 F l l 0)
 (hE:∀A w,Known W a0 F l (fun j=>decide (j<l.length)) A w→Q .normal A w):
 ∀(fuel:Nat) (listed:Array Bool) (A:Act) (w:World),listed.size=l.length→(fuel=0→Region.ready .any l.toArray listed=[])→left listed.toList≤fuel→Known W a0 F l (fun j=>listed.getD j false) A w→
  wpAny P .any l.toArray Q fuel listed A w:=by
 have hO:=T.order;have fin:∀(listed:Array Bool) (A:Act) (w:World),listed.size=l.length→Region.ready .any l.toArray listed=[]→Known W a0 F l (fun j=>listed.getD j false) A w→Q .normal A w:=by
  intro listed A w hs hr hk;have all:∀n i,i<n→i<l.length→listed.getD i true=true:=by
   intro n;induction n with
   |zero=>intro i hi;omega
   |succ n ih=>
    intro i hin hi;cases hl:listed.getD i true with
    |true=>rfl
    |false=>
     have:i∈Region.ready .any l.toArray listed:=mem_ready.2 ⟨hl,l[i],by simp[List.getElem?_eq_getElem hi],fun e he hb=>by
      have hlt:=hO i l[i] (y1o hi) e he hb;have:=ih e.on (by omega) (by omega);have hz:e.on<listed.size:=by omega
      simpa [hz] using this⟩
     rw[hr] at this;cases this
  refine hE A w ⟨hk.ext,hk.size,hk.defers,fun j d hj hl=>hk.done j d hj ?_,hk.rest⟩;have hjl:j<l.length:=by simpa using hl
  have:=all (j+1) j (by omega) hjl;have hz:j<listed.size:=by omega
  simpa [hz] using this
 intro fuel;induction fuel with
 |zero=>
  intro listed A w hs h0 _ hk;exact⟨h0 rfl,fin listed A w hs (h0 rfl) hk⟩
 |succ fuel ih=>
  intro listed A w hs _ hc hk;refine⟨fun hr=>fin listed A w hs hr hk,fun i hi=>?_⟩;obtain⟨h0,o,ho,hall⟩:=mem_ready.1 hi;have ho':l[i]? =some o:=by simpa using ho
  have hil:i<l.length:=(y1t.1 ho').1;have hcount:left (listed.setIfInBounds i true).toList≤fuel:=by
   have hz:i<listed.size:=by omega
   have hget:listed.toList[i]? =some false:=by
    simp[hz] at h0;simp[hz,h0]
   have:=z5v listed.toList i hget;rw[show(listed.setIfInBounds i true).toList=listed.toList.set i true by simp];omega
  unfold wpOp;simp only[List.getElem?_toArray,ho'];rw[if_pos (q3o T hg ho' hk.size hk.done hall)];have hstep:=StepsOk.get l 0 hS i o ho';rw[Nat.zero_add] at hstep;refine .inl (Oper.wp_mono ?_ (Oper.wp_noWay (hstep A w hk.ext (z3o hk.done o.after.toList (fun e he hb=>hall e (by simpa using he) hb)) hk.rest)));rintro A' w' ⟨v,rfl,hx,hF⟩;refine ih _ _ _ (by simpa using hs) (fun hf=>?_) hcount (hk.stepG hst T ho' hx hF);subst hf;rw[List.eq_nil_iff_forall_not_mem];intro j hj;obtain⟨hj0,y,hy,_⟩:=mem_ready.1 hj;have hjl:j<l.length:=by
   have:=(y1n.1 hy).1;simpa using this
  have hz:j<(listed.setIfInBounds i true).size:=by simpa [hs] using hjl
  have:false∈(listed.setIfInBounds i true).toList:=by
   simp only[Array.getD_eq_getD_getElem?,Array.getElem?_eq_getElem hz,Option.getD_some] at hj0;rw[←hj0];exact Array.mem_toList_iff.2 (Array.getElem_mem _)
  have:=z7h _ this;omega
theorem z0d{A:Act}{w:World}:∀{es:List Edge},z3d F l A w es→∀(j:Nat) (d:Tmp),(es.any fun e=>Region.binds .any e && e.on==j)=true→(l[j]?).bind Oper.dst=some d→F j (A.tmps.getD d undef) w
 |[],_,_,_,h,_=>by simp at h
 |e::r,hd,j,d,h,hl=>by
  rw[List.any_cons,Bool.or_eq_true] at h;rcases h with h|h
  ·simp only[Bool.and_eq_true,beq_iff_eq] at h;obtain⟨h1,rfl⟩:=h;exact j2h hd h1 hl
  ·exact z0d hd.2 j d h hl
theorem q1b{id:Nat}{Q:Exit→Act→World→Prop}{w:World}(F:Nat→Value→World→Prop)(hm:P.follows .mixedOrders=true)(hB:z5a l a0.tmps.size=true)(hg:GuardsMet F l)(hw:Ext W w)(hst:∀i v w w',F i v w→Ext w w'→F i v w')
 (hS:StepsOk P W a0 F l l 0) (hE:∀A w,Known W a0 F l (fun j=>decide (j<l.length)) A w→Q .normal A w):(Code.region id l.toArray true).wp P Q a0 w:=by
 refine wp_region_any hm ?_;simp only[List.size_toArray];refine q7y hst (z3a hB) hg hS hE l.length _ a0 _ (by simp) (fun h=>?_) ?_ ⟨hw.drew,rfl,rfl,fun j d _ hl=>?_,fun t _=>rfl⟩
 ·have:l=[]:=y1q h;subst this;rfl
 ·rw[Array.toList_replicate,z0z];exact y1j _
 ·rw[z1s] at hl;cases hl
end
section
variable {P : Program} {W : World} {a0 : Act} {F : Nat → Value → World → Prop} {l : List Oper}
def GuardsSay(F:Nat→Value→World→Prop)(run:Nat→Bool):List Oper→Nat→Prop
 |[],_=>True
 |o::r,i=>(match o.guard with
  |some (j,b)=>(match run i with|true=>∀v w,F j v w→v=.bool b|false=>∀v w,F j v w→v≠.bool b)
  |none=>run i=true)∧GuardsSay F run r (i+1)
theorem GuardsSay.get{run:Nat→Bool}:∀{l:List Oper} {k:Nat},GuardsSay F run l k→∀{i:Nat} {o:Oper},l[i]? =some o→(match o.guard with
 |some (j,b)=>(match run (k+i) with|true=>∀v w,F j v w→v=.bool b|false=>∀v w,F j v w→v≠.bool b)
 |none=>run (k+i)=true)
 |[],_,_,_,_,ho=>by simp at ho
 |x::r,k,h,0,o,ho=>by simp at ho;subst ho;exact h.1
 |x::r,k,h,i+1,o,ho=>by
  have:=GuardsSay.get h.2 (i:=i) (by simpa using ho);rwa[show k+1+i=k+(i+1) by omega] at this
def StepsRun(P:Program)(W:World)(a0:Act)(F:Nat→Value→World→Prop)(l:List Oper)(run:Nat→Bool):List Oper→Nat→Prop
 |[],_=>True
 |o::r,i=>(match run i with|true=>j4q P W a0 F l i o|false=>∀w,F i undef w)∧StepsRun P W a0 F l run r (i+1)
theorem StepsRun.get{run:Nat→Bool}:∀(r:List Oper) (k:Nat),StepsRun P W a0 F l run r k→∀(j:Nat) (o:Oper),r[j]? =some o→(match run (k+j) with|true=>j4q P W a0 F l (k+j) o|false=>∀w,F (k+j) undef w)
 |[],_,_,_,_,hj=>by simp at hj
 |x::r,k,h,0,o,hj=>by simp at hj;subst hj;exact h.1
 |x::r,k,h,j+1,o,hj=>by
  have:=StepsRun.get r (k+1) h.2 j o (by simpa using hj);rwa[show k+1+j=k+(j+1) by omega] at this
theorem q0z{A:Act}{l:List Oper}{j:Nat}{d:Tmp}(hd:(l[j]?).bind Oper.dst=some d):yielded l.toArray A.tmps j=(match A.tmps.getD d undef with|.bool b=>some b|_=>none)∨A.tmps.size≤d:=by
 rcases Nat.lt_or_ge d A.tmps.size with h1|h1
 ·left
  unfold yielded;simp only[List.getElem?_toArray];rw[hd];simp[Array.getD_eq_getD_getElem?,Array.getElem?_eq_getElem h1];try (split<;>simp_all)
 ·exact .inr h1
theorem q5d{A:Act}{w:World}{listed:Nat→Bool}{o:Oper}{i n j:Nat}{b:Bool}(T:FactsOkG l n)(ho:l[i]? =some o)(hgd:o.guard=some (j,b))(hg:∀v w,F j v w→v≠.bool b)(hn:A.tmps.size=n)
 (h:∀(j:Nat) (d:Tmp),(l[j]?).bind Oper.dst=some d→listed j=true→F j (A.tmps.getD d undef) w) (he:∀e∈o.after,Region.binds .any e=true→listed e.on=true):
 Region.wanted o (yielded l.toArray A.tmps)=false:=by
 obtain⟨⟨e,hm,hb,rfl⟩,d,hd⟩:=T.guard i o j b ho hgd;have hv:=hg _ _ (h e.on d hd (he e hm hb));have hlt:=T.lt e.on d hd;rcases q0z (A:=A) hd with hy|hy
 ·unfold Region.wanted;rw[hgd];simp only[hy];generalize A.tmps.getD d undef=v at hv;cases v<;>simp_all
 ·exact absurd (y1m hlt (y1k (Nat.le_of_eq hn.symm) hy)) (Nat.lt_irrefl _)
theorem q7x{Q:Exit→Act→World→Prop}(run:Nat→Bool)(hst:∀i v w w',F i v w→Ext w w'→F i v w')(T:FactsOkG l a0.tmps.size)(hg:GuardsSay F run l 0)(hS:StepsRun P W a0 F l run l 0)
 (hE:∀A w,Known W a0 F l (fun j=>decide (j<l.length)) A w→Q .normal A w):
 ∀(fuel:Nat) (listed:Array Bool) (A:Act) (w:World),listed.size=l.length→(fuel=0→Region.ready .any l.toArray listed=[])→left listed.toList≤fuel→Known W a0 F l (fun j=>listed.getD j false) A w→
  wpAny P .any l.toArray Q fuel listed A w:=by
 have hO:=T.order;have fin:∀(listed:Array Bool) (A:Act) (w:World),listed.size=l.length→Region.ready .any l.toArray listed=[]→Known W a0 F l (fun j=>listed.getD j false) A w→Q .normal A w:=by
  intro listed A w hs hr hk;have all:∀n i,i<n→i<l.length→listed.getD i true=true:=by
   intro n;induction n with
   |zero=>intro i hi;omega
   |succ n ih=>
    intro i hin hi;cases hl:listed.getD i true with
    |true=>rfl
    |false=>
     have:i∈Region.ready .any l.toArray listed:=mem_ready.2 ⟨hl,l[i],by simp[List.getElem?_eq_getElem hi],fun e he hb=>by
      have hlt:=hO i l[i] (y1o hi) e he hb;have:=ih e.on (by omega) (by omega);have hz:e.on<listed.size:=by omega
      simpa [hz] using this⟩
     rw[hr] at this;cases this
  refine hE A w ⟨hk.ext,hk.size,hk.defers,fun j d hj hl=>hk.done j d hj ?_,hk.rest⟩;have hjl:j<l.length:=by simpa using hl
  have:=all (j+1) j (by omega) hjl;have hz:j<listed.size:=by omega
  simpa [hz] using this
 intro fuel;induction fuel with
 |zero=>
  intro listed A w hs h0 _ hk;exact⟨h0 rfl,fin listed A w hs (h0 rfl) hk⟩
 |succ fuel ih=>
  intro listed A w hs _ hc hk;refine⟨fun hr=>fin listed A w hs hr hk,fun i hi=>?_⟩;obtain⟨h0,o,ho,hall⟩:=mem_ready.1 hi;have ho':l[i]? =some o:=by simpa using ho
  have hil:i<l.length:=(y1t.1 ho').1;have hcount:left (listed.setIfInBounds i true).toList≤fuel:=by
   have hz:i<listed.size:=by omega
   have hget:listed.toList[i]? =some false:=by
    simp[hz] at h0;simp[hz,h0]
   have:=z5v listed.toList i hget;rw[show(listed.setIfInBounds i true).toList=listed.toList.set i true by simp];omega
  have hfuel:fuel=0→Region.ready .any l.toArray (listed.setIfInBounds i true)=[]:=by
   intro hf;subst hf;rw[List.eq_nil_iff_forall_not_mem];intro j hj;obtain⟨hj0,y,hy,_⟩:=mem_ready.1 hj;have hjl:j<l.length:=by
    have:=(y1n.1 hy).1;simpa using this
   have hz:j<(listed.setIfInBounds i true).size:=by simpa [hs] using hjl
   have:false∈(listed.setIfInBounds i true).toList:=by
    simp only[Array.getD_eq_getD_getElem?,Array.getElem?_eq_getElem hz,Option.getD_some] at hj0;rw[←hj0];exact Array.mem_toList_iff.2 (Array.getElem_mem _)
   have:=z7h _ this;omega
  unfold wpOp;simp only[List.getElem?_toArray,ho'];have hsay:=hg.get ho';have hstep:=StepsRun.get l 0 hS i o ho';rw[Nat.zero_add] at hsay hstep;cases hrun:run i with
  |true=>
   rw[hrun] at hstep hsay;have hw:Region.wanted o (yielded l.toArray A.tmps)=true:=by
    cases hgd:o.guard with
    |none=>unfold Region.wanted;rw[hgd]
    |some g=>
     obtain⟨j,b⟩:=g;rw[hgd] at hsay;obtain⟨⟨e,hm,hb,rfl⟩,d,hd⟩:=T.guard i o j b ho' hgd;have hv:=hsay _ _ (hk.done e.on d hd (hall e hm hb));have hlt:=T.lt e.on d hd;rcases q0z (A:=A) hd with hy|hy
     ·unfold Region.wanted;rw[hgd];simp only[hy,hv];simp
     ·exact absurd (y1m hlt (y1k (Nat.le_of_eq hk.size.symm) hy)) (Nat.lt_irrefl _)
   rw[if_pos hw];refine .inl (Oper.wp_mono ?_ (Oper.wp_noWay (hstep A w hk.ext (z3o hk.done o.after.toList (fun e he hb=>hall e (by simpa using he) hb)) hk.rest)));rintro A' w' ⟨v,rfl,hx,hF⟩;exact ih _ _ _ (by simpa using hs) hfuel hcount (hk.stepG hst T ho' hx hF)
  |false=>
   rw[hrun] at hstep hsay;have hw:Region.wanted o (yielded l.toArray A.tmps)=false:=by
    cases hgd:o.guard with
    |none=>rw[hgd] at hsay;cases hsay
    |some g=>
     obtain⟨j,b⟩:=g;rw[hgd] at hsay;exact q5d T ho' hgd hsay hk.size hk.done hall
   rw[if_neg (by rw[hw];decide)];exact ih _ _ _ (by simpa using hs) hfuel hcount (hk.stepG hst T ho' (y1g w) (hstep w))
theorem z6e{id:Nat}{Q:Exit→Act→World→Prop}{w:World}(F:Nat→Value→World→Prop)(run:Nat→Bool)(hm:P.follows .mixedOrders=true)(hB:z5a l a0.tmps.size=true)(hg:GuardsSay F run l 0)(hw:Ext W w)(hst:∀i v w w',F i v w→Ext w w'→F i v w')
 (hS:StepsRun P W a0 F l run l 0) (hE:∀A w,Known W a0 F l (fun j=>decide (j<l.length)) A w→Q .normal A w):(Code.region id l.toArray true).wp P Q a0 w:=by
 refine wp_region_any hm ?_;simp only[List.size_toArray];refine q7x run hst (z3a hB) hg hS hE l.length _ a0 _ (by simp) (fun h=>?_) ?_ ⟨hw.drew,rfl,rfl,fun j d _ hl=>?_,fun t _=>rfl⟩
 ·have:l=[]:=y1q h;subst this;rfl
 ·rw[Array.toList_replicate,z0z];exact y1j _
 ·rw[z1s] at hl;cases hl
end
structure Goes(R:World→World→Prop):Prop where
 refl:∀w,R w w
 trans:∀a b c,R a b→R b c→R a c
 drew:∀a b,R a b→R a b.drew
theorem z0s:Goes Ext:=⟨y1g,fun _ _ _=>Ext.trans,fun _ _ h=>h.drew⟩
section
variable {P : Program} {R : World → World → Prop} {W : World} {a0 : Act} {F : Nat → Value → World → Prop} {l : List Oper}
structure KnownR(R:World→World→Prop)(W:World)(a0:Act)(F:Nat→Value→World→Prop)(l:List Oper)(listed:Nat→Bool)(A:Act)(w:World):Prop where
 rel:R W w
 size:A.tmps.size=a0.tmps.size
 defers:A.defers=a0.defers
 done:∀(j:Nat) (d:Tmp),(l[j]?).bind Oper.dst=some d→listed j=true→F j (A.tmps.getD d undef) w
 rest:∀t:Tmp,(∀j:Nat,(l[j]?).bind Oper.dst≠some t)→A.tmps.getD t undef=a0.tmps.getD t undef
def z4s(Pn:List PanicEntry→World→Prop)(A0:Act):Exit→Act→World→Prop
 |.panic ch,A,w=>A=A0∧Pn ch w
 |_,_,_=>False
theorem Oper.wp_panicOnly{o:Oper}{a:Act}{w:World}{K:Act→World→Prop}{Pn:List PanicEntry→World→Prop}{Q:Exit→Act→World→Prop}(hQ:∀ch w',Pn ch w'→Q (.panic ch) a w')(h:o.wp P a w K (z4s Pn a)):o.wp P a w K Q:=by
 unfold Oper.wp at*;generalize (execOp a.eval o).run P w=r at*;cases r with
 |ok n w'=>
  cases n<;>simp only[Oper.upon] at h⊢<;>
   first
    |exact h
    |exact Calls.mono h (fun e w'' he=>by cases e<;>first|exact he|exact hQ _ _ he.2|(obtain⟨_,_,hh⟩:=he;exact hh.elim))
    |exact h.elim
 |halt y w'=>cases y<;>simp only[Oper.upon] at h⊢<;>first|exact hQ _ _ h.2|exact h|exact h.elim
def y0b(P:Program)(R:World→World→Prop)(W:World)(a0:Act)(F:Nat→Value→World→Prop)(Pn:List PanicEntry→World→Prop)(l:List Oper)(i:Nat)(o:Oper):Prop:=
 ∀(A:Act) (w:World),R W w→z3d F l A w o.after.toList→(∀t:Tmp,(∀j:Nat,(l[j]?).bind Oper.dst≠some t)→A.tmps.getD t undef=a0.tmps.getD t undef)→
  o.wp P A w (fun A' w'=>∃v,A'=A.put o.dst v∧R w w'∧F i v w') (z4s Pn A)
def StepsR(P:Program)(R:World→World→Prop)(W:World)(a0:Act)(F:Nat→Value→World→Prop)(Pn:List PanicEntry→World→Prop)(l:List Oper)(run:Nat→Bool):List Oper→Nat→Prop
 |[],_=>True
 |o::r,i=>(match run i with|true=>y0b P R W a0 F Pn l i o|false=>∀w,F i undef w)∧StepsR P R W a0 F Pn l run r (i+1)
theorem StepsR.get{Pn:List PanicEntry→World→Prop}{run:Nat→Bool}:∀(r:List Oper) (k:Nat),StepsR P R W a0 F Pn l run r k→∀(j:Nat) (o:Oper),r[j]? =some o→(match run (k+j) with|true=>y0b P R W a0 F Pn l (k+j) o|false=>∀w,F (k+j) undef w)
 |[],_,_,_,_,hj=>by simp at hj
 |x::r,k,h,0,o,hj=>by simp at hj;subst hj;exact h.1
 |x::r,k,h,j+1,o,hj=>by
  have:=StepsR.get r (k+1) h.2 j o (by simpa using hj);rwa[show k+1+j=k+(j+1) by omega] at this
theorem KnownR.step(hg:Goes R)(hst:∀i v w w',F i v w→R w w'→F i v w')(T:FactsOkG l a0.tmps.size){listed:Array Bool}{A:Act}{w:World}(h:KnownR R W a0 F l (fun j=>listed.getD j false) A w)
 {i:Nat} {o:Oper} (ho:l[i]? =some o) {v:Value} {w':World} (hx:R w w') (hF:F i v w'):KnownR R W a0 F l (fun j=>(listed.setIfInBounds i true).getD j false) (A.put o.dst v) w':=by
 have hd0:(l[i]?).bind Oper.dst=o.dst:=by rw[ho];rfl
 have hsz:(A.put o.dst v).tmps.size=a0.tmps.size:=by
  cases hdd:o.dst<;>simp[Act.put,h.size]
 have hdf:(A.put o.dst v).defers=a0.defers:=by
  cases hdd:o.dst<;>simp[Act.put,h.defers]
 have hother:∀t,o.dst≠some t→(A.put o.dst v).tmps.getD t undef=A.tmps.getD t undef:=by
  intro t ht;cases hdd:o.dst with
  |none=>rfl
  |some d=>rw[z4m,if_neg (fun hh=>ht (by rw[hdd,hh.1]))]
 refine⟨hg.trans _ _ _ h.rel hx,hsz,hdf,fun j d hj hl=>?_,fun t ht=>?_⟩
 ·by_cases hij:i=j
  ·subst hij;rw[hd0] at hj;rw[hj,z4m,if_pos ⟨rfl,by rw[h.size];exact T.lt i d (by rw[hd0];exact hj)⟩];exact hF
  ·rw[getD_set_ne false hij] at hl;rw[hother d (fun hh=>hij (T.apart i j d (by rw[hd0];exact hh) hj))];exact hst _ _ _ _ (h.done j d hj hl) hx
 ·rw[hother t (fun hh=>ht i (by rw[hd0];exact hh))];exact h.rest t ht
theorem q7w{Q:Exit→Act→World→Prop}{Pn:List PanicEntry→World→Prop}(run:Nat→Bool)(hgo:Goes R)(hst:∀i v w w',F i v w→R w w'→F i v w')(T:FactsOkG l a0.tmps.size)(hg:GuardsSay F run l 0)(hS:StepsR P R W a0 F Pn l run l 0)
 (hP:∀A ch w,A.defers=a0.defers→Pn ch w→Q (.panic ch) A w)
 (hE:∀A w,KnownR R W a0 F l (fun j=>decide (j<l.length)) A w→Q .normal A w):
 ∀(fuel:Nat) (listed:Array Bool) (A:Act) (w:World),listed.size=l.length→(fuel=0→Region.ready .any l.toArray listed=[])→left listed.toList≤fuel→KnownR R W a0 F l (fun j=>listed.getD j false) A w→
  wpAny P .any l.toArray Q fuel listed A w:=by
 have hO:=T.order;have fin:∀(listed:Array Bool) (A:Act) (w:World),listed.size=l.length→Region.ready .any l.toArray listed=[]→KnownR R W a0 F l (fun j=>listed.getD j false) A w→Q .normal A w:=by
  intro listed A w hs hr hk;have all:∀n i,i<n→i<l.length→listed.getD i true=true:=by
   intro n;induction n with
   |zero=>intro i hi;omega
   |succ n ih=>
    intro i hin hi;cases hl:listed.getD i true with
    |true=>rfl
    |false=>
     have:i∈Region.ready .any l.toArray listed:=mem_ready.2 ⟨hl,l[i],by simp[List.getElem?_eq_getElem hi],fun e he hb=>by
      have hlt:=hO i l[i] (y1o hi) e he hb;have:=ih e.on (by omega) (by omega);have hz:e.on<listed.size:=by omega
      simpa [hz] using this⟩
     rw[hr] at this;cases this
  refine hE A w ⟨hk.rel,hk.size,hk.defers,fun j d hj hl=>hk.done j d hj ?_,hk.rest⟩;have hjl:j<l.length:=by simpa using hl
  have:=all (j+1) j (by omega) hjl;have hz:j<listed.size:=by omega
  simpa [hz] using this
 intro fuel;induction fuel with
 |zero=>
  intro listed A w hs h0 _ hk;exact⟨h0 rfl,fin listed A w hs (h0 rfl) hk⟩
 |succ fuel ih=>
  intro listed A w hs _ hc hk;refine⟨fun hr=>fin listed A w hs hr hk,fun i hi=>?_⟩;obtain⟨h0,o,ho,hall⟩:=mem_ready.1 hi;have ho':l[i]? =some o:=by simpa using ho
  have hil:i<l.length:=(y1t.1 ho').1;have hcount:left (listed.setIfInBounds i true).toList≤fuel:=by
   have hz:i<listed.size:=by omega
   have hget:listed.toList[i]? =some false:=by
    simp[hz] at h0;simp[hz,h0]
   have:=z5v listed.toList i hget;rw[show(listed.setIfInBounds i true).toList=listed.toList.set i true by simp];omega
  have hfuel:fuel=0→Region.ready .any l.toArray (listed.setIfInBounds i true)=[]:=by
   intro hf;subst hf;rw[List.eq_nil_iff_forall_not_mem];intro j hj;obtain⟨hj0,y,hy,_⟩:=mem_ready.1 hj;have hjl:j<l.length:=by
    have:=(y1n.1 hy).1;simpa using this
   have hz:j<(listed.setIfInBounds i true).size:=by simpa [hs] using hjl
   have:false∈(listed.setIfInBounds i true).toList:=by
    simp only[Array.getD_eq_getD_getElem?,Array.getElem?_eq_getElem hz,Option.getD_some] at hj0;rw[←hj0];exact Array.mem_toList_iff.2 (Array.getElem_mem _)
   have:=z7h _ this;omega
  unfold wpOp;simp only[List.getElem?_toArray,ho'];have hsay:=hg.get ho';have hstep:=StepsR.get l 0 hS i o ho';rw[Nat.zero_add] at hsay hstep;cases hrun:run i with
  |true=>
   rw[hrun] at hstep hsay;have hw:Region.wanted o (yielded l.toArray A.tmps)=true:=by
    cases hgd:o.guard with
    |none=>unfold Region.wanted;rw[hgd]
    |some g=>
     obtain⟨j,b⟩:=g;rw[hgd] at hsay;obtain⟨⟨e,hm,hb,rfl⟩,d,hd⟩:=T.guard i o j b ho' hgd;have hv:=hsay _ _ (hk.done e.on d hd (hall e hm hb));have hlt:=T.lt e.on d hd;rcases q0z (A:=A) hd with hy|hy
     ·unfold Region.wanted;rw[hgd];simp only[hy,hv];simp
     ·exact absurd (y1m hlt (y1k (Nat.le_of_eq hk.size.symm) hy)) (Nat.lt_irrefl _)
   rw[if_pos hw];refine .inl (Oper.wp_mono ?_ (Oper.wp_panicOnly (fun ch w' hp=>hP A ch w' hk.defers hp) (hstep A w hk.rel (z3o hk.done o.after.toList (fun e he hb=>hall e (by simpa using he) hb)) hk.rest)));rintro A' w' ⟨v,rfl,hx,hF⟩;exact ih _ _ _ (by simpa using hs) hfuel hcount (hk.step hgo hst T ho' hx hF)
  |false=>
   rw[hrun] at hstep hsay;have hw:Region.wanted o (yielded l.toArray A.tmps)=false:=by
    cases hgd:o.guard with
    |none=>rw[hgd] at hsay;cases hsay
    |some g=>
     obtain⟨j,b⟩:=g;rw[hgd] at hsay;exact q5d T ho' hgd hsay hk.size hk.done hall
   rw[if_neg (by rw[hw];decide)];exact ih _ _ _ (by simpa using hs) hfuel hcount (hk.step hgo hst T ho' (hgo.refl w) (hstep w))
def z6y(P:Program)(ops:Array Oper)(ts:List Oper)(Q:Exit→Act→World→Prop):Exit→Act→World→Prop
 |.normal,a,w=>wpList P ops Q ts a w
 |e,a,w=>Q e a w
def y0d(P:Program)(o:Oper)(K:Act→World→Prop)(Q:Exit→Act→World→Prop)(a:Act)(w:World):Prop:=o.wp P a w K Q∨(o.asks P a w∧LetsOut Q)
def q4w(P:Program)(o:Oper)(Q:Exit→Act→World→Prop):Exit→Act→World→Prop
 |.normal,a,w=>y0d P o (fun a w=>Q .normal a w) Q a w
 |e,a,w=>Q e a w
theorem Oper.wp_exits{x:Oper}{a:Act}{w:World}{K:Act→World→Prop}{Q Q':Exit→Act→World→Prop}(hQ:∀e a w,e≠.normal→Q e a w→Q' e a w)(h:x.wp P a w K Q):x.wp P a w K Q':=by
 have hL:LetsOut Q→LetsOut Q':=fun⟨a0,w0,hq⟩=>⟨a0,w0,hQ _ _ _ (by simp) hq⟩
 unfold Oper.wp at*;generalize (execOp a.eval x).run P w=r at*;cases r with
 |ok n w'=>
  cases n<;>simp only[Oper.upon] at h⊢<;>
   first
    |exact h
    |exact Calls.mono h (fun e w'' he=>by cases e<;>first|exact he|exact hQ _ _ _ (by simp) he|exact hL he)
    |exact h.elim
 |halt y w'=>cases y<;>simp only[Oper.upon] at h⊢<;>first|exact hQ _ _ _ (by simp) h|exact h
def Closed(l:List Oper)(listed:Array Bool):Prop:=∀(j:Nat) (x:Oper),l[j]? =some x→listed.getD j false=true→∀e∈x.after,Region.binds .any e=true→listed.getD e.on false=true
def k5p(l:List Oper)(o:Oper):List Nat:=(List.range l.length).reverse.foldl (fun acc i=>if(o.after.any fun e=>Region.binds .any e && e.on==i)||acc.any (fun j=>match l[j]? with
 |some x=>x.after.any fun e=>Region.binds .any e && e.on==i
 |none=>false) then i::acc else acc) []
theorem q2l{listed:Array Bool}{o:Oper}(hc:Closed l listed)(hr:∀e∈o.after,Region.binds .any e=true→listed.getD e.on false=true):∀(L acc:List Nat),(∀i,i∈acc→listed.getD i false=true)→
 ∀i,i∈L.foldl (fun acc i=>if(o.after.any fun e=>Region.binds .any e && e.on==i)||acc.any (fun j=>match l[j]? with
  |some x=>x.after.any fun e=>Region.binds .any e && e.on==i
  |none=>false) then i::acc else acc) acc→listed.getD i false=true
 |[],acc,ha,i,hi=>ha i hi
 |a::L,acc,ha,i,hi=>by
  rw[List.foldl_cons] at hi;refine q2l hc hr L _ ?_ i hi;intro k hk;split at hk
  ·rename_i hcond
   rcases List.mem_cons.1 hk with rfl|hk
   ·rw[Bool.or_eq_true] at hcond;rcases hcond with hcond|hcond
    ·obtain⟨e,he,hb⟩:=Array.any_eq_true'.1 hcond;simp only[Bool.and_eq_true,beq_iff_eq] at hb;rw[←hb.2];exact hr e he hb.1
    ·obtain⟨j,hj,hx⟩:=List.any_eq_true.1 hcond;split at hx
     ·rename_i x hlx
      obtain⟨e,he,hb⟩:=Array.any_eq_true'.1 hx;simp only[Bool.and_eq_true,beq_iff_eq] at hb;rw[←hb.2];exact hc j x hlx (ha j hj) e he hb.1
     ·cases hx
   ·exact ha k hk
  ·exact ha k hk
def j0z(S:List Nat)(l:List Oper)(o:Oper):Bool:=
 o.guard.isNone && (List.range l.length).all (fun i=>S.contains i||(k5p l o).contains i) && o.after.all (fun e=>!Region.binds .any e||decide (e.on<l.length)) &&
  (List.range l.length).all (fun i=>match l[i]? with
    |some x=>x.after.all (fun e=>!Region.binds .any e||decide (e.on<i)) && (match x.guard with|none=>true|some (j,_)=>decide (j<l.length))
    |none=>true)
structure TailS(S:List Nat)(l:List Oper)(o:Oper):Prop where
 guard:o.guard=none
 waits:∀i,i<l.length→i∈S∨i∈k5p l o
 last:∀e∈o.after,Region.binds .any e=true→e.on<l.length
 order:∀(i:Nat) (x:Oper),l[i]? =some x→∀e∈x.after,Region.binds .any e=true→e.on<i
 guards:∀(i:Nat) (x:Oper),l[i]? =some x→∀j b,x.guard=some (j,b)→j<l.length
theorem j0y{S:List Nat}{o:Oper}(h:j0z S l o=true):TailS S l o:=by
 simp only[j0z,Bool.and_eq_true,List.all_eq_true,List.mem_range,Array.all_eq_true_iff_forall_mem,Bool.or_eq_true,Bool.not_eq_true',decide_eq_true_eq] at h;obtain⟨⟨⟨h1,h2⟩,h3⟩,h4⟩:=h;have lt:∀{i:Nat} {x:Oper},l[i]? =some x→i<l.length:=fun hi=>(y1t.1 hi).1
 refine⟨by simpa using h1,fun i hi=>?_,fun e he hb=>?_,fun i x hx e he hb=>?_,fun i x hx j b hg=>?_⟩
 ·rcases h2 i hi with h|h
  ·exact .inl (by simpa using h)
  ·exact .inr (by simpa using h)
 ·rcases h3 e he with h|h
  ·rw[h] at hb;cases hb
  ·exact h
 ·have:=h4 i (lt hx);simp only[hx,Bool.and_eq_true,Array.all_eq_true_iff_forall_mem,Bool.or_eq_true,Bool.not_eq_true',decide_eq_true_eq] at this;rcases this.1 e he with h|h
  ·rw[h] at hb;cases hb
  ·exact h
 ·have:=h4 i (lt hx);simp only[hx,Bool.and_eq_true,hg,decide_eq_true_eq] at this;exact this.2
theorem z7e{S:List Nat}{o:Oper}(T:TailS S l o){listed:Array Bool}(hs:listed.size=l.length){i:Nat}(hi:i<l.length):
 i∈Region.ready .any (l++[o]).toArray (listed.push false)↔i∈Region.ready .any l.toArray listed:=by
 rw[mem_ready,mem_ready,z2a true (by omega),q1v hi];constructor
 ·rintro⟨h0,x,hx,hall⟩;refine⟨h0,x,hx,fun e he hb=>?_⟩;have:=T.order i x (by simpa using hx) e he hb;rw[←z2a false (by omega)];exact hall e he hb
 ·rintro⟨h0,x,hx,hall⟩;refine⟨h0,x,hx,fun e he hb=>?_⟩;have:=T.order i x (by simpa using hx) e he hb;rw[z2a false (by omega)];exact hall e he hb
theorem q4u{S:List Nat}{o:Oper}(T:TailS S l o){listed:Array Bool}(hs:listed.size=l.length)(h:Region.ready .any l.toArray listed=[]):∀n i,i<n→i<l.length→listed.getD i true=true:=by
 intro n;induction n with
 |zero=>intro i hi;omega
 |succ n ih=>
  intro i hin hi;cases hl:listed.getD i true with
  |true=>rfl
  |false=>
   have:i∈Region.ready .any l.toArray listed:=mem_ready.2 ⟨hl,l[i],by simp[List.getElem?_eq_getElem hi],fun e he hb=>by
    have hlt:=T.order i l[i] (y1o hi) e he hb;have:=ih e.on (by omega) (by omega);have hz:e.on<listed.size:=by omega
    simpa [hz] using this⟩
   rw[h] at this;cases this
theorem z9m{S:List Nat}{o:Oper}(T:TailS S l o){listed:Array Bool}(hs:listed.size=l.length)(hc:Closed l listed)(hS:∀i,i∈S→listed.getD i false=true):
 l.length∈Region.ready .any (l++[o]).toArray (listed.push false)↔Region.ready .any l.toArray listed=[]:=by
 constructor
 ·intro h;obtain⟨_,x,hx,hall⟩:=mem_ready.1 h;have hxo:x=o:=by simpa using hx.symm
  subst hxo;rw[List.eq_nil_iff_forall_not_mem];intro i hi;obtain⟨h0,y,hy,_⟩:=mem_ready.1 hi;have hlt:i<l.length:=by
   have:=(y1n.1 hy).1;simpa using this
  have hr:∀e∈x.after,Region.binds .any e=true→listed.getD e.on false=true:=fun e he hb=>by
   have:=hall e he hb;have hlt:=T.last e he hb;rwa[z2a false (by omega)] at this
  have hl:listed.getD i false=true:=by
   rcases T.waits i hlt with h|h
   ·exact hS i h
   ·exact q2l hc hr _ [] (fun i hi=>nomatch hi) i h
  have hz:i<listed.size:=by omega
  simp[hz] at h0 hl;rw[h0] at hl;cases hl
 ·intro h;refine mem_ready.2 ⟨?_,o,by simp,fun e he hb=>?_⟩
  ·rw[←hs];simp
  ·have hlt:=T.last e he hb;have:=q4u T hs h (e.on+1) e.on (by omega) hlt;rw[z2a false (by omega)];have hz:e.on<listed.size:=by omega
   simpa [hz] using this
theorem Closed.set{S:List Nat}{o:Oper}{listed:Array Bool}(hc:Closed l listed)(hs:listed.size=l.length){i:Nat}(hi:i∈Region.ready .any l.toArray listed):Closed l (listed.setIfInBounds i true):=by
 obtain⟨h0,y,hy,hall⟩:=mem_ready.1 hi;intro j x hx hl e he hb;have key:listed.getD e.on false=true:=by
  by_cases hij:i=j
  ·subst hij;have hxy:y=x:=by
    have:l[i]? =some y:=by simpa using hy
    rw[hx] at this;injection this with this;exact this.symm
   subst hxy;exact hall e he hb
  ·rw[getD_set_ne false hij] at hl;exact hc j x hx hl e he hb
 by_cases hie:i=e.on
 ·subst hie;have hz:e.on<listed.size:=by
   rcases Nat.lt_or_ge e.on listed.size with h|h
   ·exact h
   ·simp[Array.getElem?_eq_none h] at key
  simp[hz]
 ·rw[getD_set_ne false hie];exact key
theorem j0r{S:List Nat}{o:Oper}(T:TailS S l o){Q:Exit→Act→World→Prop}:∀(fuel:Nat) (listed:Array Bool) (a:Act) (w:World),listed.size=l.length→Closed l listed→(∀i,i∈S→listed.getD i false=true)→
 wpAny P .any l.toArray (q4w P o Q) fuel listed a w→wpAny P .any (l++[o]).toArray Q (fuel+1) (listed.push false) a w:=by
 have done:∀(fuel:Nat) (listed:Array Bool) (a:Act) (w:World),listed.size=l.length→Region.ready .any l.toArray listed=[]→y0d P o (fun a w=>Q .normal a w) Q a w→
  wpOp P (l++[o]).toArray Q l.length (wpAny P .any (l++[o]).toArray Q fuel ((listed.push false).setIfInBounds l.length true)) a w:=by
  intro fuel listed a w hs hr h;have hnil:Region.ready .any (l++[o]).toArray ((listed.push false).setIfInBounds l.length true)=[]:=by
   rw[List.eq_nil_iff_forall_not_mem];intro i hi;obtain⟨h0,y,hy,hall⟩:=mem_ready.1 hi;have hlt:=z4z hi;simp only[List.size_toArray,List.length_append,List.length_cons,List.length_nil] at hlt;by_cases hin:i=l.length
   ·subst hin;simp[hs] at h0
   ·rw[getD_set_ne true (Ne.symm hin),z2a true (by omega)] at h0;have:=q4u T hs hr (i+1) i (by omega) (by omega);rw[h0] at this;cases this
  unfold wpOp;simp only[List.getElem?_toArray,List.getElem?_append_right (Nat.le_refl _),Nat.sub_self,List.getElem?_cons_zero];rw[if_pos (by simp[Region.wanted,T.guard])];rcases h with h|h
  ·refine .inl (Oper.wp_mono (fun a' w' hq=>?_) h);cases fuel with
   |zero=>exact⟨hnil,hq⟩
   |succ fuel=>exact⟨fun _=>hq,fun i hi=>by rw[hnil] at hi;cases hi⟩
  ·exact .inr h
 intro fuel;induction fuel with
 |zero=>
  intro listed a w hs hcl hS h;refine⟨fun h0=>?_,fun i hi=>?_⟩
  ·have:=(z9m T hs hcl hS).2 h.1;rw[h0] at this;cases this
  ·have hlt:=z4z hi;simp only[List.size_toArray,List.length_append,List.length_cons,List.length_nil] at hlt;by_cases hin:i=l.length
   ·subst hin;exact done 0 listed a w hs h.1 h.2
   ·have:=(z7e T hs (by omega)).1 hi;rw[h.1] at this;cases this
 |succ fuel ih=>
  intro listed a w hs hcl hS h;refine⟨fun h0=>?_,fun i hi=>?_⟩
  ·have hr:Region.ready .any l.toArray listed=[]:=by
    rw[List.eq_nil_iff_forall_not_mem];intro i hi;have hlt:=z4z hi;have:=(z7e T hs (by simpa using hlt)).2 hi;rw[h0] at this;cases this
   have:=(z9m T hs hcl hS).2 hr;rw[h0] at this;cases this
  ·have hlt:=z4z hi;simp only[List.size_toArray,List.length_append,List.length_cons,List.length_nil] at hlt;by_cases hin:i=l.length
   ·subst hin;have hr:=(z9m T hs hcl hS).1 hi;exact done (fuel+1) listed a w hs hr (h.1 hr)
   ·have hil:i<l.length:=by omega
    have hi':=(z7e T hs hil).1 hi;have h1:=h.2 i hi';have hset:(listed.push false).setIfInBounds i true=(listed.setIfInBounds i true).push false:=by
     apply Array.ext_getElem?;intro j;simp only[Array.getElem?_setIfInBounds,Array.getElem?_push,Array.size_setIfInBounds,Array.size_push];by_cases h1:i=j
     ·subst h1;rw[if_pos rfl,if_pos (by omega),if_neg (by omega),if_pos rfl,if_pos (by omega)]
     ·rw[if_neg h1,if_neg h1]
    have hcl2:=Closed.set (S:=S) (o:=o) hcl hs hi';have hS2:∀k,k∈S→(listed.setIfInBounds i true).getD k false=true:=fun k hk=>by
     have:=hS k hk;by_cases e:i=k
     ·subst e;have hz:i<listed.size:=by omega
      simp[hz]
     ·rw[getD_set_ne false e];exact this
    rw[hset];unfold wpOp at h1⊢;rw[q1v hil];simp only[List.getElem?_toArray,List.getElem?_eq_getElem hil] at h1⊢;have hy:Region.wanted l[i] (yielded (l++[o]).toArray a.tmps)=Region.wanted l[i] (yielded l.toArray a.tmps):=by
     unfold Region.wanted;cases hg:l[i].guard with
     |none=>rfl
     |some g=>
      obtain⟨j,b⟩:=g;have hj:=T.guards i l[i] (y1o hil) j b hg;simp only[yielded,q1v hj]
    rw[hy];split
    ·rename_i hw
     rw[if_pos hw] at h1;rcases h1 with h1|⟨h1,a0,w0,hq⟩
     ·exact .inl (Oper.wp_mono (fun a' w' hk=>ih _ a' w' (by simpa using hs) hcl2 hS2 hk) (Oper.wp_exits (Q:=q4w P o Q) (fun e a w hne hq=>by cases e<;>first|exact hq|exact absurd rfl hne) h1))
     ·exact .inr ⟨h1,a0,w0,hq⟩
    ·rename_i hw
     rw[if_neg hw] at h1;exact ih _ _ _ (by simpa using hs) hcl2 hS2 h1
def q1e(S:List Nat):List Oper→List Oper→Bool
 |_,[]=>true
 |l,o::r=>j0z S l o && q1e S (l++[o]) r
theorem q5b{Q Q':Exit→Act→World→Prop}(hQ:∀e a w,Q e a w→Q' e a w){ops:Array Oper}:∀(fuel:Nat) (listed:Array Bool) (a:Act) (w:World),wpAny P .any ops Q fuel listed a w→wpAny P .any ops Q' fuel listed a w:=by
 intro fuel;induction fuel with
 |zero=>intro listed a w h;exact⟨h.1,hQ _ _ _ h.2⟩
 |succ fuel ih=>
  intro listed a w h;refine⟨fun h0=>hQ _ _ _ (h.1 h0),fun i hi=>?_⟩;have h1:=h.2 i hi;unfold wpOp at h1⊢;split at h1
  ·exact ih _ _ _ h1
  ·rename_i o ho
   split at h1
   ·rename_i hw
    rw[if_pos hw];rcases h1 with h1|⟨h1,a0,w0,hq⟩
    ·exact .inl (Oper.wp_mono (fun a' w' hk=>ih _ a' w' hk) (Oper.wp_exits (fun e a w _ hq=>hQ e a w hq) h1))
    ·exact .inr ⟨h1,a0,w0,hQ _ _ _ hq⟩
   ·rename_i hw
    rw[if_neg hw];exact ih _ _ _ h1
theorem q3l{S:List Nat}{ops:Array Oper}{Q:Exit→Act→World→Prop}:∀(ts l:List Oper),q1e S l ts=true→∀(fuel:Nat) (listed:Array Bool) (a:Act) (w:World),listed.size=l.length→Closed l listed→(∀i,i∈S→listed.getD i false=true)→
 wpAny P .any l.toArray (z6y P ops ts Q) fuel listed a w→wpAny P .any (l++ts).toArray Q (fuel+ts.length) (listed++Array.replicate ts.length false) a w:=by
 intro ts;induction ts with
 |nil=>
  intro l _ fuel listed a w hs _ _ h;have:(listed++Array.replicate (List.length ([]:List Oper)) false)=listed:=by simp
  rw[this,List.append_nil];exact q5b (fun e a w hq=>by cases e<;>exact hq) _ _ _ _ h
 |cons o r ih=>
  intro l hT fuel listed a w hs hcl hS h;simp only[q1e,Bool.and_eq_true] at hT;have T:=j0y hT.1;have h2:wpAny P .any l.toArray (q4w P o (z6y P ops r Q)) fuel listed a w:=by
   refine q5b (fun e a w hq=>?_) _ _ _ _ h
   cases e<;>first
    |exact hq
    |(have hq:wpList P ops Q (o::r) a w:=hq
      unfold wpList at hq;rw[if_pos (by simp[Region.wanted,T.guard])] at hq;rcases hq with hq|⟨hq,a0,w0,hl⟩
      ·exact .inl (Oper.wp_exits (fun e a w hne hq=>by cases e<;>first|exact hq|exact absurd rfl hne) hq)
      ·exact .inr ⟨hq,a0,w0,hl⟩)
  have hsz:(listed.push false).size=(l++[o]).length:=by simp[hs]
  have hcl2:Closed (l++[o]) (listed.push false):=by
   intro j x hx hl e he hb;rcases Nat.lt_or_ge j l.length with hj|hj
   ·rw[List.getElem?_append_left hj] at hx;rw[z2a false (by omega)] at hl;have h3:=hcl j x hx hl e he hb;have h4:=T.order j x hx e he hb;rw[z2a false (by omega)];exact h3
   ·have hj2:j=l.length:=by
     have:=(y1t.1 hx).1;simp at this;omega
    subst hj2;rw[←hs] at hl;simp at hl
  have hS2:∀k,k∈S→(listed.push false).getD k false=true:=fun k hk=>by
   have h3:=hS k hk;have hz:k<listed.size:=by
    rcases Nat.lt_or_ge k listed.size with h|h
    ·exact h
    ·simp[Array.getElem?_eq_none h] at h3
   rw[z2a false hz];exact h3
  have h3:=ih (l++[o]) hT.2 (fuel+1) (listed.push false) a w hsz hcl2 hS2 (j0r T fuel listed a w hs hcl hS h2);have e1:(l++[o])++r=l++o::r:=by simp
  have e2:fuel+1+r.length=fuel+(o::r).length:=by simp;omega
  have e3:listed.push false++Array.replicate r.length false=listed++Array.replicate (o::r).length false:=by
   apply Array.ext';simp[List.replicate_succ]
  rwa[e1,e2,e3] at h3
def q2a(l:List Oper)(listed:Array Bool):Bool:=(List.range l.length).all fun j=>match l[j]? with
 |some x=>!(listed.getD j false)||x.after.all fun e=>!Region.binds .any e||listed.getD e.on false
 |none=>true
theorem q2t{listed:Array Bool}(h:q2a l listed=true):Closed l listed:=by
 simp only[q2a,List.all_eq_true,List.mem_range] at h;intro j x hx hl e he hb;have:=h j (y1t.1 hx).1;simp only[hx,hl,Bool.not_true,Bool.false_or,Array.all_eq_true_iff_forall_mem,Bool.or_eq_true,Bool.not_eq_true'] at this;rcases this e he with h|h
 ·rw[h] at hb;cases hb
 ·exact h
theorem j0t{Q:Exit→Act→World→Prop}{w:World}{n:Nat}{listed':Array Bool}(k:Nat)(S:List Nat)(listed:Array Bool)(R:World→World→Prop)(F:Nat→Value→World→Prop)(Pn:List PanicEntry→World→Prop)(run:Nat→Bool)(hgo:Goes R)(hB:z5a (l.take k) a0.tmps.size=true)(hT:q1e S (l.take k) (l.drop k)=true)
 (hlz:listed.size=(l.take k).length) (hcl:q2a (l.take k) listed=true) (hSl:S.all (fun i=>listed.getD i false)=true) (hn:n=left listed.toList+(l.drop k).length) (hL:listed'=listed++Array.replicate (l.drop k).length false) (hrz:left listed.toList=0→Region.ready .any (l.take k).toArray listed=[])
 (hg:GuardsSay F run (l.take k) 0) (hw:R W w) (hst:∀i v w w',F i v w→R w w'→F i v w')
 (hS:StepsR P R W a0 F Pn (l.take k) run (l.take k) 0) (hSo:(List.range listed.size).all (fun j=>!(listed.getD j false)||S.contains j)=true) (hD:∀(j:Nat),j∈S→∀(d:Tmp),((l.take k)[j]?).bind Oper.dst=some d→F j (a0.tmps.getD d undef) w) (hP:∀A ch w,A.defers=a0.defers→Pn ch w→Q (.panic ch) A w)
 (hE:∀A w,KnownR R W a0 F (l.take k) (fun j=>decide (j<(l.take k).length)) A w→wpList P l.toArray Q (l.drop k) A w):wpAny P .any l.toArray Q n listed' a0 w:=by
 have hl:l=l.take k++l.drop k:=(List.take_append_drop k l).symm;have hops:(l.take k++l.drop k).toArray=l.toArray:=by rw[←hl]
 have hE':∀A w,KnownR R W a0 F (l.take k) (fun j=>decide (j<(l.take k).length)) A w→z6y P l.toArray (l.drop k) Q .normal A w:=fun A w h=>hE A w h
 have hP':∀A ch w,A.defers=a0.defers→Pn ch w→z6y P l.toArray (l.drop k) Q (.panic ch) A w:=fun A ch w h1 h2=>hP A ch w h1 h2
 have hD':∀(j:Nat) (d:Tmp),((l.take k)[j]?).bind Oper.dst=some d→listed.getD j false=true→F j (a0.tmps.getD d undef) w:=fun j d hj hl=>by
  have hz:j<listed.size:=by
   rcases Nat.lt_or_ge j listed.size with h|h
   ·exact h
   ·simp[Array.getElem?_eq_none h] at hl
  have h1:=List.all_eq_true.1 hSo j (List.mem_range.2 hz);rw[hl] at h1;exact hD j (by simpa using h1) d hj
 have key:=q3l (P:=P) (ops:=l.toArray) (Q:=Q) (l.drop k) (l.take k) hT (left listed.toList) listed a0 w hlz (q2t hcl) (fun i hi=>List.all_eq_true.1 hSl i hi)
  (q7w run hgo hst (z3a hB) hg hS hP' hE' (left listed.toList) listed a0 w hlz hrz (y1j _) ⟨hw,rfl,rfl,hD',fun t _=>rfl⟩)
 rwa[hops,←hn,←hL] at key
theorem z0m{id:Nat}{Q:Exit→Act→World→Prop}{w:World}(k:Nat)(R:World→World→Prop)(F:Nat→Value→World→Prop)(Pn:List PanicEntry→World→Prop)(run:Nat→Bool)(hm:P.follows .mixedOrders=true)(hgo:Goes R)(hB:z5a (l.take k) a0.tmps.size=true)(hT:q1e [] (l.take k) (l.drop k)=true)
 (hg:GuardsSay F run (l.take k) 0) (hw:R W w) (hst:∀i v w w',F i v w→R w w'→F i v w')
 (hS:StepsR P R W a0 F Pn (l.take k) run (l.take k) 0) (hP:∀A ch w,A.defers=a0.defers→Pn ch w→Q (.panic ch) A w)
 (hE:∀A w,KnownR R W a0 F (l.take k) (fun j=>decide (j<(l.take k).length)) A w→wpList P l.toArray Q (l.drop k) A w):(Code.region id l.toArray true).wp P Q a0 w:=by
 refine wp_region_any hm ?_;have hf:l.toArray.size=(l.take k).length+(l.drop k).length:=by
  rw[←List.length_append,List.take_append_drop];simp
 refine j0t k [] (Array.replicate (l.take k).length false) R F Pn run hgo hB hT (by simp) ?_ rfl ?_ ?_ ?_ hg (hgo.drew _ _ hw) hst hS ?_ (fun j hj=>nomatch hj) hP hE
 ·simp only[q2a,List.all_eq_true,List.mem_range];intro j _;split
  ·rw[z1s];rfl
  ·rfl
 ·rw[Array.toList_replicate,z0z];exact hf
 ·rw[hf];apply Array.ext';simp
 ·rw[Array.toList_replicate,z0z];intro h;have:l.take k=[]:=y1q h;rw[this];rfl
 ·simp only[List.all_eq_true,List.mem_range];intro j _;rw[z1s];rfl
theorem q3h{ops:Array Oper}{o:Oper}{a:Act}{v:Value}(t:Tmp)(hg:o.guard=none)(ho:o.op=.move (.tmp t))(hv:a.tmps.getD t undef=v):Yields P ops o v a:=by
 subst hv;refine .inl ⟨by simp[Region.wanted,hg],fun w=>?_⟩;simp[execOp,ho,go_sem]
end
theorem KnownR.fin{R:World→World→Prop}{W:World}{a0:Act}{F:Nat→Value→World→Prop}{l:List Oper}{listed:Nat→Bool}{A:Act}{w:World}(h:KnownR R W a0 F l listed A w){n:Nat}(hn:a0.tmps.size=n):
 ∃f:Nat→Value,A={tmps:=((List.range n).map f).toArray,defers:=a0.defers}∧R W w∧(∀(j:Nat) (t:Tmp),(l[j]?).bind Oper.dst=some t→listed j=true→F j (f t) w)∧(∀t:Tmp,(l.all fun o=>o.dst !=some t)=true→f t=a0.tmps.getD t undef):=
 ⟨fun t=>A.tmps.getD t undef,z4x (h.size.trans hn) h.defers,h.rel,h.done,fun t ht=>z0c h.rest t ht⟩
def j1a(l:List Oper)(s q t:Nat):Bool:=
 (match l[s]? with|some x=>x.dst.isNone && x.after.any (fun e=>Region.binds .any e && e.on==q)|none=>false) && ((l[q]?).bind Oper.dst)==some t
structure StoreOk(l:List Oper)(s q t:Nat):Prop where
 dst:∀x,l[s]? =some x→x.dst=none
 waits:∀x,l[s]? =some x→∃e∈x.after,Region.binds .any e=true∧e.on=q
 temp:(l[q]?).bind Oper.dst=some t
theorem q8g{l:List Oper}{s q t:Nat}(h:j1a l s q t=true):StoreOk l s q t:=by
 simp only[j1a,Bool.and_eq_true,beq_iff_eq] at h;obtain⟨h1,h2⟩:=h;refine⟨fun x hx=>?_,fun x hx=>?_,h2⟩
 ·simp only[hx,Bool.and_eq_true,Option.isNone_iff_eq_none] at h1;exact h1.1
 ·simp only[hx,Bool.and_eq_true] at h1;obtain⟨e,he,hb⟩:=Array.any_eq_true'.1 h1.2;simp only[Bool.and_eq_true,beq_iff_eq] at hb;exact⟨e,he,hb.1,hb.2⟩
section
variable {P : Program} {W : World} {a0 : Act} {F : Nat → Value → World → Prop} {G : Value → World → Prop} {l : List Oper} {s q t : Nat}
structure KnownS(W:World)(a0:Act)(F:Nat→Value→World→Prop)(G:Value→World→Prop)(l:List Oper)(s q t:Nat)(listed:Nat→Bool)(A:Act)(w:World):Prop extends Known W a0 F l listed A w where
 eff:listed s=true→listed q=true∧G (A.tmps.getD t undef) w
def k1v(P:Program)(W:World)(a0:Act)(F:Nat→Value→World→Prop)(G:Value→World→Prop)(l:List Oper)(s t:Nat)(i:Nat)(o:Oper):Prop:=
 ∀(A:Act) (w:World),Ext W w→z3d F l A w o.after.toList→(∀t:Tmp,(∀j:Nat,(l[j]?).bind Oper.dst≠some t)→A.tmps.getD t undef=a0.tmps.getD t undef)→
  o.wp P A w (fun A' w'=>if i=s then A'=A∧Ext W w'∧(∀j u,F j u w→F j u w')∧G (A.tmps.getD t undef) w' else∃v,A'=A.put o.dst v∧Ext w w'∧F i v w') k8n
def StepsOkS(P:Program)(W:World)(a0:Act)(F:Nat→Value→World→Prop)(G:Value→World→Prop)(l:List Oper)(s t:Nat):List Oper→Nat→Prop
 |[],_=>True
 |o::r,i=>k1v P W a0 F G l s t i o∧StepsOkS P W a0 F G l s t r (i+1)
theorem StepsOkS.get:∀(r:List Oper) (k:Nat),StepsOkS P W a0 F G l s t r k→∀(j:Nat) (o:Oper),r[j]? =some o→k1v P W a0 F G l s t (k+j) o
 |[],_,_,_,_,hj=>by simp at hj
 |x::r,k,h,0,o,hj=>by simp at hj;subst hj;exact h.1
 |x::r,k,h,j+1,o,hj=>by
  have:=StepsOkS.get r (k+1) h.2 j o (by simpa using hj);rwa[show k+1+j=k+(j+1) by omega] at this
theorem KnownS.step(hst:∀i v w w',F i v w→Ext w w'→F i v w')(hgt:∀v w w',G v w→Ext w w'→G v w')(T:FactsOkG l a0.tmps.size)(TS:StoreOk l s q t){listed:Array Bool}{A:Act}{w:World}(hls:listed.size=l.length)(h:KnownS W a0 F G l s q t (fun j=>listed.getD j false) A w)
 {i:Nat} {o:Oper} (ho:l[i]? =some o) (his:i≠s) (hun:listed.getD i true=false) {v:Value} {w':World} (hx:Ext w w') (hF:F i v w'):KnownS W a0 F G l s q t (fun j=>(listed.setIfInBounds i true).getD j false) (A.put o.dst v) w':=by
 refine⟨h.toKnown.stepG hst T ho hx hF,fun hs=>?_⟩;rw[getD_set_ne false his] at hs;obtain⟨h1,h2⟩:=h.eff hs;have hiq:i≠q:=by
  rintro rfl;have hz:i<listed.size:=by rw[hls];exact(y1t.1 ho).1
  simp[hz] at hun h1;rw[h1] at hun;cases hun
 refine⟨by rw[getD_set_ne false hiq];exact h1,?_⟩;have hne:o.dst≠some t:=fun hh=>hiq (T.apart i q t (by rw[ho];exact hh) TS.temp)
 have:(A.put o.dst v).tmps.getD t undef=A.tmps.getD t undef:=by
  cases hdd:o.dst with
  |none=>rfl
  |some d=>rw[z4m,if_neg (fun hh=>hne (by rw[hdd,hh.1]))]
 rw[this];exact hgt _ _ _ h2 hx
theorem KnownS.store(T:FactsOkG l a0.tmps.size)(TS:StoreOk l s q t)(hsq:s≠q){listed:Array Bool}{A:Act}{w:World}(h:KnownS W a0 F G l s q t (fun j=>listed.getD j false) A w)
 {o:Oper} (ho:l[s]? =some o) (hq:listed.getD q false=true) {w':World} (hx:Ext W w') (hF:∀j u,F j u w→F j u w') (hG:G (A.tmps.getD t undef) w'):KnownS W a0 F G l s q t (fun j=>(listed.setIfInBounds s true).getD j false) A w':=by
 refine⟨⟨hx,h.size,h.defers,fun j d hj hl=>?_,h.rest⟩,fun _=>⟨by rw[getD_set_ne false hsq];exact hq,hG⟩⟩;by_cases hij:s=j
 ·subst hij;rw[ho,Option.bind_some,TS.dst o ho] at hj;cases hj
 ·rw[getD_set_ne false hij] at hl;exact hF _ _ (h.done j d hj hl)
theorem q7v{Q:Exit→Act→World→Prop}(hst:∀i v w w',F i v w→Ext w w'→F i v w')(hgt:∀v w w',G v w→Ext w w'→G v w')(T:FactsOkG l a0.tmps.size)(TS:StoreOk l s q t)(hsq:s≠q)(hg:GuardsMet F l)(hS:StepsOkS P W a0 F G l s t l 0)
 (hE:∀A w,KnownS W a0 F G l s q t (fun j=>decide (j<l.length)) A w→Q .normal A w):
 ∀(fuel:Nat) (listed:Array Bool) (A:Act) (w:World),listed.size=l.length→(fuel=0→Region.ready .any l.toArray listed=[])→left listed.toList≤fuel→KnownS W a0 F G l s q t (fun j=>listed.getD j false) A w→
  wpAny P .any l.toArray Q fuel listed A w:=by
 have hO:=T.order;have fin:∀(listed:Array Bool) (A:Act) (w:World),listed.size=l.length→Region.ready .any l.toArray listed=[]→KnownS W a0 F G l s q t (fun j=>listed.getD j false) A w→Q .normal A w:=by
  intro listed A w hs hr hk;have all:∀n i,i<n→i<l.length→listed.getD i true=true:=by
   intro n;induction n with
   |zero=>intro i hi;omega
   |succ n ih=>
    intro i hin hi;cases hl:listed.getD i true with
    |true=>rfl
    |false=>
     have:i∈Region.ready .any l.toArray listed:=mem_ready.2 ⟨hl,l[i],by simp[List.getElem?_eq_getElem hi],fun e he hb=>by
      have hlt:=hO i l[i] (y1o hi) e he hb;have:=ih e.on (by omega) (by omega);have hz:e.on<listed.size:=by omega
      simpa [hz] using this⟩
     rw[hr] at this;cases this
  have allf:∀j,j<l.length→listed.getD j false=true:=by
   intro j hjl;have:=all (j+1) j (by omega) hjl;have hz:j<listed.size:=by omega
   simpa [hz] using this
  refine hE A w ⟨⟨hk.ext,hk.size,hk.defers,fun j d hj hl=>hk.done j d hj (allf j (by simpa using hl)),hk.rest⟩,fun hsd=>?_⟩;have hql:q<l.length:=by
   obtain⟨o,ho,-⟩:=Option.bind_eq_some_iff.1 TS.temp;exact(y1t.1 ho).1
  exact⟨by simpa using hql,(hk.eff (allf s (by simpa using hsd))).2⟩
 intro fuel;induction fuel with
 |zero=>
  intro listed A w hs h0 _ hk;exact⟨h0 rfl,fin listed A w hs (h0 rfl) hk⟩
 |succ fuel ih=>
  intro listed A w hs _ hc hk;refine⟨fun hr=>fin listed A w hs hr hk,fun i hi=>?_⟩;obtain⟨h0,o,ho,hall⟩:=mem_ready.1 hi;have ho':l[i]? =some o:=by simpa using ho
  have hil:i<l.length:=(y1t.1 ho').1;have hcount:left (listed.setIfInBounds i true).toList≤fuel:=by
   have hz:i<listed.size:=by omega
   have hget:listed.toList[i]? =some false:=by
    simp[hz] at h0;simp[hz,h0]
   have:=z5v listed.toList i hget;rw[show(listed.setIfInBounds i true).toList=listed.toList.set i true by simp];omega
  have hfuel:fuel=0→Region.ready .any l.toArray (listed.setIfInBounds i true)=[]:=by
   intro hf;subst hf;rw[List.eq_nil_iff_forall_not_mem];intro j hj;obtain⟨hj0,y,hy,_⟩:=mem_ready.1 hj;have hjl:j<l.length:=by
    have:=(y1n.1 hy).1;simpa using this
   have hz:j<(listed.setIfInBounds i true).size:=by simpa [hs] using hjl
   have:false∈(listed.setIfInBounds i true).toList:=by
    simp only[Array.getD_eq_getD_getElem?,Array.getElem?_eq_getElem hz,Option.getD_some] at hj0;rw[←hj0];exact Array.mem_toList_iff.2 (Array.getElem_mem _)
   have:=z7h _ this;omega
  unfold wpOp;simp only[List.getElem?_toArray,ho'];rw[if_pos (q3o T hg ho' hk.size hk.done hall)];have hstep:=StepsOkS.get l 0 hS i o ho';rw[Nat.zero_add] at hstep;refine .inl (Oper.wp_mono ?_ (Oper.wp_noWay (hstep A w hk.ext (z3o hk.done o.after.toList (fun e he hb=>hall e (by simpa using he) hb)) hk.rest)));intro A' w' hpost;by_cases his:i=s
  ·subst his;rw[if_pos rfl] at hpost;obtain⟨rfl,hx,hF,hG⟩:=hpost;obtain⟨e,he,hb,rfl⟩:=TS.waits o ho';exact ih _ _ _ (by simpa using hs) hfuel hcount (hk.store T TS hsq ho' (hall e he hb) hx hF hG)
  ·rw[if_neg his] at hpost;obtain⟨v,rfl,hx,hF⟩:=hpost;exact ih _ _ _ (by simpa using hs) hfuel hcount (hk.step hst hgt T TS hs ho' his h0 hx hF)
theorem z6d{id:Nat}{Q:Exit→Act→World→Prop}{w:World}(F:Nat→Value→World→Prop)(G:Value→World→Prop)(s q t:Nat)(hm:P.follows .mixedOrders=true)(hB:z5a l a0.tmps.size=true)(hB2:j1a l s q t=true)(hsq:s≠q)(hsl:s<l.length)(hg:GuardsMet F l)(hw:Ext W w)
 (hst:∀i v w w',F i v w→Ext w w'→F i v w') (hgt:∀v w w',G v w→Ext w w'→G v w')
 (hS:StepsOkS P W a0 F G l s t l 0) (hE:∀A w,Known W a0 F l (fun j=>decide (j<l.length)) A w→G (A.tmps.getD t undef) w→Q .normal A w):(Code.region id l.toArray true).wp P Q a0 w:=by
 refine wp_region_any hm ?_;simp only[List.size_toArray];refine q7v hst hgt (z3a hB) (q8g hB2) hsq hg hS (fun A w hk=>hE A w hk.toKnown (hk.eff (by simpa using hsl)).2) l.length _ a0 _ (by simp) (fun h=>?_) ?_ ⟨⟨hw.drew,rfl,rfl,fun j d _ hl=>?_,fun t _=>rfl⟩,fun hl=>?_⟩
 ·have:l=[]:=y1q h;subst this;rfl
 ·rw[Array.toList_replicate,z0z];exact y1j _
 ·rw[z1s] at hl;cases hl
 ·rw[z1s] at hl;cases hl
end
section
variable {P : Program} {W : World} {a0 : Act} {F : Nat → Value → World → Prop} {J : (Nat → Bool) → (Tmp → Value) → World → Prop} {l : List Oper}
def tau(A:Act):Tmp→Value:=fun t=>A.tmps.getD t undef
theorem q6l{A:Act}{d:Option Tmp}{v:Value}{t:Tmp}(h:d≠some t):tau (A.put d v) t=tau A t:=by
 unfold tau;cases d with
 |none=>rfl
 |some d=>rw[z4m,if_neg (fun hh=>h (by rw[hh.1]))]
theorem z2r{A:Act}{d:Tmp}{v:Value}(h:d<A.tmps.size):tau (A.put (some d) v) d=v:=by
 unfold tau;rw[z4m,if_pos ⟨rfl,h⟩]
theorem j5k{listed:Array Bool}{i:Nat}(hi:i<listed.size):(fun j=>(listed.setIfInBounds i true).getD j false)=fun j=>(fun j=>listed.getD j false) j||j==i:=by
 funext j
 by_cases h:i=j
 ·subst h;simp[hi]
 ·rw[getD_set_ne false h];have:(j==i)=false:=by simpa using fun e:j=i=>h e.symm
  simp only[this,Bool.or_false]
end
section
variable {P : Program} {a0 : Act} {F : Nat → Value → World → Prop} {J : (Nat → Bool) → (Tmp → Value) → World → Prop} {Pn : List PanicEntry → World → Prop} {l : List Oper}
def StepI(P:Program)(a0:Act)(F:Nat→Value→World→Prop)(J:(Nat→Bool)→(Tmp→Value)→World→Prop)(Pn:List PanicEntry→World→Prop)(l:List Oper)(i:Nat)(o:Oper):Prop:=
 ∀(L:Nat→Bool) (A:Act) (w:World),L i=false→(∀e∈o.after,Region.binds .any e=true→L e.on=true)→A.tmps.size=a0.tmps.size→z3d F l A w o.after.toList→(∀t:Tmp,(∀j:Nat,(l[j]?).bind Oper.dst≠some t)→A.tmps.getD t undef=a0.tmps.getD t undef)→J L (tau A) w→
  o.wp P A w (fun A' w'=>∃v,A'=A.put o.dst v∧F i v w'∧J (fun j=>L j||j==i) (tau A') w') (z4s Pn A)
def StepsI(P:Program)(a0:Act)(F:Nat→Value→World→Prop)(J:(Nat→Bool)→(Tmp→Value)→World→Prop)(Pn:List PanicEntry→World→Prop)(l:List Oper):List Oper→Nat→Prop
 |[],_=>True
 |o::r,i=>StepI P a0 F J Pn l i o∧StepsI P a0 F J Pn l r (i+1)
theorem StepsI.get:∀(r:List Oper) (k:Nat),StepsI P a0 F J Pn l r k→∀(j:Nat) (o:Oper),r[j]? =some o→StepI P a0 F J Pn l (k+j) o
 |[],_,_,_,_,hj=>by simp at hj
 |x::r,k,h,0,o,hj=>by simp at hj;subst hj;exact h.1
 |x::r,k,h,j+1,o,hj=>by
  have:=StepsI.get r (k+1) h.2 j o (by simpa using hj);rwa[show k+1+j=k+(j+1) by omega] at this
def j4r(J:(Nat→Bool)→(Tmp→Value)→World→Prop)(S:List Nat)(T:List Tmp):Prop:=
 ∀(L L':Nat→Bool) (τ τ':Tmp→Value) (w:World),(∀s,s∈S→L' s=L s)→(∀t,t∈T→τ' t=τ t)→J L τ w→J L' τ' w
theorem StepI.plain{S:List Nat}{T:List Tmp}{I:World→Prop}{i:Nat}{o:Oper}(hl:j4r J S T)(hI:∀L τ w,J L τ w→I w)(hi:decide (i∈S)=false)(hd:(match o.dst with|some d=>decide (d∈T)|none=>false)=false)
 (h:∀(A:Act) (w:World),I w→z3d F l A w o.after.toList→(∀t:Tmp,(∀j:Nat,(l[j]?).bind Oper.dst≠some t)→A.tmps.getD t undef=a0.tmps.getD t undef)→o.wp P A w (fun A' w'=>∃v,A'=A.put o.dst v∧w'=w∧F i v w) (z4s Pn A)):StepI P a0 F J Pn l i o:=by
 intro L A w hli haf hsz hdep hrest hJ;refine Oper.wp_mono ?_ (h A w (hI _ _ _ hJ) hdep hrest);rintro A' w' ⟨v,rfl,rfl,hF⟩;refine⟨v,rfl,hF,hl _ _ _ _ _ (fun s hs=>?_) (fun t ht=>q6l (fun e=>?_)) hJ⟩
 ·have:s≠i:=by rintro rfl;exact absurd hs (of_decide_eq_false hi)
  simp[this]
 ·rw[e] at hd;exact absurd ht (of_decide_eq_false hd)
structure KnownI(a0:Act)(F:Nat→Value→World→Prop)(J:(Nat→Bool)→(Tmp→Value)→World→Prop)(l:List Oper)(listed:Nat→Bool)(A:Act)(w:World):Prop where
 size:A.tmps.size=a0.tmps.size
 defers:A.defers=a0.defers
 done:∀(j:Nat) (d:Tmp),(l[j]?).bind Oper.dst=some d→listed j=true→F j (A.tmps.getD d undef) w
 rest:∀t:Tmp,(∀j:Nat,(l[j]?).bind Oper.dst≠some t)→A.tmps.getD t undef=a0.tmps.getD t undef
 claim:J listed (tau A) w
theorem KnownI.step(hst:∀i v w w',F i v w→F i v w')(T:FactsOkG l a0.tmps.size){listed:Array Bool}{A:Act}{w:World}(hls:listed.size=l.length)(h:KnownI a0 F J l (fun j=>listed.getD j false) A w)
 {i:Nat} {o:Oper} (ho:l[i]? =some o) {v:Value} {w':World} (hF:F i v w') (hJ:J (fun j=>listed.getD j false||j==i) (tau (A.put o.dst v)) w'):KnownI a0 F J l (fun j=>(listed.setIfInBounds i true).getD j false) (A.put o.dst v) w':=by
 have hd0:(l[i]?).bind Oper.dst=o.dst:=by rw[ho];rfl
 have hil:i<listed.size:=by rw[hls];exact(y1t.1 ho).1
 have hsz:(A.put o.dst v).tmps.size=a0.tmps.size:=by
  cases hdd:o.dst<;>simp[Act.put,h.size]
 have hdf:(A.put o.dst v).defers=a0.defers:=by
  cases hdd:o.dst<;>simp[Act.put,h.defers]
 have hother:∀t,o.dst≠some t→(A.put o.dst v).tmps.getD t undef=A.tmps.getD t undef:=fun t ht=>q6l ht
 refine⟨hsz,hdf,fun j d hj hl=>?_,fun t ht=>?_,?_⟩
 ·by_cases hij:i=j
  ·subst hij;rw[hd0] at hj;rw[hj,z4m,if_pos ⟨rfl,by rw[h.size];exact T.lt i d (by rw[hd0];exact hj)⟩];exact hF
  ·rw[getD_set_ne false hij] at hl;rw[hother d (fun hh=>hij (T.apart i j d (by rw[hd0];exact hh) hj))];exact hst _ _ _ _ (h.done j d hj hl)
 ·rw[hother t (fun hh=>ht i (by rw[hd0];exact hh))];exact h.rest t ht
 ·rw[j5k hil];exact hJ
theorem q2h{Q:Exit→Act→World→Prop}(hst:∀i v w w',F i v w→F i v w')(T:FactsOkG l a0.tmps.size)(hg:GuardsMet F l)(hS:StepsI P a0 F J Pn l l 0)(hP:∀A ch w,A.defers=a0.defers→Pn ch w→Q (.panic ch) A w)
 (hE:∀A w,KnownI a0 F J l (fun j=>decide (j<l.length)) A w→Q .normal A w):
 ∀(fuel:Nat) (listed:Array Bool) (A:Act) (w:World),listed.size=l.length→(fuel=0→Region.ready .any l.toArray listed=[])→left listed.toList≤fuel→KnownI a0 F J l (fun j=>listed.getD j false) A w→
  wpAny P .any l.toArray Q fuel listed A w:=by
 have hO:=T.order;have fin:∀(listed:Array Bool) (A:Act) (w:World),listed.size=l.length→Region.ready .any l.toArray listed=[]→KnownI a0 F J l (fun j=>listed.getD j false) A w→Q .normal A w:=by
  intro listed A w hs hr hk;have all:∀n i,i<n→i<l.length→listed.getD i true=true:=by
   intro n;induction n with
   |zero=>intro i hi;omega
   |succ n ih=>
    intro i hin hi;cases hl:listed.getD i true with
    |true=>rfl
    |false=>
     have:i∈Region.ready .any l.toArray listed:=mem_ready.2 ⟨hl,l[i],by simp[List.getElem?_eq_getElem hi],fun e he hb=>by
      have hlt:=hO i l[i] (y1o hi) e he hb;have:=ih e.on (by omega) (by omega);have hz:e.on<listed.size:=by omega
      simpa [hz] using this⟩
     rw[hr] at this;cases this
  have allf:(fun j=>listed.getD j false)=fun j=>decide (j<l.length):=by
   funext j
   rcases Nat.lt_or_ge j l.length with hjl|hjl
   ·have:=all (j+1) j (by omega) hjl;have hz:j<listed.size:=by omega
    simpa [hz,hjl] using this
   ·have hz:¬j<listed.size:=by omega
    have:¬j<l.length:=by omega
    simp[Array.getElem?_eq_none (by omega:listed.size≤j),this]
  rw[allf] at hk;exact hE A w hk
 intro fuel;induction fuel with
 |zero=>
  intro listed A w hs h0 _ hk;exact⟨h0 rfl,fin listed A w hs (h0 rfl) hk⟩
 |succ fuel ih=>
  intro listed A w hs _ hc hk;refine⟨fun hr=>fin listed A w hs hr hk,fun i hi=>?_⟩;obtain⟨h0,o,ho,hall⟩:=mem_ready.1 hi;have ho':l[i]? =some o:=by simpa using ho
  have hil:i<l.length:=(y1t.1 ho').1;have hzi:i<listed.size:=by omega
  have hli:listed.getD i false=false:=by
   simp[hzi] at h0;simp[hzi,h0]
  have hcount:left (listed.setIfInBounds i true).toList≤fuel:=by
   have hget:listed.toList[i]? =some false:=by
    simp[hzi] at h0;simp[hzi,h0]
   have:=z5v listed.toList i hget;rw[show(listed.setIfInBounds i true).toList=listed.toList.set i true by simp];omega
  have hfuel:fuel=0→Region.ready .any l.toArray (listed.setIfInBounds i true)=[]:=by
   intro hf;subst hf;rw[List.eq_nil_iff_forall_not_mem];intro j hj;obtain⟨hj0,y,hy,_⟩:=mem_ready.1 hj;have hjl:j<l.length:=by
    have:=(y1n.1 hy).1;simpa using this
   have hz:j<(listed.setIfInBounds i true).size:=by simpa [hs] using hjl
   have:false∈(listed.setIfInBounds i true).toList:=by
    simp only[Array.getD_eq_getD_getElem?,Array.getElem?_eq_getElem hz,Option.getD_some] at hj0;rw[←hj0];exact Array.mem_toList_iff.2 (Array.getElem_mem _)
   have:=z7h _ this;omega
  unfold wpOp;simp only[List.getElem?_toArray,ho'];rw[if_pos (q3o T hg ho' hk.size hk.done hall)];have hstep:=StepsI.get l 0 hS i o ho';rw[Nat.zero_add] at hstep;refine .inl (Oper.wp_mono ?_ (Oper.wp_panicOnly (fun ch w' hp=>hP A ch w' hk.defers hp) (hstep (fun j=>listed.getD j false) A w hli hall hk.size (z3o hk.done o.after.toList (fun e he hb=>hall e (by simpa using he) hb)) hk.rest hk.claim)));rintro A' w' ⟨v,rfl,hF,hJ⟩;exact ih _ _ _ (by simpa using hs) hfuel hcount (hk.step hst T hs ho' hF hJ)
theorem KnownI.fin{listed:Nat→Bool}{A:Act}{w:World}(h:KnownI a0 F J l listed A w){n:Nat}(hn:a0.tmps.size=n):
 ∃f:Nat→Value,A={tmps:=((List.range n).map f).toArray,defers:=a0.defers}∧(∀(j:Nat) (t:Tmp),(l[j]?).bind Oper.dst=some t→listed j=true→F j (f t) w)∧(∀t:Tmp,(l.all fun o=>o.dst !=some t)=true→f t=a0.tmps.getD t undef)∧J listed f w:=
 ⟨fun t=>A.tmps.getD t undef,z4x (h.size.trans hn) h.defers,h.done,fun t ht=>z0c h.rest t ht,h.claim⟩
theorem z1y{id:Nat}{Q:Exit→Act→World→Prop}{w:World}(k:Nat)(F:Nat→Value→World→Prop)(J:(Nat→Bool)→(Tmp→Value)→World→Prop)(Pn:List PanicEntry→World→Prop)(hm:P.follows .mixedOrders=true)(hst:∀i v w w',F i v w→F i v w')(hB:z5a (l.take k) a0.tmps.size=true)(hT:q1e [] (l.take k) (l.drop k)=true)
 (hg:GuardsMet F (l.take k)) (h0:J (fun _=>false) (tau a0) w.drew)
 (hS:StepsI P a0 F J Pn (l.take k) (l.take k) 0) (hP:∀A ch w,A.defers=a0.defers→Pn ch w→Q (.panic ch) A w)
 (hE:∀A w,KnownI a0 F J (l.take k) (fun j=>decide (j<(l.take k).length)) A w→wpList P l.toArray Q (l.drop k) A w):(Code.region id l.toArray true).wp P Q a0 w:=by
 refine wp_region_any hm ?_;have hl:l=l.take k++l.drop k:=(List.take_append_drop k l).symm;have hops:(l.take k++l.drop k).toArray=l.toArray:=by rw[←hl]
 have hf:l.toArray.size=(l.take k).length+(l.drop k).length:=by
  rw[←List.length_append,List.take_append_drop];simp
 have hE':∀A w,KnownI a0 F J (l.take k) (fun j=>decide (j<(l.take k).length)) A w→z6y P l.toArray (l.drop k) Q .normal A w:=fun A w h=>hE A w h
 have hP':∀A ch w,A.defers=a0.defers→Pn ch w→z6y P l.toArray (l.drop k) Q (.panic ch) A w:=fun A ch w h1 h2=>hP A ch w h1 h2
 have hf0:(fun j=>(Array.replicate (l.take k).length false).getD j false)=fun _=>false:=by
  funext j
  exact z1s ..
 have hcl:q2a (l.take k) (Array.replicate (l.take k).length false)=true:=by
  simp only[q2a,List.all_eq_true,List.mem_range];intro j _;split
  ·rw[z1s];rfl
  ·rfl
 have key:=q3l (P:=P) (ops:=l.toArray) (Q:=Q) (l.drop k) (l.take k) hT (left (Array.replicate (l.take k).length false).toList) (Array.replicate (l.take k).length false) a0 w.drew (by simp) (q2t hcl) (fun i hi=>nomatch hi)
  (q2h hst (z3a hB) hg hS hP' hE' (left (Array.replicate (l.take k).length false).toList) _ a0 w.drew (by simp) (by
    rw[Array.toList_replicate,z0z];intro h;have:l.take k=[]:=y1q h;rw[this];rfl) (y1j _) ⟨rfl,rfl,(fun j d _ hl=>by rw[z1s] at hl;cases hl),(fun t _=>rfl),(by rw[hf0];exact h0)⟩)
 rw[hops] at key;have e1:left (Array.replicate (l.take k).length false).toList+(l.drop k).length=l.toArray.size:=by rw[Array.toList_replicate,z0z];exact hf.symm
 have e2:Array.replicate (l.take k).length false++Array.replicate (l.drop k).length false=Array.replicate l.toArray.size false:=by
  rw[hf];apply Array.ext';simp
 rw[e1,e2] at key;exact key
def phJ(p:Nat)(d:Tmp)(J0:World→Prop)(J1:Value→World→Prop)(L:Nat→Bool)(τ:Tmp→Value)(w:World):Prop:=match L p with|false=>J0 w|true=>J1 (τ d) w
theorem z6j{p:Nat}{d:Tmp}{J0:World→Prop}{J1:Value→World→Prop}:j4r (phJ p d J0 J1) [p] [d]:=fun L L' τ τ' w hS hT h=>by
 unfold phJ at h⊢;rw[hS p (by simp),hT d (by simp)];exact h
theorem q1k{p:Nat}{d:Tmp}{J0:World→Prop}{J1:Value→World→Prop}{I:World→Prop}(h0:∀w,J0 w→I w)(h1:∀v w,J1 v w→I w)(L:Nat→Bool)(τ:Tmp→Value)(w:World)(h:phJ p d J0 J1 L τ w):I w:=by
 unfold phJ at h;split at h
 ·exact h0 _ h
 ·exact h1 _ _ h
theorem StepI.turn{p:Nat}{d:Tmp}{J0:World→Prop}{J1:Value→World→Prop}{o:Oper}(ho:o.dst=some d)(hd:decide (d<a0.tmps.size)=true)
 (h:∀(A:Act) (w:World),J0 w→z3d F l A w o.after.toList→(∀t:Tmp,(∀j:Nat,(l[j]?).bind Oper.dst≠some t)→A.tmps.getD t undef=a0.tmps.getD t undef)→o.wp P A w (fun A' w'=>∃v,A'=A.put o.dst v∧F p v w'∧J1 v w') (z4s Pn A)):StepI P a0 F (phJ p d J0 J1) Pn l p o:=by
 intro L A w hli haf hsz hdep hrest hJ;unfold phJ at hJ;rw[hli] at hJ;refine Oper.wp_mono ?_ (h A w hJ hdep hrest);rintro A' w' ⟨v,rfl,hF,hJ1⟩;refine⟨v,rfl,hF,?_⟩;unfold phJ;simp only[beq_self_eq_true,Bool.or_true];rw[ho,z2r (by rw[hsz];exact of_decide_eq_true hd)];exact hJ1
end
end Go.Proofs.YtlfmlodanoolhaaGreatDoor
