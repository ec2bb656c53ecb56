import Derived.MapKept
import Derived.Test.YtlfmlodanoolhaaGreatDoorV1
set_option linter.all false
set_option maxRecDepth 200000
set_option maxHeartbeats 0
namespace Go.Proofs.YtlfmlodanoolhaaGreatDoor
open Go Go.RowKit
def MV(w:World)(m:Nat)(L:List (Value×Value)):Prop:=∃a b,w.heap[m]? =some (.map a b)/\a.toList.map (λe:MapEntry=>(e.key,e.val))=L
theorem MV.lt{w:World}{m:Nat}{L:List (Value×Value)}(h:MV w m L):m<w.heap.size:=by
 obtain⟨c,b,a,-⟩:=h;exact(y7n.1 a).1
theorem MV.ext{w a:World}{m:Nat}{L:List (Value×Value)}(h:MV w m L)(i:Ext w a):MV a m L:=by
 have g:=h.lt;obtain⟨c,b,f,e⟩:=h;exact⟨c,b,(i.heap g).trans f,e⟩
theorem MV.new(w:World):MV (w.alloc (.map #[] 0)) w.heap.size []:=⟨#[],0,by show(w.heap.push _)[w.heap.size]? =_;simp,rfl⟩
noncomputable def bd:List (Value×Value)->Value->Option Value
 |[],_=>none
 |p::r,k=>@ite _ (p.1=k) (Classical.propDecidable _) (some p.2) (bd r k)
theorem hW{p:Value×Value}{a:List (Value×Value)}{k:Value}(h:p.1=k):bd (p::a) k=some p.2:=by unfold bd;rw[if_pos h]
theorem fS{p:Value×Value}{a:List (Value×Value)}{k:Value}(h:p.1≠k):bd (p::a) k=bd a k:=by rw[bd,if_neg h]
noncomputable def bw:List (Value×Value)->Value->Value->List (Value×Value)
 |[],k,v=>[(k,v)]
 |a::r,k,v=>@ite _ (a.1=k) (Classical.propDecidable _) ((k,v)::r) (a::bw r k v)
theorem ge(L:List (Value×Value))(k v b:Value):bd (bw L k v) b=@ite _ (k=b) (Classical.propDecidable _) (some v) (bd L b):=by
 induction L with
 |nil=>
  unfold bw;by_cases a:k=b
  ·rw[hW a,if_pos a]
  ·rw[fS a,if_neg a]
 |cons p r ih=>
  unfold bw;by_cases f:p.1=k
  ·rw[if_pos f];by_cases a:k=b
   ·rw[hW a,if_pos a]
   ·rw[fS a,if_neg a,fS (show p.1≠b from λe=>a (f.symm.trans e))]
  ·rw[if_neg f];by_cases c:p.1=b
   ·rw[hW c,if_neg (λe:k=b=>f (c.trans e.symm)),hW c]
   ·rw[fS c,ih,fS c]
theorem cK{d:TypeDesc}{L:List (Value×Value)}{k v:Value}(h:∀b,b∈L->MapKept.IsKey d b.1)(c:MapKept.IsKey d k):∀b,b∈bw L k v->MapKept.IsKey d b.1:=by
 induction L with
 |nil=>intro b a;unfold bw at a;simp at a;rw[a];exact c
 |cons q r ih=>
  intro b a;unfold bw at a;split at a
  ·rcases List.mem_cons.1 a with rfl|a
   ·exact c
   ·exact h b (by simp[a])
  ·rcases List.mem_cons.1 a with rfl|a
   ·exact h _ zS
   ·exact ih (λb a=>h b (by simp[a])) b a
theorem jW{d:TypeDesc}{k:Value}(q:MapKept.IsKey d k):∀(l:List MapEntry) (i:Nat),(∀x∈l,MapKept.IsKey d x.key)->
 (Instr.findNow d k l i=some none/\bd (l.map λe=>(e.key,e.val)) k=none/\∀v,bw (l.map λe=>(e.key,e.val)) k v=l.map (λe=>(e.key,e.val))++[(k,v)])\/
 ∃j e,Instr.findNow d k l i=some (some (i+j,e.val))/\l[j]? =some e/\e.key=k/\bd (l.map λe=>(e.key,e.val)) k=some e.val/\
  ∀(v:Value) (b:Nat),((l.modify j λe=>{e with key:=k,val:=v}).map λe=>(e.key,e.val))=bw (l.map λe=>(e.key,e.val)) k v
 |[],_,_=>.inl ⟨rfl,rfl,λ_=>rfl⟩
 |e::es,i,h=>by
  obtain⟨A,o,p⟩:=MapKept.sameNow_of_keys q (h e (.head _));cases A with
  |true=>
   have n:e.key=k:=(p.1 rfl).symm;refine .inr ⟨0,e,by simp[Instr.findNow,o],rfl,n,hW n,λv _=>?_⟩;simp only[List.map_cons,bw];rw[if_pos n];simp
  |false=>
   have a:e.key≠k:=λz=>by have:=p.2 z.symm;cases this
   rcases jW q es (i+1) (λx y=>h x (.tail _ y)) with⟨c,f,g⟩|⟨j,r,c,f,g,s,u⟩
   ·refine .inl ⟨by simp[Instr.findNow,o,c],?_,λv=>?_⟩
    ·rw[List.map_cons,fS a,f]
    ·simp only[List.map_cons,bw];rw[if_neg a,g];rfl
   ·refine .inr ⟨j+1,r,by simp[Instr.findNow,o,c];omega,by simpa using f,g,?_,λv b=>?_⟩
    ·rw[List.map_cons,fS a,s]
    ·simp only[List.map_cons,bw,List.modify_succ_cons];rw[if_neg a,<-u v b]
section
variable {P : Program} {w : World} {t kt et : TypeId} {d : TypeDesc} {m : Nat} {L : List (Value × Value)} {k : Value}
theorem MV.lookup(h:MV w m L)(ht:P.underlying t=some (.map kt et))(b:P.underlying kt=some d)(f:MapKept.IsKey d k)(p:∀n,n∈L->MapKept.IsKey d n.1){z:Value}(l:(zeroValue et).run P w=.ok z w)(a:Bool):
 (Instr.lookup t (.map (some m)) k a).run P w=.ok (if a then .tuple #[(bd L k).getD z,.bool (bd L k).isSome] else(bd L k).getD z) w:=by
 obtain⟨g,s,j,rfl⟩:=h;have q:∀x∈g.toList,MapKept.IsKey d x.key:=λx r=>p (x.key,x.val) (y8f.2 ⟨x,r,rfl⟩)
 rcases jW f g.toList 0 q with⟨c,i,-⟩|⟨v,e,c,i,u,o,-⟩
 ·rw[i];cases a<;>simp[Instr.lookup,run_underlying ht,MapKept.run_getObj_map j,MapKept.run_checkKey b f,MapKept.run_findKey b c,Result.andThen,l]
 ·rw[o];cases a<;>simp[Instr.lookup,run_underlying ht,MapKept.run_getObj_map j,MapKept.run_checkKey b f,MapKept.run_findKey b c,Result.andThen,l]
def aH(w:World)(m:Nat)(o:Obj):World:={w with heap:=w.heap.setIfInBounds m o}
theorem dj{base:Nat}{w:World}{m:Nat}{o:Obj}(e:base<=m)(b:base<=w.heap.size):Below base w (aH w m o):=
 ⟨rfl,rfl,rfl,by simp[aH],λa c=>by simp[aH,Array.getElem?_setIfInBounds_ne (show m≠a by omega)]⟩
theorem rN{d:TypeDesc}{k:Value}(a:MapKept.IsKey d k):Instr.sameBits 10000 k k=true:=by
 cases d<;>cases k<;>simp_all [MapKept.IsKey,Instr.sameBits,MapKept.bytes_beq]
theorem MV.update(h:MV w m L)(ht:P.underlying t=some (.map kt et))(c:P.underlying kt=some d)(f:MapKept.IsKey d k)(u:∀q,q∈L->MapKept.IsKey d q.1)(v:Value):
 ∃o,(Instr.mapUpdate t (.map (some m)) k v).run P w=.ok () (aH w m o)/\MV (aH w m o) m (bw L k v):=by
 have n:=h.lt;obtain⟨a,g,b,rfl⟩:=h;have y:∀x∈a.toList,MapKept.IsKey d x.key:=λx z=>u (x.key,x.val) (y8f.2 ⟨x,z,rfl⟩)
 rcases jW f a.toList 0 y with⟨i,l,j⟩|⟨p,e,i,l,j,A,r⟩
 ·refine⟨.map (a.push {key:=k,val:=v,born:=g}) (g+1),?_,_,_,by simp[aH,n];exact⟨rfl,rfl⟩,?_⟩
  ·simp[Instr.mapUpdate,run_underlying ht,MapKept.run_getObj_map b,MapKept.run_checkKey c f,MapKept.run_findKey c i,Result.andThen,MapKept.run_setObj_map _ b,aH]
  ·rw[j];simp
 ·refine⟨.map (a.modify p λe=>{e with key:=k,val:=v}) g,?_,_,_,by simp[aH,n];exact⟨rfl,rfl⟩,?_⟩
  ·have s:a[p]? =some e:=by rw[<-Array.getElem?_toList];exact l
   simp[Instr.mapUpdate,run_underlying ht,MapKept.run_getObj_map b,MapKept.run_checkKey c f,MapKept.run_findKey c i,Result.andThen,MapKept.run_setObj_map _ b,aH,Instr.keyThatStays,s,j,rN f]
  ·rw[Array.toList_modify];exact r v 0
end
