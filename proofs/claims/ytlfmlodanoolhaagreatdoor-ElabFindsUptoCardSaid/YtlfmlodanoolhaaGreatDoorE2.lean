import Derived.MapKept
import Derived.Test.YtlfmlodanoolhaaGreatDoorE1
set_option linter.all false
set_option maxRecDepth 200000
set_option maxHeartbeats 32000000
namespace Go.Proofs.YtlfmlodanoolhaaGreatDoor
open Go Go.RowKit
def MV(w:World)(m:Nat)(L:List (Value×Value)):Prop:=∃es clock,w.heap[m]? =some (.map es clock)∧es.toList.map (fun e:MapEntry=>(e.key,e.val))=L
theorem MV.lt{w:World}{m:Nat}{L:List (Value×Value)}(h:MV w m L):m<w.heap.size:=by
 obtain⟨es,clock,hb,-⟩:=h;exact(y1n.1 hb).1
theorem MV.ext{w w':World}{m:Nat}{L:List (Value×Value)}(h:MV w m L)(hx:Ext w w'):MV w' m L:=by
 have hlt:=h.lt;obtain⟨es,clock,hb,hL⟩:=h;exact⟨es,clock,(hx.heap hlt).trans hb,hL⟩
theorem MV.new(w:World):MV (w.alloc (.map #[] 0)) w.heap.size []:=⟨#[],0,by show(w.heap.push _)[w.heap.size]? =_;simp,rfl⟩
noncomputable def z6p:List (Value×Value)→Value→Option Value
 |[],_=>none
 |p::r,k=>@ite _ (p.1=k) (Classical.propDecidable _) (some p.2) (z6p r k)
theorem z8x{p:Value×Value}{r:List (Value×Value)}{k:Value}(h:p.1=k):z6p (p::r) k=some p.2:=by unfold z6p;rw[if_pos h]
theorem z4o{p:Value×Value}{r:List (Value×Value)}{k:Value}(h:p.1≠k):z6p (p::r) k=z6p r k:=by rw[z6p,if_neg h]
noncomputable def z8t:List (Value×Value)→Value→Value→List (Value×Value)
 |[],k,v=>[(k,v)]
 |p::r,k,v=>@ite _ (p.1=k) (Classical.propDecidable _) ((k,v)::r) (p::z8t r k v)
theorem z7i(L:List (Value×Value))(k v k':Value):z6p (z8t L k v) k'=@ite _ (k=k') (Classical.propDecidable _) (some v) (z6p L k'):=by
 induction L with
 |nil=>
  unfold z8t;by_cases h:k=k'
  ·rw[z8x h,if_pos h]
  ·rw[z4o h,if_neg h]
 |cons p r ih=>
  unfold z8t;by_cases hp:p.1=k
  ·rw[if_pos hp];by_cases h:k=k'
   ·rw[z8x h,if_pos h]
   ·rw[z4o h,if_neg h,z4o (show p.1≠k' from fun e=>h (hp.symm.trans e))]
  ·rw[if_neg hp];by_cases h2:p.1=k'
   ·rw[z8x h2,if_neg (fun e:k=k'=>hp (h2.trans e.symm)),z8x h2]
   ·rw[z4o h2,ih,z4o h2]
theorem z1l{d:TypeDesc}{L:List (Value×Value)}{k v:Value}(h:∀p,p∈L→MapKept.IsKey d p.1)(hk:MapKept.IsKey d k):∀p,p∈z8t L k v→MapKept.IsKey d p.1:=by
 induction L with
 |nil=>intro p hp;unfold z8t at hp;simp at hp;rw[hp];exact hk
 |cons q r ih=>
  intro p hp;unfold z8t at hp;split at hp
  ·rcases List.mem_cons.1 hp with rfl|hp
   ·exact hk
   ·exact h p (by simp[hp])
  ·rcases List.mem_cons.1 hp with rfl|hp
   ·exact h _ (by simp)
   ·exact ih (fun p hp=>h p (by simp[hp])) p hp
theorem q0m{d:TypeDesc}{k:Value}(hk:MapKept.IsKey d k):∀(l:List MapEntry) (i:Nat),(∀x∈l,MapKept.IsKey d x.key)→
 (Instr.findNow d k l i=some none∧z6p (l.map fun e=>(e.key,e.val)) k=none∧∀v,z8t (l.map fun e=>(e.key,e.val)) k v=l.map (fun e=>(e.key,e.val))++[(k,v)])∨
 ∃j e,Instr.findNow d k l i=some (some (i+j,e.val))∧l[j]? =some e∧e.key=k∧z6p (l.map fun e=>(e.key,e.val)) k=some e.val∧
  ∀(v:Value) (b:Nat),((l.modify j fun e=>{e with key:=k,val:=v}).map fun e=>(e.key,e.val))=z8t (l.map fun e=>(e.key,e.val)) k v
 |[],_,_=>.inl ⟨rfl,rfl,fun _=>rfl⟩
 |e::es,i,h=>by
  obtain⟨r,hr,hiff⟩:=MapKept.sameNow_of_keys hk (h e (.head _));cases r with
  |true=>
   have he:e.key=k:=(hiff.1 rfl).symm;refine .inr ⟨0,e,by simp[Instr.findNow,hr],rfl,he,z8x he,fun v _=>?_⟩;simp only[List.map_cons,z8t];rw[if_pos he];simp
  |false=>
   have hne:e.key≠k:=fun q=>by have:=hiff.2 q.symm;cases this
   rcases q0m hk es (i+1) (fun x hx=>h x (.tail _ hx)) with⟨h1,h2,h3⟩|⟨j,e',h1,h2,h3,h4,h5⟩
   ·refine .inl ⟨by simp[Instr.findNow,hr,h1],?_,fun v=>?_⟩
    ·rw[List.map_cons,z4o hne,h2]
    ·simp only[List.map_cons,z8t];rw[if_neg hne,h3];rfl
   ·refine .inr ⟨j+1,e',by simp[Instr.findNow,hr,h1];omega,by simpa using h2,h3,?_,fun v b=>?_⟩
    ·rw[List.map_cons,z4o hne,h4]
    ·simp only[List.map_cons,z8t,List.modify_succ_cons];rw[if_neg hne,←h5 v b]
section
variable {P : Program} {w : World} {t kt et : TypeId} {d : TypeDesc} {m : Nat} {L : List (Value × Value)} {k : Value}
theorem MV.lookup(h:MV w m L)(ht:P.underlying t=some (.map kt et))(hd:P.underlying kt=some d)(hk:MapKept.IsKey d k)(hks:∀p,p∈L→MapKept.IsKey d p.1){z:Value}(hz:(zeroValue et).run P w=.ok z w)(c:Bool):
 (Instr.lookup t (.map (some m)) k c).run P w=.ok (if c then .tuple #[(z6p L k).getD z,.bool (z6p L k).isSome] else(z6p L k).getD z) w:=by
 obtain⟨es,clock,hb,rfl⟩:=h;have hks':∀x∈es.toList,MapKept.IsKey d x.key:=fun x hx=>hks (x.key,x.val) (y2f.2 ⟨x,hx,rfl⟩)
 rcases q0m hk es.toList 0 hks' with⟨h1,h2,-⟩|⟨j,e,h1,h2,h3,h4,-⟩
 ·rw[h2];cases c<;>simp[Instr.lookup,run_underlying ht,MapKept.run_getObj_map hb,MapKept.run_checkKey hd hk,MapKept.run_findKey hd h1,Result.andThen,hz]
 ·rw[h4];cases c<;>simp[Instr.lookup,run_underlying ht,MapKept.run_getObj_map hb,MapKept.run_checkKey hd hk,MapKept.run_findKey hd h1,Result.andThen,hz]
def z4f(w:World)(m:Nat)(o:Obj):World:={w with heap:=w.heap.setIfInBounds m o}
theorem z0u{base:Nat}{w:World}{m:Nat}{o:Obj}(hm:base≤m)(hb:base≤w.heap.size):Below base w (z4f w m o):=
 ⟨rfl,rfl,rfl,by simp[z4f],fun b hlt=>by simp[z4f,Array.getElem?_setIfInBounds_ne (show m≠b by omega)]⟩
theorem q8m{d:TypeDesc}{k:Value}(hk:MapKept.IsKey d k):Instr.sameBits 10000 k k=true:=by
 cases d<;>cases k<;>simp_all [MapKept.IsKey,Instr.sameBits,MapKept.bytes_beq]
theorem MV.update(h:MV w m L)(ht:P.underlying t=some (.map kt et))(hd:P.underlying kt=some d)(hk:MapKept.IsKey d k)(hks:∀p,p∈L→MapKept.IsKey d p.1)(v:Value):
 ∃o,(Instr.mapUpdate t (.map (some m)) k v).run P w=.ok () (z4f w m o)∧MV (z4f w m o) m (z8t L k v):=by
 have hlt:=h.lt;obtain⟨es,clock,hb,rfl⟩:=h;have hks':∀x∈es.toList,MapKept.IsKey d x.key:=fun x hx=>hks (x.key,x.val) (y2f.2 ⟨x,hx,rfl⟩)
 rcases q0m hk es.toList 0 hks' with⟨h1,h2,h3⟩|⟨j,e,h1,h2,h3,h4,h5⟩
 ·refine⟨.map (es.push {key:=k,val:=v,born:=clock}) (clock+1),?_,_,_,by simp[z4f,hlt];exact⟨rfl,rfl⟩,?_⟩
  ·simp[Instr.mapUpdate,run_underlying ht,MapKept.run_getObj_map hb,MapKept.run_checkKey hd hk,MapKept.run_findKey hd h1,Result.andThen,MapKept.run_setObj_map _ hb,z4f]
  ·rw[h3];simp
 ·refine⟨.map (es.modify j fun e=>{e with key:=k,val:=v}) clock,?_,_,_,by simp[z4f,hlt];exact⟨rfl,rfl⟩,?_⟩
  ·have hj:es[j]? =some e:=by rw[←Array.getElem?_toList];exact h2
   simp[Instr.mapUpdate,run_underlying ht,MapKept.run_getObj_map hb,MapKept.run_checkKey hd hk,MapKept.run_findKey hd h1,Result.andThen,MapKept.run_setObj_map _ hb,z4f,Instr.keyThatStays,hj,h3,q8m hk]
  ·rw[Array.toList_modify];exact h5 v 0
end
end Go.Proofs.YtlfmlodanoolhaaGreatDoor
