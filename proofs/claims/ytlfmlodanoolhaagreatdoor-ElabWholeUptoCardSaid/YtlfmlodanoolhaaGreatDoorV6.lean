import Derived.Maps.RangeRun
import Derived.Test.YtlfmlodanoolhaaGreatDoorV2
import Derived.Test.YtlfmlodanoolhaaGreatDoorV4
set_option linter.all false
set_option maxRecDepth 200000
set_option maxHeartbeats 0
namespace Go.Proofs.YtlfmlodanoolhaaGreatDoor
open Go Go.RowKit
def SetB(w:World)(m:Nat)(N:ByteArray->Prop):Prop:=∃a b,w.heap[m]? =some (.map a b)/\(∀e∈a.toList,∃s:ByteArray,e.key=.string s/\e.val=.bool true/\e.born<b)/\
 (a.toList.map (·.born)).Nodup/\∀s:ByteArray,(∃e∈a.toList,e.key=.string s)↔N s
theorem SetB.lt{w:World}{m:Nat}{N:ByteArray->Prop}(h:SetB w m N):m<w.heap.size:=by obtain⟨c,b,a,-⟩:=h;exact(y7n.1 a).1
theorem SetB.new(w:World):SetB (w.alloc (.map #[] 0)) w.heap.size (λ_=>False):=
 ⟨#[],0,by show(w.heap.push _)[w.heap.size]? =_;simp,(λe a=>by simp at a),zS,λs=>by simp⟩
theorem SetB.kept{w a:World}{m:Nat}{N:ByteArray->Prop}{row:Option Nat}(h:SetB w m N)(g:w.grownBy a row)(j:row≠some m):SetB a m N:=by
 have i:=h.lt;obtain⟨c,b,f,d⟩:=h;exact⟨c,b,(g.block m i (λe=>j e.symm)).trans f,d⟩
theorem SetB.congr{w:World}{m:Nat}{N N':ByteArray->Prop}(h:SetB w m N)(f:∀s,N s↔N' s):SetB w m N':=by
 obtain⟨b,a,g,c,d,e⟩:=h;exact⟨b,a,g,c,d,λs=>(e s).trans (f s)⟩
theorem qw{v:Value}{k:Value}:∀(f:List (Value×Value)),(∀a,a∈f->a.2=v)->bd f k=if yes (∃a,a∈f/\a.1=k) then some v else none
 |[],_=>by rw[if_neg (by rw[yes_no.2 (by rintro⟨a,c,-⟩;cases c)];decide)];rfl
 |a::r,h=>by
  by_cases c:a.1=k
  ·rw[hW c,h a (List.mem_cons_self ..),if_pos (yes_iff.2 ⟨a,List.mem_cons_self ..,c⟩)]
  ·rw[fS c,qw r λd b=>h d (List.mem_cons_of_mem _ b)]
   congr 1
   rw[di];constructor
   ·rintro⟨d,b,e⟩;exact⟨d,bi _ b,e⟩
   ·rintro⟨d,b,e⟩;rcases List.mem_cons.1 b with rfl|b
    ·exact absurd e c
    ·exact⟨d,b,e⟩
theorem oV{α:Type}{f:α->α}:∀{l:List α} {j:Nat} {e:α},l[j]? =some e->f e=e->l.modify j f=l
 |[],_,_,h,_=>by simp at h
 |a::r,0,e,h,he=>by simp at h;subst h;simp[he]
 |a::r,j+1,e,h,he=>by rw[List.modify_succ_cons,oV (by simpa using h) he]
section
variable {P : Program} {w : World} {t kt et : TypeId} {m : Nat} {N : ByteArray → Prop}
theorem kC(s:ByteArray):MapKept.IsKey .string (.string s):=trivial
theorem SetB.mv(h:SetB w m N):∃c,MV w m c/\(∀b,b∈c->MapKept.IsKey .string b.1)/\∀s:ByteArray,bd c (.string s)=if yes (N s) then some (.bool true) else none:=by
 obtain⟨j,i,l,g,-,k⟩:=h;refine⟨_,⟨j,i,l,rfl⟩,λb a=>?_,λs=>?_⟩
 ·obtain⟨e,d,rfl⟩:=y8f.1 a;obtain⟨s,n,-⟩:=g e d;show MapKept.IsKey .string e.key;rw[n];exact kC s
 ·rw[qw (v:=.bool true) _ λb a=>by obtain⟨e,d,rfl⟩:=List.mem_map.1 a;obtain⟨s,-,o,-⟩:=g e d;exact o]
  congr 1
  rw[di];rw[<-k s];constructor
  ·rintro⟨b,a,e⟩;obtain⟨x,f,rfl⟩:=y8f.1 a;exact⟨x,f,e⟩
  ·rintro⟨x,f,e⟩;exact⟨_,y8f.2 ⟨x,f,rfl⟩,e⟩
theorem SetB.ask(h:SetB w m N)(ht:P.underlying t=some (.map kt et))(d:P.underlying kt=some .string)(e:∀w,(zeroValue et).run P w=.ok (.bool false) w)(s:ByteArray):
 (Instr.lookup t (.map (some m)) (.string s) false).run P w=.ok (.bool (yes (N s))) w:=by
 obtain⟨f,a,b,c⟩:=h.mv;rw[a.lookup ht d (kC s) b (e w) false,c s];cases hN:yes (N s)<;>rfl
theorem SetB.add(h:SetB w m N)(ht:P.underlying t=some (.map kt et))(g:P.underlying kt=some .string)(s:ByteArray):
 ∃o,(Instr.mapUpdate t (.map (some m)) (.string s) (.bool true)).run P w=.ok () (aH w m o)/\SetB (aH w m o) m (λu=>N u\/u=s):=by
 have B:=h.lt;obtain⟨b,j,f,c,z,n⟩:=h;have E:∀x∈b.toList,MapKept.IsKey .string x.key:=λx a=>by obtain⟨u,F,-⟩:=c x a;rw[F];exact kC u
 have i:=kC s;rcases jW i b.toList 0 E with⟨k,-,-⟩|⟨r,e,k,d,l,-,-⟩
 ·refine⟨.map (b.push {key:=.string s,val:=.bool true,born:=j}) (j+1),?_,_,_,by simp[aH,B];exact⟨rfl,rfl⟩,?_,?_,λu=>?_⟩
  ·simp[Instr.mapUpdate,run_underlying ht,MapKept.run_getObj_map f,MapKept.run_checkKey g i,MapKept.run_findKey g k,Result.andThen,MapKept.run_setObj_map _ f,aH]
  ·intro x a;rw[Array.toList_push] at a;rcases y8e.1 a with a|a
   ·obtain⟨u,v,y,C⟩:=c x a;exact⟨u,v,y,zO⟩
   ·simp at a;subst a;exact⟨s,rfl,rfl,Nat.lt_succ_self _⟩
  ·rw[Array.toList_push,List.map_append,List.nodup_append];refine⟨z,zS,λv ha y A e=>?_⟩;simp at A;subst A;obtain⟨x,a,rfl⟩:=y8f.1 ha;obtain⟨u,-,-,C⟩:=c x a;omega
  ·show _↔(N u\/u=s);rw[Array.toList_push,<-n u];constructor
   ·rintro⟨x,a,e⟩;rcases y8e.1 a with a|a
    ·exact .inl ⟨x,a,e⟩
    ·simp at a;subst a;injection e with e;exact .inr e.symm
   ·rintro(⟨x,a,e⟩|rfl)
    ·exact⟨x,List.mem_append_left _ a,e⟩
    ·exact⟨_,List.mem_append_right _ (y8d.2 rfl),rfl⟩
 ·have q:e.val=.bool true:=by obtain⟨u,-,q,-⟩:=c e (List.mem_of_getElem? d);exact q
  have p:(b.modify r λe=>{e with key:=.string s,val:=.bool true}).toList=b.toList:=by
   rw[Array.toList_modify];exact oV d (by rw[<-l,<-q])
  refine⟨.map (b.modify r λe=>{e with key:=.string s,val:=.bool true}) j,?_,_,_,by simp[aH,B];exact⟨rfl,rfl⟩,?_,?_,λu=>?_⟩
  ·have D:b[r]? =some e:=by rw[<-Array.getElem?_toList];exact d
   simp[Instr.mapUpdate,run_underlying ht,MapKept.run_getObj_map f,MapKept.run_checkKey g i,MapKept.run_findKey g k,Result.andThen,MapKept.run_setObj_map _ f,aH,Instr.keyThatStays,D,l,rN i]
  ·rw[p];exact c
  ·rw[p];exact z
  ·show _↔(N u\/u=s);rw[p,n u];constructor
   ·exact .inl
   ·rintro(h|rfl)
    ·exact h
    ·exact(n u).1 ⟨e,List.mem_of_getElem? d,l⟩
theorem gl(w:World)(m:Nat)(o:Obj):w.grownBy (aH w m o) (some m):=
 ⟨rfl,rfl,rfl,by simp[aH],λb _ a=>by simp[aH,Array.getElem?_setIfInBounds_ne (show m≠b from λe=>a (by rw[e]))]⟩
def RangeB(w:World)(g m:Nat)(N f:ByteArray->Prop)(k:Nat):Prop:=∃a c d seen b,w.heap[g]? =some (.mapIter (some m) d seen b)/\w.heap[m]? =some (.map a c)/\(∀e∈a.toList,∃s:ByteArray,e.key=.string s/\e.val=.bool true/\e.born<c)/\
 (a.toList.map (·.born)).Nodup/\(∀s:ByteArray,(∃e∈a.toList,e.key=.string s)↔N s)/\(∀e∈a.toList,e.born<d)/\d<=b/\b<=c/\k=(leftOf a seen).size/\∀s:ByteArray,(∃e∈a.toList,e.born∈seen/\e.key=.string s)↔f s
theorem RangeB.set{i:Nat}{a:ByteArray->Prop}{k:Nat}(h:RangeB w i m N a k):SetB w m N:=by
 obtain⟨c,b,l,seen,j,_,g,d,e,f,-⟩:=h;exact⟨c,b,g,d,e,f⟩
theorem RangeB.ltr{a:Nat}{b:ByteArray->Prop}{k:Nat}(h:RangeB w a m N b k):a<w.heap.size:=by
 obtain⟨f,e,g,seen,d,c,-⟩:=h;exact(y7n.1 c).1
theorem RangeB.kept{a:Nat}{b:ByteArray->Prop}{k:Nat}{d:World}{row:Option Nat}(h:RangeB w a m N b k)(c:w.grownBy d row)(o:row≠some m)(q:row≠some a):RangeB d a m N b k:=by
 have j:=h.ltr;have l:=h.set.lt;obtain⟨i,g,s,seen,f,p,n,r⟩:=h;exact⟨i,g,s,seen,f,(c.block a j (λe=>q e.symm)).trans p,(c.block m l (λe=>o e.symm)).trans n,r⟩
open Classical in
noncomputable def kd(w:World)(d:Nat):Nat:=if b:∃(c m:Nat) (N a:ByteArray->Prop),RangeB w d m N a c then b.choose else 0
theorem gX{e:Nat}{a:ByteArray->Prop}{k:Nat}(h:RangeB w e m N a k):kd w e=k:=by
 have f:∃(k m:Nat) (N a:ByteArray->Prop),RangeB w e m N a k:=⟨k,m,N,a,h⟩;unfold kd;rw[dif_pos f];obtain⟨D,r,q,j⟩:=f.choose_spec;obtain⟨B,v,F,seen,s,p,l,-,-,-,-,-,-,n,-⟩:=h;obtain⟨C,x,G,E,u,c,b,-,-,-,-,-,-,o,-⟩:=j;rw[p] at c;injection c with c;injection c with d y g z;injection d with d;subst d;subst g;rw[l] at b;injection b with b;injection b with i A;subst i;rw[o,n]
theorem SetB.range(h:SetB w m N)(ht:P.underlying t=some (.map kt et)):∃o l,(Instr.range t (.map (some m))).run P w=.ok (.pointer (some ⟨w.heap.size,0,none⟩)) (w.alloc o)/\RangeB (w.alloc o) w.heap.size m N (λ_=>False) l:=by
 have k:=h.lt;obtain⟨b,a,d,c,f,g⟩:=h;refine⟨.mapIter (some m) a #[] a,(leftOf b #[]).size,?_,b,a,a,#[],a,?_,?_,c,f,g,?_,ac _,ac _,rfl,λs=>by simp⟩
 ·simp[Instr.range,run_underlying ht,MapKept.run_getObj_map d,Result.andThen,newObj,Sem.run_bind,Sem.run_pure];rfl
 ·show(w.heap.push _)[w.heap.size]? =_;simp
 ·exact(Below.heap_alloc w _ m k).trans d
 ·intro e j;obtain⟨s,-,-,i⟩:=c e j;exact i
theorem RangeB.next{c:Nat}{D:ByteArray->Prop}{k:Nat}(h:RangeB w c m N D k)(ty:TypeId):
 ((Instr.next (.pointer (some ⟨c,0,none⟩)) false ty).run P w=.ok (.tuple #[.bool false]) w/\∀s,N s->D s)\/
 ∃(s:ByteArray) (B:World),N s/\0<k/\(Instr.next (.pointer (some ⟨c,0,none⟩)) false ty).run P w=.ok (.tuple #[.bool true,.string s,.bool true]) B/\RangeB B c m N (λu=>D u\/u=s) (k - 1)/\w.grownBy B (some c)/\(Instr.entry (.pointer (some ⟨c,0,none⟩))).run P B=.ok (.tuple #[.string s,.bool true]) B:=by
 have a7:c≠m:=by
  obtain⟨b,f,o,seen,R,H,v,-⟩:=h;intro e;subst e;rw[H] at v;cases v
 obtain⟨b,f,o,seen,R,H,v,S,E,K,T,a0,b0,rfl,U⟩:=h;rcases run_next_at (P:=P) w ty c m o R seen b f H v T a0 with⟨y,Q⟩|⟨e,F,C,Z,Q⟩
 ·refine .inl ⟨Q,λs a8=>?_⟩;obtain⟨e,g,d⟩:=(K s).2 a8;refine(U s).1 ⟨e,g,?_,d⟩;have q:leftOf b seen=#[]:=Array.eq_empty_of_size_eq_zero y;unfold leftOf at q;have:=Array.filter_eq_empty_iff.1 q e (by simpa using g);simpa using this
 ·have n:e∈b.toList/\¬e.born∈seen:=by
   unfold leftOf at F;simpa using F
  obtain⟨s,z,Y,b1⟩:=S e n.1;have a4:0<(leftOf b seen).size:=by
   rcases Nat.eq_zero_or_pos (leftOf b seen).size with q|q
   ·rw[Array.eq_empty_of_size_eq_zero q] at F;simp at F
   ·exact q
  have I:C.heap=w.heap:=by rcases Z with rfl|rfl<;>rfl
  have a5:c<C.heap.size:=by rw[I];exact(y7n.1 H).1
  have W:(ChangeMaps.setBlock C c (.mapIter (some m) o (seen.push e.born) f)).heap[c]? =some (.mapIter (some m) o (seen.push e.born) f):=by simp[ChangeMaps.setBlock,a5]
  have V:(ChangeMaps.setBlock C c (.mapIter (some m) o (seen.push e.born) f)).heap[m]? =some (.map b f):=by
   simp only[ChangeMaps.setBlock];rw[Array.getElem?_setIfInBounds_ne a7,I];exact v
  refine .inr ⟨s,_,(K s).1 ⟨e,n.1,z⟩,a4,by rw[Q,z,Y],?_,?_,by rw[run_entry_at _ c m o seen b f e W V n.1 E,z,Y]⟩
  ·refine⟨b,f,o,seen.push e.born,f,?_,?_,S,E,K,T,zO,ac _,?_,λu=>?_⟩
   ·exact W
   ·exact V
   ·have a1:∀l:List MapEntry,(l.map (·.born)).Nodup->e∈l->(l.filter λx=>!(seen.push e.born).contains x.born).length+1=(l.filter λx=>!seen.contains x.born).length:=by
     intro l;induction l with
     |nil=>intro _ h;cases h
     |cons a l ih=>
      intro i G;rw[List.map_cons,List.nodup_cons] at i;rcases List.mem_cons.1 G with rfl|G
      ·have a6:(l.filter λx=>!(seen.push e.born).contains x.born)=l.filter λx=>!seen.contains x.born:=by
        apply List.filter_congr;intro x r;have:x.born≠e.born:=λy=>i.1 (y▸y8f.2 ⟨x,r,rfl⟩)
        simp[this]
       rw[List.filter_cons,List.filter_cons,a6,if_neg zS,if_pos (by simpa using n.2)];rfl
      ·have O:a.born≠e.born:=λy=>i.1 (y▸y8f.2 ⟨e,G,rfl⟩)
       have:=ih i.2 G;rw[List.filter_cons,List.filter_cons];by_cases ha:a.born∈seen
       ·rw[if_neg (by simp[ha]),if_neg (by simp[ha])];exact this
       ·rw[if_pos (by simp[ha,O]),if_pos (by simp[ha])];simp only[List.length_cons];omega
    have:=a1 b.toList E n.1;have X:∀A:MapEntry->Bool,(b.filter A).size=(b.toList.filter A).length:=λA=>(Array.length_toList (xs:=b.filter A)).symm.trans (congrArg List.length (Array.toList_filter (p:=A) (xs:=b)))
    unfold leftOf;rw[X,X];omega
   ·show _↔(D u\/u=s);rw[<-U u];constructor
    ·rintro⟨x,r,j,d⟩;rcases Array.mem_push.1 j with j|j
     ·exact .inl ⟨x,r,j,d⟩
     ·right
      have a9:x=e:=by
       have a3:∀l:List MapEntry,(l.map (·.born)).Nodup->x∈l->e∈l->x.born=e.born->x=e:=by
        intro l;induction l with
        |nil=>intro _ h;cases h
        |cons a l ih=>
         intro i J g L;rw[List.map_cons,List.nodup_cons] at i;rcases List.mem_cons.1 J with rfl|J
         ·rcases List.mem_cons.1 g with rfl|g
          ·rfl
          ·exact absurd (L▸y8f.2 ⟨e,g,rfl⟩) i.1
         ·rcases List.mem_cons.1 g with a2|g
          ·exact absurd (by rw[<-a2,<-L];exact y8f.2 ⟨x,J,rfl⟩) i.1
          ·exact ih i.2 J g L
       exact a3 b.toList E r n.1 j
      subst a9;rw[z] at d;injection d with d;exact d.symm
    ·rintro(⟨x,r,j,d⟩|rfl)
     ·exact⟨x,r,Array.mem_push.2 (.inl j),d⟩
     ·exact⟨e,n.1,Array.mem_push.2 (.inr rfl),z⟩
  ·have M:w.grownBy C (some c):=by rcases Z with rfl|rfl<;>exact⟨rfl,rfl,rfl,ac _,λ_ _ _=>rfl⟩
   refine⟨M.os,M.tape,M.output,by simp[ChangeMaps.setBlock,I],λk d O=>?_⟩;simp only[ChangeMaps.setBlock];rw[Array.getElem?_setIfInBounds_ne (λe=>O (by rw[e])),I]
end
