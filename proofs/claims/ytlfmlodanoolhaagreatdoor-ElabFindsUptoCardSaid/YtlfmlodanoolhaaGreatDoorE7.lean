import Derived.Maps.RangeRun
import Derived.Test.YtlfmlodanoolhaaGreatDoorE2
import Derived.Test.YtlfmlodanoolhaaGreatDoorE4
set_option linter.all false
set_option maxRecDepth 200000
set_option maxHeartbeats 32000000
namespace Go.Proofs.YtlfmlodanoolhaaGreatDoor
open Go Go.RowKit
def SetB(w:World)(m:Nat)(N:ByteArray→Prop):Prop:=∃es clock,w.heap[m]? =some (.map es clock)∧(∀e∈es.toList,∃s:ByteArray,e.key=.string s∧e.val=.bool true∧e.born<clock)∧
 (es.toList.map (·.born)).Nodup∧∀s:ByteArray,(∃e∈es.toList,e.key=.string s)↔N s
theorem SetB.lt{w:World}{m:Nat}{N:ByteArray→Prop}(h:SetB w m N):m<w.heap.size:=by obtain⟨es,clock,hb,-⟩:=h;exact(y1n.1 hb).1
theorem SetB.new(w:World):SetB (w.alloc (.map #[] 0)) w.heap.size (fun _=>False):=
 ⟨#[],0,by show(w.heap.push _)[w.heap.size]? =_;simp,(fun e he=>by simp at he),by simp,fun s=>by simp⟩
theorem SetB.kept{w w':World}{m:Nat}{N:ByteArray→Prop}{row:Option Nat}(h:SetB w m N)(hg:w.grownBy w' row)(hne:row≠some m):SetB w' m N:=by
 have hlt:=h.lt;obtain⟨es,clock,hb,h1⟩:=h;exact⟨es,clock,(hg.block m hlt (fun e=>hne e.symm)).trans hb,h1⟩
theorem SetB.congr{w:World}{m:Nat}{N N':ByteArray→Prop}(h:SetB w m N)(hN:∀s,N s↔N' s):SetB w m N':=by
 obtain⟨es,clock,hb,h1,h2,h3⟩:=h;exact⟨es,clock,hb,h1,h2,fun s=>(h3 s).trans (hN s)⟩
theorem j3w{v:Value}{k:Value}:∀(L:List (Value×Value)),(∀p,p∈L→p.2=v)→z6p L k=if yes (∃p,p∈L∧p.1=k) then some v else none
 |[],_=>by rw[if_neg (by rw[yes_no.2 (by rintro⟨p,hp,-⟩;cases hp)];decide)];rfl
 |p::r,h=>by
  by_cases hp:p.1=k
  ·rw[z8x hp,h p (List.mem_cons_self ..),if_pos (yes_iff.2 ⟨p,List.mem_cons_self ..,hp⟩)]
  ·rw[z4o hp,j3w r fun q hq=>h q (List.mem_cons_of_mem _ hq)]
   congr 1
   rw[z1h];constructor
   ·rintro⟨q,hq,e⟩;exact⟨q,y1r _ hq,e⟩
   ·rintro⟨q,hq,e⟩;rcases List.mem_cons.1 hq with rfl|hq
    ·exact absurd e hp
    ·exact⟨q,hq,e⟩
theorem q4b{α:Type}{f:α→α}:∀{l:List α} {j:Nat} {e:α},l[j]? =some e→f e=e→l.modify j f=l
 |[],_,_,h,_=>by simp at h
 |a::r,0,e,h,he=>by simp at h;subst h;simp[he]
 |a::r,j+1,e,h,he=>by rw[List.modify_succ_cons,q4b (by simpa using h) he]
section
variable {P : Program} {w : World} {t kt et : TypeId} {m : Nat} {N : ByteArray → Prop}
theorem j3p(s:ByteArray):MapKept.IsKey .string (.string s):=trivial
theorem SetB.mv(h:SetB w m N):∃L,MV w m L∧(∀p,p∈L→MapKept.IsKey .string p.1)∧∀s:ByteArray,z6p L (.string s)=if yes (N s) then some (.bool true) else none:=by
 obtain⟨es,clock,hb,h1,-,h3⟩:=h;refine⟨_,⟨es,clock,hb,rfl⟩,fun p hp=>?_,fun s=>?_⟩
 ·obtain⟨e,he,rfl⟩:=y2f.1 hp;obtain⟨s,hs,-⟩:=h1 e he;show MapKept.IsKey .string e.key;rw[hs];exact j3p s
 ·rw[j3w (v:=.bool true) _ fun p hp=>by obtain⟨e,he,rfl⟩:=List.mem_map.1 hp;obtain⟨s,-,hv,-⟩:=h1 e he;exact hv]
  congr 1
  rw[z1h];rw[←h3 s];constructor
  ·rintro⟨p,hp,e⟩;obtain⟨x,hx,rfl⟩:=y2f.1 hp;exact⟨x,hx,e⟩
  ·rintro⟨x,hx,e⟩;exact⟨_,y2f.2 ⟨x,hx,rfl⟩,e⟩
theorem SetB.ask(h:SetB w m N)(ht:P.underlying t=some (.map kt et))(hd:P.underlying kt=some .string)(hz:∀w,(zeroValue et).run P w=.ok (.bool false) w)(s:ByteArray):
 (Instr.lookup t (.map (some m)) (.string s) false).run P w=.ok (.bool (yes (N s))) w:=by
 obtain⟨L,h1,h2,h3⟩:=h.mv;rw[h1.lookup ht hd (j3p s) h2 (hz w) false,h3 s];cases hN:yes (N s)<;>rfl
theorem SetB.add(h:SetB w m N)(ht:P.underlying t=some (.map kt et))(hd:P.underlying kt=some .string)(s:ByteArray):
 ∃o,(Instr.mapUpdate t (.map (some m)) (.string s) (.bool true)).run P w=.ok () (z4f w m o)∧SetB (z4f w m o) m (fun u=>N u∨u=s):=by
 have hlt:=h.lt;obtain⟨es,clock,hb,h1,h2,h3⟩:=h;have hks:∀x∈es.toList,MapKept.IsKey .string x.key:=fun x hx=>by obtain⟨u,hu,-⟩:=h1 x hx;rw[hu];exact j3p u
 have hk:=j3p s;rcases q0m hk es.toList 0 hks with⟨f1,-,-⟩|⟨j,e,f1,f2,f3,-,-⟩
 ·refine⟨.map (es.push {key:=.string s,val:=.bool true,born:=clock}) (clock+1),?_,_,_,by simp[z4f,hlt];exact⟨rfl,rfl⟩,?_,?_,fun u=>?_⟩
  ·simp[Instr.mapUpdate,run_underlying ht,MapKept.run_getObj_map hb,MapKept.run_checkKey hd hk,MapKept.run_findKey hd f1,Result.andThen,MapKept.run_setObj_map _ hb,z4f]
  ·intro x hx;rw[Array.toList_push] at hx;rcases y2e.1 hx with hx|hx
   ·obtain⟨u,a,b,c⟩:=h1 x hx;exact⟨u,a,b,by omega⟩
   ·simp at hx;subst hx;exact⟨s,rfl,rfl,Nat.lt_succ_self _⟩
  ·rw[Array.toList_push,List.map_append,List.nodup_append];refine⟨h2,by simp,fun a ha b hb' e=>?_⟩;simp at hb';subst hb';obtain⟨x,hx,rfl⟩:=y2f.1 ha;obtain⟨u,-,-,c⟩:=h1 x hx;omega
  ·show _↔(N u∨u=s);rw[Array.toList_push,←h3 u];constructor
   ·rintro⟨x,hx,e⟩;rcases y2e.1 hx with hx|hx
    ·exact .inl ⟨x,hx,e⟩
    ·simp at hx;subst hx;injection e with e;exact .inr e.symm
   ·rintro(⟨x,hx,e⟩|rfl)
    ·exact⟨x,List.mem_append_left _ hx,e⟩
    ·exact⟨_,List.mem_append_right _ (y2d.2 rfl),rfl⟩
 ·have hv:e.val=.bool true:=by obtain⟨u,-,hv,-⟩:=h1 e (List.mem_of_getElem? f2);exact hv
  have hsame:(es.modify j fun e=>{e with key:=.string s,val:=.bool true}).toList=es.toList:=by
   rw[Array.toList_modify];exact q4b f2 (by rw[←f3,←hv])
  refine⟨.map (es.modify j fun e=>{e with key:=.string s,val:=.bool true}) clock,?_,_,_,by simp[z4f,hlt];exact⟨rfl,rfl⟩,?_,?_,fun u=>?_⟩
  ·have hj:es[j]? =some e:=by rw[←Array.getElem?_toList];exact f2
   simp[Instr.mapUpdate,run_underlying ht,MapKept.run_getObj_map hb,MapKept.run_checkKey hd hk,MapKept.run_findKey hd f1,Result.andThen,MapKept.run_setObj_map _ hb,z4f,Instr.keyThatStays,hj,f3,q8m hk]
  ·rw[hsame];exact h1
  ·rw[hsame];exact h2
  ·show _↔(N u∨u=s);rw[hsame,h3 u];constructor
   ·exact .inl
   ·rintro(h|rfl)
    ·exact h
    ·exact(h3 u).1 ⟨e,List.mem_of_getElem? f2,f3⟩
theorem z4i(w:World)(m:Nat)(o:Obj):w.grownBy (z4f w m o) (some m):=
 ⟨rfl,rfl,rfl,by simp[z4f],fun k _ hk=>by simp[z4f,Array.getElem?_setIfInBounds_ne (show m≠k from fun e=>hk (by rw[e]))]⟩
def RangeB(w:World)(r m:Nat)(N D:ByteArray→Prop)(k:Nat):Prop:=∃es clock since seen c0,w.heap[r]? =some (.mapIter (some m) since seen c0)∧w.heap[m]? =some (.map es clock)∧(∀e∈es.toList,∃s:ByteArray,e.key=.string s∧e.val=.bool true∧e.born<clock)∧
 (es.toList.map (·.born)).Nodup∧(∀s:ByteArray,(∃e∈es.toList,e.key=.string s)↔N s)∧(∀e∈es.toList,e.born<since)∧since≤c0∧c0≤clock∧k=(leftOf es seen).size∧∀s:ByteArray,(∃e∈es.toList,e.born∈seen∧e.key=.string s)↔D s
theorem RangeB.set{r:Nat}{D:ByteArray→Prop}{k:Nat}(h:RangeB w r m N D k):SetB w m N:=by
 obtain⟨es,clock,since,seen,c0,_,hb,h1,h2,h3,-⟩:=h;exact⟨es,clock,hb,h1,h2,h3⟩
theorem RangeB.ltr{r:Nat}{D:ByteArray→Prop}{k:Nat}(h:RangeB w r m N D k):r<w.heap.size:=by
 obtain⟨es,clock,since,seen,c0,hr,-⟩:=h;exact(y1n.1 hr).1
theorem RangeB.kept{r:Nat}{D:ByteArray→Prop}{k:Nat}{w':World}{row:Option Nat}(h:RangeB w r m N D k)(hg:w.grownBy w' row)(hm:row≠some m)(hr':row≠some r):RangeB w' r m N D k:=by
 have h1:=h.ltr;have h2:=h.set.lt;obtain⟨es,clock,since,seen,c0,hr,hb,rest⟩:=h;exact⟨es,clock,since,seen,c0,(hg.block r h1 (fun e=>hr' e.symm)).trans hr,(hg.block m h2 (fun e=>hm e.symm)).trans hb,rest⟩
open Classical in
noncomputable def q0b(w:World)(r:Nat):Nat:=if h:∃(k m:Nat) (N D:ByteArray→Prop),RangeB w r m N D k then h.choose else 0
theorem z3q{r:Nat}{D:ByteArray→Prop}{k:Nat}(h:RangeB w r m N D k):q0b w r=k:=by
 have hex:∃(k m:Nat) (N D:ByteArray→Prop),RangeB w r m N D k:=⟨k,m,N,D,h⟩;unfold q0b;rw[dif_pos hex];obtain⟨m',N',D',h'⟩:=hex.choose_spec;obtain⟨es,clock,since,seen,c0,hr,hb,-,-,-,-,-,-,hk,-⟩:=h;obtain⟨es',clock',since',seen',c0',hr',hb',-,-,-,-,-,-,hk',-⟩:=h';rw[hr] at hr';injection hr' with hr';injection hr' with e1 e2 e3 e4;injection e1 with e1;subst e1;subst e3;rw[hb] at hb';injection hb' with hb';injection hb' with e5 e6;subst e5;rw[hk',hk]
theorem SetB.range(h:SetB w m N)(ht:P.underlying t=some (.map kt et)):∃o k,(Instr.range t (.map (some m))).run P w=.ok (.pointer (some ⟨w.heap.size,0,none⟩)) (w.alloc o)∧RangeB (w.alloc o) w.heap.size m N (fun _=>False) k:=by
 have hlt:=h.lt;obtain⟨es,clock,hb,h1,h2,h3⟩:=h;refine⟨.mapIter (some m) clock #[] clock,(leftOf es #[]).size,?_,es,clock,clock,#[],clock,?_,?_,h1,h2,h3,?_,y1j _,y1j _,rfl,fun s=>by simp⟩
 ·simp[Instr.range,run_underlying ht,MapKept.run_getObj_map hb,Result.andThen,newObj,Sem.run_bind,Sem.run_pure];rfl
 ·show(w.heap.push _)[w.heap.size]? =_;simp
 ·exact(Below.heap_alloc w _ m hlt).trans hb
 ·intro e he;obtain⟨s,-,-,hc⟩:=h1 e he;exact hc
theorem RangeB.next{r:Nat}{D:ByteArray→Prop}{k:Nat}(h:RangeB w r m N D k)(ty:TypeId):
 ((Instr.next (.pointer (some ⟨r,0,none⟩)) false ty).run P w=.ok (.tuple #[.bool false]) w∧∀s,N s→D s)∨
 ∃(s:ByteArray) (w':World),N s∧0<k∧(Instr.next (.pointer (some ⟨r,0,none⟩)) false ty).run P w=.ok (.tuple #[.bool true,.string s,.bool true]) w'∧RangeB w' r m N (fun u=>D u∨u=s) (k - 1)∧w.grownBy w' (some r)∧(Instr.entry (.pointer (some ⟨r,0,none⟩))).run P w'=.ok (.tuple #[.string s,.bool true]) w':=by
 have hrm:r≠m:=by
  obtain⟨es,clock,since,seen,c0,hr,hb,-⟩:=h;intro e;subst e;rw[hr] at hb;cases hb
 obtain⟨es,clock,since,seen,c0,hr,hb,h1,h2,h3,h4,h5,h6,rfl,h7⟩:=h;rcases run_next_at (P:=P) w ty r m since c0 seen es clock hr hb h4 h5 with⟨he,hrun⟩|⟨e,hel,w1,hw1,hrun⟩
 ·refine .inl ⟨hrun,fun s hs=>?_⟩;obtain⟨e,he',hk⟩:=(h3 s).2 hs;refine(h7 s).1 ⟨e,he',?_,hk⟩;have h0:leftOf es seen=#[]:=Array.eq_empty_of_size_eq_zero he;unfold leftOf at h0;have:=Array.filter_eq_empty_iff.1 h0 e (by simpa using he');simpa using this
 ·have hmem:e∈es.toList∧¬e.born∈seen:=by
   unfold leftOf at hel;simpa using hel
  obtain⟨s,hks,hvs,hbs⟩:=h1 e hmem.1;have hpos:0<(leftOf es seen).size:=by
   rcases Nat.eq_zero_or_pos (leftOf es seen).size with h0|h0
   ·rw[Array.eq_empty_of_size_eq_zero h0] at hel;simp at hel
   ·exact h0
  have hw1h:w1.heap=w.heap:=by rcases hw1 with rfl|rfl<;>rfl
  have hr1:r<w1.heap.size:=by rw[hw1h];exact(y1n.1 hr).1
  have hra:(ChangeMaps.setBlock w1 r (.mapIter (some m) since (seen.push e.born) clock)).heap[r]? =some (.mapIter (some m) since (seen.push e.born) clock):=by simp[ChangeMaps.setBlock,hr1]
  have hma:(ChangeMaps.setBlock w1 r (.mapIter (some m) since (seen.push e.born) clock)).heap[m]? =some (.map es clock):=by
   simp only[ChangeMaps.setBlock];rw[Array.getElem?_setIfInBounds_ne hrm,hw1h];exact hb
  refine .inr ⟨s,_,(h3 s).1 ⟨e,hmem.1,hks⟩,hpos,by rw[hrun,hks,hvs],?_,?_,by rw[run_entry_at _ r m since seen es clock e hra hma hmem.1 h2,hks,hvs]⟩
  ·refine⟨es,clock,since,seen.push e.born,clock,?_,?_,h1,h2,h3,h4,by omega,y1j _,?_,fun u=>?_⟩
   ·exact hra
   ·exact hma
   ·have hcount:∀l:List MapEntry,(l.map (·.born)).Nodup→e∈l→(l.filter fun x=>!(seen.push e.born).contains x.born).length+1=(l.filter fun x=>!seen.contains x.born).length:=by
     intro l;induction l with
     |nil=>intro _ h;cases h
     |cons a l ih=>
      intro hn hm;rw[List.map_cons,List.nodup_cons] at hn;rcases List.mem_cons.1 hm with rfl|hm
      ·have hrest:(l.filter fun x=>!(seen.push e.born).contains x.born)=l.filter fun x=>!seen.contains x.born:=by
        apply List.filter_congr;intro x hx;have:x.born≠e.born:=fun he=>hn.1 (he▸y2f.2 ⟨x,hx,rfl⟩)
        simp[this]
       rw[List.filter_cons,List.filter_cons,hrest,if_neg (by simp),if_pos (by simpa using hmem.2)];rfl
      ·have hne:a.born≠e.born:=fun he=>hn.1 (he▸y2f.2 ⟨e,hm,rfl⟩)
       have:=ih hn.2 hm;rw[List.filter_cons,List.filter_cons];by_cases ha:a.born∈seen
       ·rw[if_neg (by simp[ha]),if_neg (by simp[ha])];exact this
       ·rw[if_pos (by simp[ha,hne]),if_pos (by simp[ha])];simp only[List.length_cons];omega
    have:=hcount es.toList h2 hmem.1;have hsize:∀p:MapEntry→Bool,(es.filter p).size=(es.toList.filter p).length:=fun p=>(Array.length_toList (xs:=es.filter p)).symm.trans (congrArg List.length (Array.toList_filter (p:=p) (xs:=es)))
    unfold leftOf;rw[hsize,hsize];omega
   ·show _↔(D u∨u=s);rw[←h7 u];constructor
    ·rintro⟨x,hx,hb',hk⟩;rcases Array.mem_push.1 hb' with hb'|hb'
     ·exact .inl ⟨x,hx,hb',hk⟩
     ·right
      have hxe:x=e:=by
       have hinj:∀l:List MapEntry,(l.map (·.born)).Nodup→x∈l→e∈l→x.born=e.born→x=e:=by
        intro l;induction l with
        |nil=>intro _ h;cases h
        |cons a l ih=>
         intro hn hx' he' hb2;rw[List.map_cons,List.nodup_cons] at hn;rcases List.mem_cons.1 hx' with rfl|hx'
         ·rcases List.mem_cons.1 he' with rfl|he'
          ·rfl
          ·exact absurd (hb2▸y2f.2 ⟨e,he',rfl⟩) hn.1
         ·rcases List.mem_cons.1 he' with he2|he'
          ·exact absurd (by rw[←he2,←hb2];exact y2f.2 ⟨x,hx',rfl⟩) hn.1
          ·exact ih hn.2 hx' he' hb2
       exact hinj es.toList h2 hx hmem.1 hb'
      subst hxe;rw[hks] at hk;injection hk with hk;exact hk.symm
    ·rintro(⟨x,hx,hb',hk⟩|rfl)
     ·exact⟨x,hx,Array.mem_push.2 (.inl hb'),hk⟩
     ·exact⟨e,hmem.1,Array.mem_push.2 (.inr rfl),hks⟩
  ·have hg1:w.grownBy w1 (some r):=by rcases hw1 with rfl|rfl<;>exact⟨rfl,rfl,rfl,y1j _,fun _ _ _=>rfl⟩
   refine⟨hg1.os,hg1.tape,hg1.output,by simp[ChangeMaps.setBlock,hw1h],fun k hk hne=>?_⟩;simp only[ChangeMaps.setBlock];rw[Array.getElem?_setIfInBounds_ne (fun e=>hne (by rw[e])),hw1h]
end
end Go.Proofs.YtlfmlodanoolhaaGreatDoor
