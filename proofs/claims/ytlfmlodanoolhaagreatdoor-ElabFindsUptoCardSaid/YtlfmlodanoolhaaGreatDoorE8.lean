import Derived.Maps.AppendAt
import Derived.OwnWalk
import Derived.Test.YtlfmlodanoolhaaGreatDoorE4
set_option linter.all false
set_option maxRecDepth 200000
set_option maxHeartbeats 32000000
namespace Go.Proofs.YtlfmlodanoolhaaGreatDoor
open Go Go.RowKit
def Flat(w:World)(size:Nat)(A:Option Addr)(m:Nat)(news:List Value):Prop:=
 news.length=m*size∧(∀u∈news,u.oneCell'=true)∧(0<m→∃b o,A=some ⟨b,o,none⟩∧Cells w b o news)
theorem Flat.ext{w w':World}{size:Nat}{A:Option Addr}{m:Nat}{news:List Value}(h:Flat w size A m news)(hx:Ext w w'):Flat w' size A m news:=
 ⟨h.1,h.2.1,fun hm=>by obtain⟨b,o,e,hc⟩:=h.2.2 hm;exact⟨b,o,e,hc.ext hx⟩⟩
theorem Flat.none_{w:World}{size:Nat}{A:Option Addr}:Flat w size A 0 []:=⟨by simp,(fun u hu=>nomatch hu),(fun h=>by omega)⟩
theorem z4d(b o j:Nat):(⟨b,o,none⟩:Addr).add j=⟨b,o+j,none⟩:=by
 unfold Addr.add;by_cases h:j=0<;>simp[h]
theorem q3v{P:Program}(w:World)(base:Nat)(t ty e:TypeId)(i:TypeInfo)(z:Value)(size bytes:Nat)(ht:P.underlying t=some (.slice e))(hi:P.info? e=some i)(hz:i.zero=some z)
 (hsize:i.size=size) (hby:i.bytes=bytes) (hzs:z.cells.size=size) (hsz:0<size) (hb:bytes≤1000)
 (v:Value) (n:Nat) (xs:List Value) (hown:w.ownsRow base e size v n xs) (A:Option Addr) (m c:Nat) (news:List Value) (hr:Flat w size A m news)
 (hn:n≤1000000000) (hm:m≤1000000000) (hbase:base≤w.heap.size):
 ∃v' w',(Builtin.append_ #[t,t] ty #[v,.slice A m c]).run P w=.ok v' w'∧w'.ownsRow base e size v' (n+m) (xs++news)∧w.grownBy w' v.ownBlock∧(∀g,v'.ownBlock=some g→v.ownBlock=some g∨w.heap.size≤g):=by
 rcases A with _|ad
 ·have hm0:m=0:=by
   rcases Nat.eq_zero_or_pos m with h0|h0
   ·exact h0
   ·obtain⟨_,_,h,_⟩:=hr.2.2 h0;cases h
  subst hm0;obtain rfl:news=[]:=y1q (by simpa using hr.1);refine⟨v,w,?_,by simpa using hown,World.grownBy.refl w _,fun g hg=>.inl hg⟩;rcases hown.2 with⟨rfl,rfl⟩|⟨g,cap,cur,rfl,_,_,hnc,_⟩<;>simp[Builtin.append_,run_underlying ht,sizeOf,typeInfo,hi,Builtin.lenOf,Builtin.firstCells,storeCells, *]
 ·have hcells:∀j u,news[j]? =some u→w.cell? (ad.add j)=some u:=by
   intro j u hu;rcases Nat.eq_zero_or_pos m with h0|h0
   ·subst h0;obtain rfl:news=[]:=y1q (by simpa using hr.1);simp at hu
   ·obtain⟨b,o,h,hc⟩:=hr.2.2 h0;injection h with h;subst h;rw[z4d];exact hc j u hu
  have hbytes:(n+m)*bytes≤140737488355328:=by
   calc (n+m)*bytes≤2000000000*1000:=Nat.mul_le_mul (by omega) hb
    _≤140737488355328:=by decide
  obtain⟨v',w',hrun,h2,h3,_,h5⟩:=run_append_own_at (P:=P) w base t ty e i z size bytes ht hi hz hsize hby hzs hsz v n xs hown ad m c news hr.1 hcells hr.2.1 (by simp only[maxLen];omega) hbytes hbase;refine⟨v',w',hrun,h2,h3,fun g hg=>?_⟩;rcases h5 with h5|h5
  ·exact .inl (h5▸hg)
  ·rw[h5] at hg;exact .inr (by injection hg with hg;omega)
theorem z1b{P:Program}{w:World}{ops:Array Oper}{rest:List Oper}{o:Oper}{a:Act}{Q:Exit→Act→World→Prop}(hgd:o.guard=none)(s x:Operand)(t:TypeId)
 (ho:o.op=.call {callee:=.builtin .append,args:=#[s,x],argTypes:=#[t,t]})
 (base:Nat) (e:TypeId) (i:TypeInfo) (z:Value) (size bytes:Nat) (ht:P.underlying t=some (.slice e)) (hi:P.info? e=some i) (hz:i.zero=some z)
 (hsize:i.size=size) (hby:i.bytes=bytes) (hzs:z.cells.size=size) (hsz:0<size) (hb:bytes≤1000)
 (v:Value) (n:Nat) (xs:List Value) (hs:a.eval s=v) (hown:w.ownsRow base e size v n xs)
 (A:Option Addr) (m c:Nat) (news:List Value) (hx:a.eval x=.slice A m c) (hr:Flat w size A m news)
 (hn:n≤1000000000) (hm:m≤1000000000) (hbase:base≤w.heap.size)
 (h:∀v' w',w'.ownsRow base e size v' (n+m) (xs++news)→w.grownBy w' v.ownBlock→(∀g,v'.ownBlock=some g→v.ownBlock=some g∨w.heap.size≤g)→wpList P ops Q rest (a.put o.dst v') w'):wpList P ops Q (o::rest) a w:=
 wpList_plain hgd fun _ hK=>by
  obtain⟨v',w',hrun,h2,h3,h4⟩:=q3v (P:=P) w base t o.type e i z size bytes ht hi hz hsize hby hzs hsz hb v n xs hown A m c news hr hn hm hbase;unfold Oper.wp execOp;simp only[ho,resolve,invoke,builtin,Sem.run_bind,Sem.run_pure,Result.andThen_ok,List.map_toArray,List.map_cons,List.map_nil,hs,hx,hrun];exact hK _ _ (h v' w' h2 h3 h4)
theorem Row.flat{α:Type}{R:α→List Value→Prop}{w:World}{B sz:Nat}{l:List α}{a:Option Addr}(h:Row R w B sz l a):
 ∃news:List Value,Flat w sz a l.length news∧∀k,(hk:k<l.length)→R l[k] ((news.drop (k*sz)).take sz):=by
 suffices H:∀n,n≤l.length→∃news:List Value,Flat w sz a n news∧∀k,(hk:k<l.length)→k<n→R l[k] ((news.drop (k*sz)).take sz) by
  obtain⟨news,h1,h2⟩:=H l.length (y1j _);exact⟨news,h1,fun k hk=>h2 k hk hk⟩
 intro n;induction n with
 |zero=>intro _;exact⟨[],Flat.none_,fun k _ hk=>by omega⟩
 |succ n ih=>
  intro hn;obtain⟨news,⟨hl,h1,hc⟩,hR⟩:=ih (by omega);obtain⟨b,o,cs,ha,hb,hcl,hC,ho,hRn⟩:=h n (by omega);refine⟨news++cs,⟨by rw[List.length_append,hl,hcl,Nat.succ_mul],fun u hu=>(y2e.1 hu).elim (h1 u) (ho u),fun _=>⟨b,o,ha,fun j u hu=>?_⟩⟩,fun k hk hkn=>?_⟩
  ·rcases Nat.lt_or_ge j news.length with hj|hj
   ·rw[List.getElem?_append_left hj] at hu;have hn0:0<n:=by
     rcases Nat.eq_zero_or_pos n with h0|h0
     ·subst h0;simp at hl;rw[hl] at hj;simp at hj
     ·exact h0
    obtain⟨b',o',ha',hC'⟩:=hc hn0;rw[ha] at ha';simp only[Option.some.injEq,Addr.mk.injEq,and_true] at ha';obtain⟨rfl,rfl⟩:=ha';exact hC' j u hu
   ·rw[List.getElem?_append_right hj,hl] at hu;have:=hC (j - n*sz) u hu;rwa[show o+n*sz+(j - n*sz)=o+j by omega] at this
  ·have hks:k*sz+sz≤(n+1)*sz:=by
    have:=Nat.mul_le_mul_right sz (show k+1≤n+1 by omega);rwa[Nat.succ_mul] at this
   rcases Nat.lt_or_ge k n with hkn'|hkn'
   ·have hks:k*sz+sz≤n*sz:=by
     have:=Nat.mul_le_mul_right sz (show k+1≤n by omega);rwa[Nat.succ_mul] at this
    rw[List.drop_append_of_le_length (by omega),List.take_append_of_le_length (by rw[List.length_drop];omega)];exact hR k hk hkn'
   ·obtain rfl:k=n:=by omega
    rw[←hl,List.drop_left,←hcl,List.take_length];exact hRn
theorem Sl.of_own{α:Type}{R:α→List Value→Prop}{w:World}{base sz:Nat}{e:TypeId}{l:List α}{v:Value}{xs:List Value}(hsz:0<sz)(h:w.ownsRow base e sz v l.length xs)(h1:∀u∈xs,u.oneCell'=true)
 (hR:∀k,(hk:k<l.length)→R l[k] ((xs.drop (k*sz)).take sz)):Sl R w w.heap.size sz l v:=by
 have hlen:=h.1;rcases h.2 with⟨rfl,h0⟩|⟨g,cap,cur,rfl,_,hg,hn,hm,hcur,htake⟩
 ·obtain rfl:l=[]:=y1q h0;exact y2c
 ·refine⟨_,cap,rfl,hn,fun k hk=>?_⟩;have hks:k*sz+sz≤l.length*sz:=by
   have:=Nat.mul_le_mul_right sz (show k+1≤l.length by omega);rwa[Nat.succ_mul] at this
  refine⟨g,0,(xs.drop (k*sz)).take sz,rfl,(y1n.1 hg).1,by rw[List.length_take,List.length_drop,hlen];omega,fun j u hu=>?_,fun u hu=>h1 u (List.mem_of_mem_drop (List.mem_of_mem_take hu)),hR k hk⟩;have hj:j<sz:=by
   rcases Nat.lt_or_ge j sz with hj|hj
   ·exact hj
   ·rw[List.getElem?_eq_none (by rw[List.length_take];omega)] at hu;cases hu
  rw[List.getElem?_take_of_lt hj,List.getElem?_drop] at hu;have:=h.cells (g:=g) rfl (k*sz+j) u hu;rw[z4d] at this;simpa using this
end Go.Proofs.YtlfmlodanoolhaaGreatDoor
