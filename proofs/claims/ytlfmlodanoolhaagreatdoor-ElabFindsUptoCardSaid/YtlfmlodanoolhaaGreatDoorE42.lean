import Derived.Laws.OwnMore
import Derived.Test.YtlfmlodanoolhaaGreatDoorE39
import Derived.Test.YtlfmlodanoolhaaGreatDoorE6
set_option linter.all false
set_option maxRecDepth 200000
set_option maxHeartbeats 32000000
namespace Go.Proofs.YtlfmlodanoolhaaGreatDoor
open Go Go.RowKit
def zT:List Value:=[.int .i64 0,.int .i64 0,.int .i64 0,.int .i64 0,.slice none 0 0,.slice none 0 0]
structure OwnZ(N:Nat)(l:List DT)(g cap:Nat)(w:World):Prop where
 ex:∃xs,w.ownsRow N 73 6 (.slice (some ⟨g,0,none⟩) (l.length+1) cap) (l.length+1) (xs++zT)∧xs.length=l.length*6∧Fl (RT9 (fun b=>N≤b∧b≠g) w) 6 l xs
 base:N≤g
theorem z7y{P:Program}{w:World}{ops:Array Oper}{rest:List Oper}{o:Oper}{a:Act}{Q:Exit→Act→World→Prop}(hgd:o.guard=none)(s x:Operand)(t:TypeId)
 (ho:o.op=.call {callee:=.builtin .append,args:=#[s,x],argTypes:=#[t,t]})
 (N:Nat) (z:Value) (bytes:Nat) (hi:(P.info? 73).map (fun i=>(i.zero,i.size,i.bytes))=some (some z,6,bytes)) (ht:P.underlying t=some (.slice 73))
 (hzs:z.cells.size=6) (hb:bytes≤1000)
 (l:List DT) (v:Value) (hs:a.eval s=v) (hown:OwnT N l v w)
 (B:Nat) (c:Nat) (hx:a.eval x=.slice (some ⟨B,0,none⟩) 1 c) (hr:Blk w B 73 zT)
 (hn:l.length≤1000000000) (hbase:N≤w.heap.size)
 (h:∀g cap w',OwnZ N l g cap w'→w.grownBy w' v.ownBlock→(∀g,v.ownBlock=some g→N≤g)→(v.ownBlock=some g∨w.heap.size≤g)→wpList P ops Q rest (a.put o.dst (.slice (some ⟨g,0,none⟩) (l.length+1) cap)) w'):wpList P ops Q (o::rest) a w:=by
 obtain⟨xs,h1,h2⟩:=hown.ex;obtain⟨ti,hti,htz,hts,htb⟩:=info_parts hi;have hfl:Flat w 6 (some ⟨B,0,none⟩) 1 zT:=⟨rfl,(by intro u hu;simp[zT] at hu;rcases hu with rfl|rfl<;>rfl),fun _=>⟨B,0,rfl,fun j u hu=>by
  have:=hr.cells j u hu;simpa using this⟩⟩
 have hlt:=hown.lt;refine z1b hgd s x t ho N _ ti z 6 bytes ht hti htz hts htb hzs (by decide) hb v l.length xs hs h1 (some ⟨B,0,none⟩) 1 c zT hx hfl hn (by decide) hbase ?_;intro v' w' hown' hg hf;obtain⟨g,cap,rfl⟩:=ownsRow_succ hown';have hc:Chg (fun b=>v.ownBlock=some b) w w':=⟨hg.os,hg.tape,hg.output,hg.size,fun k hk hx=>hg.block k hk fun e=>hx e.symm⟩;have hfg:=hf g rfl;have hT:∀x cs,RT9 (fun b=>N≤b∧v.ownBlock≠some b) w x cs→RT9 (fun b=>N≤b∧b≠g) w' x cs:=fun x cs=>
  RT9.turn hc (fun b hb hy=>⟨hy.2,hy.1,fun e=>by
   subst e;rcases hfg with h|h
   ·exact hy.2 h
   ·have:=hb.elim Tag.lt Tag.lt;omega⟩) x cs
 exact h g cap w' ⟨⟨xs,hown',h1.1,h2.imp hT⟩,(hown'.lt g rfl).1⟩ hg (fun g hg=>(hlt g hg).1) hfg
theorem OwnZ.cell{N:Nat}{l:List DT}{g cap:Nat}{w:World}(h:OwnZ N l g cap w)(i:Nat)(hi:i<6):w.cell? ⟨g,l.length*6+i,none⟩=zT[i]?∧w.frozen? ⟨g,l.length*6+i,none⟩=false:=by
 obtain⟨xs,h1,h2,-⟩:=h.ex;refine⟨?_,h1.frozenAt _⟩;rw[h1.cellAt _ (by omega),List.getElem?_append_right (by omega),h2,Nat.add_sub_cancel_left]
theorem z5c{xs ys:List Value}{j:Nat}{u:Value}(h:xs.length≤j):(xs++ys).set j u=xs++ys.set (j - xs.length) u:=by
 rw[List.set_append,if_neg (by omega)]
theorem OwnZ.fill{N:Nat}{l:List DT}{g cap:Nat}{w:World}(h:OwnZ N l g cap w){y:DT}{u0 u1 u2 u3 u4 u5:Value}(hy:RT9 (fun b=>N≤b∧b≠g) w y [u0,u1,u2,u3,u4,u5]):
 OwnT N (l++[y]) (.slice (some ⟨g,0,none⟩) (l.length+1) cap) ((((((w.setCell ⟨g,l.length*6,none⟩ u0).setCell ⟨g,l.length*6+1,none⟩ u1).setCell ⟨g,l.length*6+2,none⟩ u2).setCell ⟨g,l.length*6+3,none⟩ u3).setCell ⟨g,l.length*6+4,none⟩ u4).setCell ⟨g,l.length*6+5,none⟩ u5):=by
 obtain⟨xs,h1,h2,h3⟩:=h.ex
 have hc:Chg (fun b=>b=g) w ((((((w.setCell ⟨g,l.length*6,none⟩ u0).setCell ⟨g,l.length*6+1,none⟩ u1).setCell ⟨g,l.length*6+2,none⟩ u2).setCell ⟨g,l.length*6+3,none⟩ u3).setCell ⟨g,l.length*6+4,none⟩ u4).setCell ⟨g,l.length*6+5,none⟩ u5):=
  (((((y1y (X:=fun b=>b=g) (y1u _ w) (p:=⟨g,_,none⟩) rfl _).setCell (p:=⟨g,_,none⟩) rfl _).setCell (p:=⟨g,_,none⟩) rfl _).setCell (p:=⟨g,_,none⟩) rfl _).setCell (p:=⟨g,_,none⟩) rfl _).setCell (p:=⟨g,_,none⟩) rfl _
 have hT:∀x cs,RT9 (fun b=>N≤b∧b≠g) w x cs→RT9 (fun b=>N≤b∧(Value.slice (some ⟨g,0,none⟩) (l.length+1) cap).ownBlock≠some b) _ x cs:=fun x cs=>
  RT9.turn hc (fun b _ hb=>⟨hb.2,hb.1,fun e=>hb.2 (by simpa [Value.ownBlock] using e.symm)⟩) x cs
 have key:=((((((h1.stored (l.length*6) u0).1.stored (l.length*6+1) u1).1.stored (l.length*6+2) u2).1.stored (l.length*6+3) u3).1.stored (l.length*6+4) u4).1.stored (l.length*6+5) u5).1;have e:(((((((xs++zT).set (l.length*6) u0).set (l.length*6+1) u1).set (l.length*6+2) u2).set (l.length*6+3) u3).set (l.length*6+4) u4).set (l.length*6+5) u5)=xs++[u0,u1,u2,u3,u4,u5]:=by
  simp only[←h2];rw[z5c (Nat.le_refl _),z5c (by omega),z5c (by omega),z5c (by omega),z5c (by omega),z5c (by omega)];simp[zT]
 rw[e] at key;refine⟨_,by rw[List.length_append];exact key,(h3.imp hT).append (Fl.one_ hy.len hy.one (hT _ _ hy))⟩
def QK(K:Act→World→Prop)(Q:Exit→Act→World→Prop):Exit→Act→World→Prop
 |.normal,a,w=>K a w
 |e,a,w=>Q e a w
section
variable {P : Program} {ops : Array Oper} {Q : Exit → Act → World → Prop}
theorem q7s{i:Nat}{o:Oper}{K:Act→World→Prop}{a:Act}{w:World}(hi:ops[i]? =some o)(h:wpList P ops (QK K Q) [o] a w):wpOp P ops Q i K a w:=by
 unfold wpOp;rw[hi];unfold wpList at h;simp only;split
 ·rename_i hw
  rw[if_pos hw] at h;rcases h with h|⟨h,a0,w0,hq⟩
  ·exact .inl (Oper.wp_mono (fun a' w' hk=>hk) (Oper.wp_exits (Q:=QK K Q) (fun e a w hne hq=>by cases e<;>first|exact hq|exact absurd rfl hne) h))
  ·exact .inr ⟨h,a0,w0,hq⟩
 ·rename_i hw
  rw[if_neg hw] at h;exact h
theorem q7u{i fuel:Nat}{o:Oper}{listed:Array Bool}{a:Act}{w:World}(hr:Region.ready .any ops listed=[i])(hi:ops[i]? =some o)(h:wpList P ops (QK (fun a w=>wpAny P .any ops Q fuel (listed.setIfInBounds i true) a w) Q) [o] a w):wpAny P .any ops Q (fuel+1) listed a w:=
 ⟨(fun h0=>by rw[hr] at h0;cases h0),(fun z hz=>by
   rw[hr] at hz;obtain rfl:z=i:=by simpa using hz
   exact q7s hi h)⟩
theorem q3a{i j:Nat}{o o':Oper}{a:Act}{w:World}(hi:ops[i]? =some o)(hj:ops[j]? =some o')(h:wpList P ops Q [o,o'] a w):wpOp P ops Q i (fun a' w'=>wpOp P ops Q j (fun a'' w''=>Q .normal a'' w'') a' w') a w:=by
 unfold wpOp;rw[hi];simp only[hj];unfold wpList at h;have e:∀a w,wpList P ops Q [o'] a w→(if Region.wanted o' (yielded ops a.tmps)=true then o'.wp P a w (fun a'' w''=>Q .normal a'' w'') Q∨(o'.asks P a w∧LetsOut Q) else Q .normal (a.put o'.dst undef) w):=fun a w h=>by
  unfold wpList at h;split
  ·rename_i hw;rw[if_pos hw] at h;exact h
  ·rename_i hw;rw[if_neg hw] at h;exact h
 split
 ·rename_i hw
  rw[if_pos hw] at h;rcases h with h|h
  ·exact .inl (Oper.wp_mono (fun a' w' hk=>e a' w' hk) h)
  ·exact .inr h
 ·rename_i hw
  rw[if_neg hw] at h;exact e _ _ h
end
end Go.Proofs.YtlfmlodanoolhaaGreatDoor
