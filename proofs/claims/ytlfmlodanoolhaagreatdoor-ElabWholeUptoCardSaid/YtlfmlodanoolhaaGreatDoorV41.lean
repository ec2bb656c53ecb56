import Derived.Laws.OwnMore
import Derived.Test.YtlfmlodanoolhaaGreatDoorV37
set_option linter.all false
set_option maxRecDepth 200000
set_option maxHeartbeats 0
namespace Go.Proofs.YtlfmlodanoolhaaGreatDoor
open Go Go.RowKit
def zT:List Value:=[.int .i64 0,.int .i64 0,.int .i64 0,.int .i64 0,.slice none 0 0,.slice none 0 0]
structure OwnZ(N:Nat)(l:List DT)(g cap:Nat)(w:World):Prop where
 ex:∃xs,w.ownsRow N 73 6 (.slice (some ⟨g,0,none⟩) (l.length+1) cap) (l.length+1) (xs++zT)/\xs.length=l.length*6/\Fl (RT9 (λb=>N<=b/\b≠g) w) 6 l xs
 base:N<=g
theorem nj{P:Program}{w:World}{ops:Array Oper}{D:List Oper}{o:Oper}{a:Act}{Q:Exit->Act->World->Prop}(M:o.guard=none)(s x:Operand)(t:TypeId)
 (S:o.op=.call {callee:=.builtin .append,args:=#[s,x],argTypes:=#[t,t]})
 (f:Nat) (z:Value) (bytes:Nat) (hi:(P.info? 73).map (λr=>(r.zero,r.size,r.bytes))=some (some z,6,bytes)) (ht:P.underlying t=some (.slice 73))
 (Z:z.cells.size=6) (m:bytes<=1000)
 (l:List DT) (v:Value) (U:a.eval s=v) (C:OwnT f l v w)
 (B:Nat) (u:Nat) (p:a.eval x=.slice (some ⟨B,0,none⟩) 1 u) (T:Blk w B 73 zT)
 (R:l.length<=1000000000) (I:f<=w.heap.size)
 (h:∀b i g,OwnZ f l b i g->w.grownBy g v.ownBlock->(∀b,v.ownBlock=some b->f<=b)->(v.ownBlock=some b\/w.heap.size<=b)->wpList P ops Q D (a.put o.dst (.slice (some ⟨b,0,none⟩) (l.length+1) i)) g):wpList P ops Q (o::D) a w:=by
 obtain⟨F,y,G⟩:=C.ex;obtain⟨a2,W,Y,X,V⟩:=info_parts hi;have L:Flat w 6 (some ⟨B,0,none⟩) 1 zT:=⟨rfl,(by intro E k;simp[zT] at k;rcases k with rfl|rfl<;>rfl),λ_=>⟨B,0,rfl,λa0 E k=>by
  have:=T.cells a0 E k;simpa using this⟩⟩
 have O:=C.lt;refine gu M s x t S f _ a2 z 6 bytes ht W Y X V Z zD m v l.length F U y (some ⟨B,0,none⟩) 1 u zT p L R zD I ?_;intro a3 g n d K;obtain⟨b,i,rfl⟩:=ownsRow_succ n;have J:Chg (λc=>v.ownBlock=some c) w g:=⟨d.os,d.tape,d.output,d.size,λa1 N p=>d.block a1 N λe=>p e.symm⟩;have A:=K b rfl;have H:∀x j,RT9 (λc=>f<=c/\v.ownBlock≠some c) w x j->RT9 (λc=>f<=c/\c≠b) g x j:=λx j=>
  RT9.turn J (λc m q=>⟨q.2,q.1,λe=>by
   subst e;rcases A with h|h
   ·exact q.2 h
   ·have:=m.elim Tag.lt Tag.lt;omega⟩) x j
 exact h b i g ⟨⟨F,n,y.1,G.imp H⟩,(n.lt b rfl).1⟩ d (λb d=>(O b d).1) A
theorem OwnZ.cell{b:Nat}{l:List DT}{g c:Nat}{w:World}(h:OwnZ b l g c w)(i:Nat)(hi:i<6):w.cell? ⟨g,l.length*6+i,none⟩=zT[i]?/\w.frozen? ⟨g,l.length*6+i,none⟩=false:=by
 obtain⟨e,a,d,-⟩:=h.ex;refine⟨?_,a.frozenAt _⟩;rw[a.cellAt _ zO,List.getElem?_append_right zO,d,Nat.add_sub_cancel_left]
theorem gV{xs a:List Value}{j:Nat}{u:Value}(h:xs.length<=j):(xs++a).set j u=xs++a.set (j - xs.length) u:=by
 rw[List.set_append,if_neg zO]
theorem OwnZ.fill{b:Nat}{l:List DT}{g d:Nat}{w:World}(h:OwnZ b l g d w){n:DT}{u0 u1 u2 u3 u4 u5:Value}(i:RT9 (λa=>b<=a/\a≠g) w n [u0,u1,u2,u3,u4,u5]):
 OwnT b (l++[n]) (.slice (some ⟨g,0,none⟩) (l.length+1) d) ((((((w.setCell ⟨g,l.length*6,none⟩ u0).setCell ⟨g,l.length*6+1,none⟩ u1).setCell ⟨g,l.length*6+2,none⟩ u2).setCell ⟨g,l.length*6+3,none⟩ u3).setCell ⟨g,l.length*6+4,none⟩ u4).setCell ⟨g,l.length*6+5,none⟩ u5):=by
 obtain⟨m,o,q,r⟩:=h.ex
 have s:Chg (λa=>a=g) w ((((((w.setCell ⟨g,l.length*6,none⟩ u0).setCell ⟨g,l.length*6+1,none⟩ u1).setCell ⟨g,l.length*6+2,none⟩ u2).setCell ⟨g,l.length*6+3,none⟩ u3).setCell ⟨g,l.length*6+4,none⟩ u4).setCell ⟨g,l.length*6+5,none⟩ u5):=
  (((((dk (X:=λa=>a=g) (bg _ w) (p:=⟨g,_,none⟩) rfl _).setCell (p:=⟨g,_,none⟩) rfl _).setCell (p:=⟨g,_,none⟩) rfl _).setCell (p:=⟨g,_,none⟩) rfl _).setCell (p:=⟨g,_,none⟩) rfl _).setCell (p:=⟨g,_,none⟩) rfl _
 have j:∀x c,RT9 (λa=>b<=a/\a≠g) w x c->RT9 (λa=>b<=a/\(Value.slice (some ⟨g,0,none⟩) (l.length+1) d).ownBlock≠some a) _ x c:=λx c=>
  RT9.turn s (λa _ f=>⟨f.2,f.1,λe=>f.2 (by simpa [Value.ownBlock] using e.symm)⟩) x c
 have k:=((((((o.stored (l.length*6) u0).1.stored (l.length*6+1) u1).1.stored (l.length*6+2) u2).1.stored (l.length*6+3) u3).1.stored (l.length*6+4) u4).1.stored (l.length*6+5) u5).1;have e:(((((((m++zT).set (l.length*6) u0).set (l.length*6+1) u1).set (l.length*6+2) u2).set (l.length*6+3) u3).set (l.length*6+4) u4).set (l.length*6+5) u5)=m++[u0,u1,u2,u3,u4,u5]:=by
  simp only[<-q];rw[gV (Nat.le_refl _),gV zO,gV zO,gV zO,gV zO,gV zO];simp[zT]
 rw[e] at k;refine⟨_,by rw[List.length_append];exact k,(r.imp j).append (Fl.one_ i.len i.one (j _ _ i))⟩
def QK(b:Act->World->Prop)(Q:Exit->Act->World->Prop):Exit->Act->World->Prop
 |.normal,a,w=>b a w
 |e,a,w=>Q e a w
section
variable {P : Program} {ops : Array Oper} {Q : Exit → Act → World → Prop}
theorem Cf{i:Nat}{o:Oper}{b:Act->World->Prop}{a:Act}{w:World}(hi:ops[i]? =some o)(h:wpList P ops (QK b Q) [o] a w):wpOp P ops Q i b a w:=by
 unfold wpOp;rw[hi];unfold wpList at h;simp only;split
 ·rename_i d
  rw[if_pos d] at h;rcases h with h|⟨h,f,k,c⟩
  ·exact .inl (Oper.wp_mono (λl m g=>g) (Oper.wp_exits (Q:=QK b Q) (λe a w j c=>by cases e<;>first|exact c|exact absurd rfl j) h))
  ·exact .inr ⟨h,f,k,c⟩
 ·rename_i d
  rw[if_neg d] at h;exact h
theorem rY{i b:Nat}{o:Oper}{listed:Array Bool}{a:Act}{w:World}(d:Region.ready .any ops listed=[i])(hi:ops[i]? =some o)(h:wpList P ops (QK (λa w=>wpAny P .any ops Q b (listed.setIfInBounds i true) a w) Q) [o] a w):wpAny P .any ops Q (b+1) listed a w:=
 ⟨(λc=>by rw[d] at c;cases c),(λf e=>by
   rw[d] at e;obtain rfl:f=i:=by simpa using e
   exact Cf hi h)⟩
theorem jS{i j:Nat}{o c:Oper}{a:Act}{w:World}(hi:ops[i]? =some o)(k:ops[j]? =some c)(h:wpList P ops Q [o,c] a w):wpOp P ops Q i (λa' f=>wpOp P ops Q j (λd g=>Q .normal d g) a' f) a w:=by
 unfold wpOp;rw[hi];simp only[k];unfold wpList at h;have e:∀a w,wpList P ops Q [c] a w->(if Region.wanted c (yielded ops a.tmps)=true then c.wp P a w (λd g=>Q .normal d g) Q\/(c.asks P a w/\LetsOut Q) else Q .normal (a.put c.dst undef) w):=λa w h=>by
  unfold wpList at h;split
  ·rename_i b;rw[if_pos b] at h;exact h
  ·rename_i b;rw[if_neg b] at h;exact h
 split
 ·rename_i b
  rw[if_pos b] at h;rcases h with h|h
  ·exact .inl (Oper.wp_mono (λa' f l=>e a' f l) h)
  ·exact .inr h
 ·rename_i b
  rw[if_neg b] at h;exact e _ _ h
end
