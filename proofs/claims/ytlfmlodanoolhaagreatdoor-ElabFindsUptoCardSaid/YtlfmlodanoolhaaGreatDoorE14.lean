import Derived.Test.YtlfmlodanoolhaaGreatDoorE8
import Derived.Test.YtlfmlodanoolhaaGreatDoorE13
set_option linter.all false
set_option maxRecDepth 200000
set_option maxHeartbeats 32000000
namespace Go.Proofs.YtlfmlodanoolhaaGreatDoor
open Go Go.RowKit
structure Fl{α:Type}(R:α→List Value→Prop)(sz:Nat)(l:List α)(xs:List Value):Prop where
 len:xs.length=l.length*sz
 one:∀u∈xs,u.oneCell'=true
 rel:∀k (h:k<l.length),R l[k] ((xs.drop (k*sz)).take sz)
theorem Fl.nil{α:Type}{R:α→List Value→Prop}{sz:Nat}:Fl R sz [] []:=⟨by simp,(fun u h=>nomatch h),fun k h=>by cases h⟩
theorem Fl.append{α:Type}{R:α→List Value→Prop}{sz:Nat}{l r:List α}{xs ys:List Value}(h:Fl R sz l xs)(k:Fl R sz r ys):Fl R sz (l++r) (xs++ys):=by
 refine⟨by rw[List.length_append,List.length_append,h.len,k.len,Nat.add_mul],fun u hu=>(y2e.1 hu).elim (h.one u) (k.one u),fun j hj=>?_⟩;have hl:=h.len;rw[List.length_append] at hj;by_cases hlt:j<l.length
 ·have hks:j*sz+sz≤l.length*sz:=by
   have:=Nat.mul_le_mul_right sz (show j+1≤l.length by omega);rwa[Nat.succ_mul] at this
  rw[List.getElem_append_left hlt,List.drop_append_of_le_length (by omega),List.take_append_of_le_length (by rw[List.length_drop];omega)];exact h.rel j hlt
 ·obtain⟨i,rfl⟩:∃i,j=l.length+i:=⟨j - l.length,by omega⟩;rw[List.getElem_append_right (by omega),show(l.length+i)*sz=xs.length+i*sz by rw[hl,Nat.add_mul],←List.drop_drop,List.drop_left];simp only[Nat.add_sub_cancel_left];exact k.rel i (by omega)
theorem Fl.one_{α:Type}{R:α→List Value→Prop}{sz:Nat}{x:α}{cs:List Value}(hl:cs.length=sz)(h1:∀u∈cs,u.oneCell'=true)(hr:R x cs):Fl R sz [x] cs:=by
 refine⟨by simpa using hl,h1,fun k hk=>?_⟩;obtain rfl:k=0:=by simp at hk;omega
 rw[Nat.zero_mul,List.drop_zero,←hl,List.take_length];exact hr
theorem Fl.imp{α:Type}{R R':α→List Value→Prop}{sz:Nat}{l:List α}{xs:List Value}(h:Fl R sz l xs)(hR:∀x cs,R x cs→R' x cs):Fl R' sz l xs:=⟨h.len,h.one,fun k hk=>hR _ _ (h.rel k hk)⟩
theorem Sl.fl{α:Type}{R:α→List Value→Prop}{w:World}{B sz:Nat}{l:List α}{v:Value}(h:Sl R w B sz l v):∃a cap xs,v=.slice a l.length cap∧Flat w sz a l.length xs∧Fl R sz l xs:=by
 obtain⟨a,cap,rfl,-,hr⟩:=h;obtain⟨xs,h1,h2⟩:=hr.flat;exact⟨a,cap,xs,rfl,h1,h1.1,h1.2.1,h2⟩
structure OwnL{α:Type}(R:α→List Value→Prop)(base:Nat)(e:TypeId)(sz:Nat)(l:List α)(v:Value)(X:World):Prop where
 ex:∃xs,X.ownsRow base e sz v l.length xs∧Fl R sz l xs
theorem OwnL.form{α:Type}{R:α→List Value→Prop}{base:Nat}{e:TypeId}{sz:Nat}{l:List α}{v:Value}{X:World}(h:OwnL R base e sz l v X):∃a cap,v=.slice a l.length cap:=by
 obtain⟨xs,h,-⟩:=h.ex;rcases h.2 with⟨rfl,h0⟩|⟨g,cap,cur,rfl,-⟩
 ·exact⟨none,0,by rw[h0]⟩
 ·exact⟨_,_,rfl⟩
theorem OwnL.later{α:Type}{R:α→List Value→Prop}{base:Nat}{e:TypeId}{sz:Nat}{l:List α}{v:Value}{X Y:World}(h:OwnL R base e sz l v X)(hx:Ext X Y):OwnL R base e sz l v Y:=by
 obtain⟨xs,h1,h2⟩:=h.ex;exact⟨xs,h1.kept (Ext.grow hx) (by cases v.ownBlock<;>simp),h2⟩
theorem OwnL.none_{α:Type}{R:α→List Value→Prop}{base:Nat}{e:TypeId}{sz:Nat}{X:World}:OwnL R base e sz ([]:List α) (.slice none 0 0) X:=⟨[],World.ownsRow_nil _ _ _ _,Fl.nil⟩
theorem OwnL.new{α:Type}{R:α→List Value→Prop}(w:World)(e:TypeId){sz:Nat}:OwnL R w.heap.size e sz ([]:List α) (.slice (some ⟨w.heap.size,0,none⟩) 0 0) (w.alloc (.cells #[] e)):=
 ⟨[],⟨by simp,.inr ⟨w.heap.size,0,#[],rfl,y1j _,y1w _ _ [],y1j _,by decide,by simp,by simp⟩⟩,Fl.nil⟩
theorem OwnL.sl{α:Type}{R:α→List Value→Prop}{base:Nat}{e:TypeId}{sz:Nat}{l:List α}{v:Value}{X:World}(hsz:0<sz)(h:OwnL R base e sz l v X):Sl R X X.heap.size sz l v:=by
 obtain⟨xs,h1,h2⟩:=h.ex;exact Sl.of_own hsz h1 h2.one h2.rel
theorem OwnL.imp{α:Type}{R R':α→List Value→Prop}{base:Nat}{e:TypeId}{sz:Nat}{l:List α}{v:Value}{X:World}(h:OwnL R base e sz l v X)(hR:∀x cs,R x cs→R' x cs):OwnL R' base e sz l v X:=by
 obtain⟨xs,h1,h2⟩:=h.ex;exact⟨xs,h1,h2.imp hR⟩
theorem OwnL.lt{α:Type}{R:α→List Value→Prop}{base:Nat}{e:TypeId}{sz:Nat}{l:List α}{v:Value}{X:World}(h:OwnL R base e sz l v X):∀g,v.ownBlock=some g→base≤g∧g<X.heap.size:=by
 obtain⟨xs,h1,-⟩:=h.ex;exact fun g hg=>h1.lt g hg
theorem q6g{w w':World}{r:Option Nat}{g:Nat}{t:TypeId}{cs:List Value}(hb:Blk w g t cs)(hg:w.grownBy w' r)(hr:∀b,r=some b→b≠g):Blk w' g t cs:=
 (hg.block g hb.lt (fun e=>hr g e.symm rfl)).trans hb
theorem z2x{α:Type}{R:α→List Value→Prop}{P:Program}{w:World}{ops:Array Oper}{rest:List Oper}{o:Oper}{a:Act}{Q:Exit→Act→World→Prop}(hgd:o.guard=none)(s x:Operand)(t:TypeId)
 (ho:o.op=.call {callee:=.builtin .append,args:=#[s,x],argTypes:=#[t,t]})
 (base:Nat) (e:TypeId) (z:Value) (size bytes:Nat) (hi:(P.info? e).map (fun i=>(i.zero,i.size,i.bytes))=some (some z,size,bytes)) (ht:P.underlying t=some (.slice e))
 (hzs:z.cells.size=size) (hsz:0<size) (hb:bytes≤1000)
 (l r:List α) (v:Value) (hs:a.eval s=v) (hown:OwnL R base e size l v w)
 (A:Option Addr) (c:Nat) (ys:List Value) (hx:a.eval x=.slice A r.length c) (hr:Flat w size A r.length ys) (hy:Fl R size r ys)
 (hn:l.length≤1000000000) (hm:r.length≤1000000000) (hbase:base≤w.heap.size)
 (h:∀v' w',OwnL R base e size (l++r) v' w'→w.grownBy w' v.ownBlock→(∀g,v.ownBlock=some g→base≤g)→wpList P ops Q rest (a.put o.dst v') w'):wpList P ops Q (o::rest) a w:=by
 obtain⟨xs,h1,h2⟩:=hown.ex;obtain⟨ti,hti,htz,hts,htb⟩:=info_parts hi;refine z1b hgd s x t ho base e ti z size bytes ht hti htz hts htb hzs hsz hb v l.length xs hs h1 A r.length c ys hx hr hn hm hbase ?_;intro v' w' hown' hg hf;exact h v' w' ⟨xs++ys,by rw[List.length_append];exact hown',h2.append hy⟩ hg fun g hg=>(h1.lt g hg).1
end Go.Proofs.YtlfmlodanoolhaaGreatDoor
