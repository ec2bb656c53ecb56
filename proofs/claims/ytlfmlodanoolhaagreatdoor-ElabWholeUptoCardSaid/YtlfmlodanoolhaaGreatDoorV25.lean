import Derived.Test.YtlfmlodanoolhaaGreatDoorV3
import Derived.Test.YtlfmlodanoolhaaGreatDoorV17
import Derived.Test.YtlfmlodanoolhaaGreatDoorV18
set_option linter.all false
set_option maxRecDepth 200000
set_option maxHeartbeats 0
namespace Go.Proofs.YtlfmlodanoolhaaGreatDoor
open Go Go.RowKit Go.Shelf Go.Proofs.Tryz
attribute [local go_sem] Oper.semAt_some bc
theorem uP{P:Program}{C:Code}{Q:Exit->Act->World->Prop}(f:Nat)(Inv:Nat->Act->World->Prop){a:Act}{w:World}
 (m:∀b a c,Inv b a c->C.wpIn Fence.wide 0 P (Exit.then (λh g=>b<f/\Inv (b+1) h g) Q) a c) (h0:Inv 0 a w):(Code.loop C).wpIn Fence.wide 0 P Q a w:=by
 refine wpIn_loop_rounds (f+1) ?_;have j:∀d b a c,f - b<d->Inv b a c->Code.roundsIn Fence.wide 0 P C Q d a c:=by
  intro d;induction d with
  |zero=>intro b a c l;omega
  |succ d ih=>
   intro b a c l k;rw[roundsIn_succ];refine wpIn_mono (m b a c k) ?_;intro e h g i;cases e with
   |normal=>exact ih (b+1) h g (by have:=i.1;omega) i.2
   |_=>exact i
 exact j (f+1) 0 a w zO h0
abbrev ItC(w0:World)(B:Nat):={a:Itm×List Value // RI w0 B a.1 a.2}
def iC{w0:World}{B:Nat}(x:ItC w0 B):Array Value:=#[.agg x.1.2.toArray]
def RowQ(w0:World)(B:Nat)(W:World)(l:List Itm)(v:Value):Prop:=∃d e,v=.slice d l.length e/\∀c (h:c<l.length),∃a o b,d=some ⟨a,o,none⟩/\(a<B\/∃f g,W.heap[a]? =some (.cells f 37 g))/\b.length=9/\Cells W a (o+c*9) b/\RI w0 B l[c] b
theorem mD:¬eo 37:=by unfold eo;decide
theorem RowQ.kq{w0:World}{B n:Nat}{W f:World}{l:List Itm}{v:Value}(h:RowQ w0 B W l v)(e:Kq B n W f):RowQ w0 B f l v:=by
 obtain⟨m,p,rfl,h⟩:=h;refine⟨m,p,rfl,λu t=>?_⟩;obtain⟨d,o,q,rfl,a,r,g,s⟩:=h u t;refine⟨d,o,q,rfl,?_,r,λj k i=>?_,s⟩
 ·rcases a with a|⟨b,c,a⟩
  ·exact .inl a
  ·exact .inr ⟨b,c,e.cells d b _ c a mD⟩
 ·rcases a with a|⟨b,c,a⟩
  ·exact(e.below.cell a).trans (g j k i)
  ·exact(ek ((e.cells d b _ c a mD).trans a.symm)).trans (g j k i)
theorem RowQ.of_sl{w0 W:World}{B:Nat}{l:List Itm}{v:Value}(h:Sl (RI w0 B) w0 B 9 l v)(g:Below B w0 W):RowQ w0 B W l v:=by
 obtain⟨b,d,rfl,-,m⟩:=h;refine⟨b,d,rfl,λq j=>?_⟩;obtain⟨c,o,e,ha,a,k,i,-,f⟩:=m q j;exact⟨c,o,e,ha,.inl a,k,λp r n=>(g.cell a).trans (i p r n),f⟩
theorem mS{w0:World}{B:Nat}{x:Itm}{a:List Value}(h:RI w0 B x a):∀c∈a,c.oneCell'=true:=by
 obtain⟨k,l,m,n,o,p,rfl,d,e,f,g,i,j⟩:=RI_iff.1 h;intro c b;simp only[List.mem_cons,List.not_mem_nil,or_false] at b;rcases b with rfl|rfl|rfl|rfl|rfl|rfl|rfl|rfl|rfl
 ·rfl
 ·rfl
 ·rfl
 ·exact d.oneCell
 ·exact e.oneCell
 ·exact f.oneCell
 ·exact g.oneCell
 ·exact i.oneCell
 ·exact j.oneCell
theorem qf{w0 W:World}{B:Nat}{l:List Itm}{a:Option Addr}{i:Nat}(h:Sl (RI w0 B) w0 B 9 l (.slice a l.length i))(q:Below B w0 W):
 ∃b:List Value,Flat W 9 a l.length b/\∀k,(A:k<l.length)->RI w0 B l[k] ((b.drop (k*9)).take 9):=by
 obtain⟨x,y,c,-,f⟩:=h;obtain⟨rfl,-,rfl⟩:=Value.slice.inj c;obtain⟨b,⟨j,m,n⟩,p⟩:=Row.flat f;refine⟨b,⟨j,m,λe=>?_⟩,p⟩;obtain⟨d,o,rfl,s⟩:=n e;obtain⟨g,v,z,c,r,-⟩:=f 0 e;obtain⟨rfl,rfl⟩:d=g/\o=v:=by simpa using c
 exact⟨d,o,rfl,λu w t=>(q.cell r).trans (s u w t)⟩
theorem RowQ.of_own{w0 W:World}{B base:Nat}{b c:List Itm}{v:Value}{f g:List Value}(h:W.ownsRow base 37 9 v (b.length+c.length) (f++g))(z:f.length=b.length*9)(A:g.length=c.length*9)
 (o:∀a,(e:a<b.length)->RI w0 B b[a] ((f.drop (a*9)).take 9)) (h2:∀a,(e:a<c.length)->RI w0 B c[a] ((g.drop (a*9)).take 9)):RowQ w0 B W (b++c) v:=by
 rcases h.2 with⟨rfl,s⟩|⟨j,m,n,rfl,-,r,w,u,t,x⟩
 ·obtain rfl:b=[]:=dl zO;obtain rfl:c=[]:=dl zO;exact⟨none,0,rfl,λa e=>absurd e zS⟩
 ·refine⟨some ⟨j,0,none⟩,m,by rw[List.length_append],λa e=>?_⟩;have p:∀d (i:d<(b.length+c.length)*9),W.cell? ⟨j,d,none⟩=(f++g)[d]? :=λd i=>h.cellAt d i
  have q:RI w0 B (b++c)[a] (((f++g).drop (a*9)).take 9):=by
   by_cases k:a<b.length
   ·rw[List.getElem_append_left k,List.drop_append_of_le_length zO,List.take_append_of_le_length (by rw[List.length_drop];omega)];exact o a k
   ·rw[List.length_append] at e;rw[List.getElem_append_right zO,show a*9=f.length+(a - b.length)*9 by omega,List.drop_append];rw[List.drop_eq_nil_of_le zO,List.nil_append,Nat.add_sub_cancel_left];exact h2 (a - b.length) zO
  rw[List.length_append] at e;refine⟨j,0,_,rfl,.inr ⟨n,(0,0),r⟩,by rw[List.length_take,List.length_drop,List.length_append];omega,λd y l=>?_,q⟩;have i:d<9:=by
   have:=(y7t.1 l).1;rw[List.length_take] at this;omega
  rw[Nat.zero_add,p _ zO,<-l,List.getElem?_take,if_pos i,List.getElem?_drop]
theorem rt(v:Value)(c:v.oneCell'=true)(w:World):Calls Tryz.prog 98 #[v] w λe a=>e=.returned (.func (.func 142) #[] #[.pointer (some ⟨w.heap.size,0,none⟩)])/\a=w.alloc (.cells #[v] 28):=by
 have b:=@hmf_ Tryz.prog
 go_in
 go_wp2
 go_ret;exact⟨rfl,rfl⟩
theorem Marks.kq{B n:Nat}{ds:List Deferred}{W b:World}(h:Marks n ds W)(i:Kq B n W b):Marks n ds b:=
 ⟨λd g=>by obtain⟨a,e,c,f⟩:=h.1 d g;exact⟨a,e,c,i.rest a _ f rfl c⟩,h.2⟩
theorem RowQ.below{w0 wc W:World}{B:Nat}{l:List Itm}{v:Value}(h:RowQ w0 B wc l v)(e:Below wc.heap.size wc W)(u:B<=wc.heap.size):RowQ w0 B W l v:=by
 obtain⟨g,i,rfl,h⟩:=h;refine⟨g,i,rfl,λs p=>?_⟩;obtain⟨b,o,j,rfl,a,k,m,n⟩:=h s p;have f:b<wc.heap.size:=by
  rcases a with a|⟨c,d,a⟩
  ·omega
  ·exact(y7n.1 a).1
 refine⟨b,o,j,rfl,?_,k,λr t q=>(e.cell f).trans (m r t q),n⟩;rcases a with a|⟨c,d,a⟩
 ·exact .inl a
 ·exact .inr ⟨c,d,(e.block b f).trans a⟩
theorem Kq.putNew{B n:Nat}{W c:World}(h:Kq B n W c){b:Nat}(i:B<=W.heap.size)(r:W.heap.size<=b)(o:Obj):Kq B n W (c.putObj b o):=by
 refine⟨h.below.grown (grownBy_putObj' c b o) (ad i h.size) (λs e=>by cases e;omega),ad h.size (grownBy_putObj' c b o).size,λd f q g a m=>?_,λd p a l k=>?_⟩
 ·have j:=(y7n.1 a).1;exact(World.putObj_heap_other zO).trans (h.cells d f q g a m)
 ·have j:=(y7n.1 a).1;exact(World.putObj_heap_other zO).trans (h.rest d p a l k)
theorem AbM.and{f:Type}{B:Nat}{I a:f->World->Prop}(h:AbM B I)(k:AbM B a):AbM B (λs W=>I s W/\a s W):=λs W b row e c d=>⟨h s W b row e.1 c d,k s W b row e.2 c d⟩
theorem vZ{l:Type}{n B:Nat}{ds:List Deferred}(j:∀a,({target:=.collected a,args:=#[]}:Deferred)∈ds->a<B):AbM B (λ(_:l) b=>Marks n ds b):=by
 intro s b m row g i k;refine⟨λd f=>?_,g.2⟩;obtain⟨a,rfl,h,c⟩:=g.1 d f;have o:=j a f;exact⟨a,rfl,h,(i.block a (y7n.1 c).1 (λe=>by have:=(k a e.symm).1;omega)).trans c⟩
theorem so{w:Type}{B n i:Nat}{f:World}(m:B<=f.heap.size)(h:f.heap.size<=i):AbM i (λ(_:w) j=>Kq B n f j):=by
 intro s j x row a d g;refine⟨a.below.grown d (ad m a.size) (λu e=>by have:=(g u e).1;omega),ad a.size d.size,λb k v l c r=>?_,λb t c q p=>?_⟩
 ·have o:=(y7n.1 c).1;exact(d.block b (by have:=a.size;omega) (λe=>by have:=(g b e.symm).1;omega)).trans (a.cells b k v l c r)
 ·have o:=(y7n.1 c).1;exact(d.block b (by have:=a.size;omega) (λe=>by have:=(g b e.symm).1;omega)).trans (a.rest b t c q p)
theorem sN{i:Type}{B g:Nat}{t:TypeId}{c:List Value}(h:g<B):AbM B (λ(_:i) a=>Blk a g t c):=λs a j row b d f=>
 (d.block g b.lt (λe=>by have:=(f g e.symm).1;omega)).trans b
theorem uY{P:Program}(n:Nat)(f:Func)(tmps:Array Value)(i:Nat)(R:World->Prop)(Q:Ending->World->Prop)(p:∀v W,R W->Q (.returned v) W)(r:f.results=#[])(q:∀(W:World) (a:Nat) (o s:Obj),R W->i<=a->W.heap[a]? =some o->o.isCells=false->R (W.putObj a s)):
 ∀(ds:List Deferred) (W:World),Marks i ds W->R W->LeavesInM Fence.wide n P f tmps Q ds .returning W:=by
 intro ds;induction ds with
 |nil=>
  intro W b c;exact⟨_,results_none r _ _ _,p _ _ c⟩
 |cons d ds ih=>
  intro W b c;obtain⟨a,rfl,k,g⟩:=b.1 d (cc ..);refine⟨zS,.inl ⟨a,_,rfl,run_takeDeferred g,ih _ ⟨λd h=>?_,(List.pairwise_cons.1 b.2).2⟩ (q _ _ _ _ c k g rfl)⟩⟩;obtain⟨j,rfl,l,m⟩:=b.1 d (bi _ h);refine⟨j,rfl,l,(World.putObj_heap_other (λe=>?_)).trans m⟩;subst e;exact(List.pairwise_cons.1 b.2).1 _ h rfl
theorem pe:¬eo 189:=by unfold eo;decide
theorem AV:¬eo 28:=by unfold eo;decide
def mH(w0:World)(B:Nat)(l:List Itm):Prop:=∀(wc:World) (bl:Nat) (v:Value),Below B w0 wc->B<=wc.heap.size->Blk wc bl 28 [v]->RowQ w0 B wc l v->
 nt Tryz.prog 142 #[.pointer (some ⟨bl,0,none⟩)] (iC (w0:=w0) (B:=B)) B (λa=>a.map (·.1.1)=bJ l) (bJ l).length wc
theorem pj:Enters Tryz.prog 142:=⟨λ_ _=>by kernel_rfl⟩
def tf{w0:World}{B:Nat}(l:List Itm)(e:Nat)(d:Value)(W:World)(c:List (ItC w0 B)->World->Prop)(k:Nat)(a:Act)(b:World):Prop:=
 (a.tmps.size=29/\a.tmps.getD 2 undef=.pointer (some ⟨W.heap.size,0,none⟩)/\a.tmps.getD 6 undef=d/\a.tmps.getD 7 undef=.int .i64 l.length/\a.tmps.getD 8 undef=.int .i64 k)/\k<=l.length/\Marks W.heap.size a.defers b/\
   (∃pre,pre.map (·.1.1)=bJ (l.take k)/\c pre b)/\Kq B W.heap.size W b/\Blk b W.heap.size 189 [.func (.yield e) #[] #[]]
theorem ru(w0:World)(B:Nat)(t9:B<=w0.heap.size)(l:List Itm)(v4:l.length<=1000000000)(m0:∀x,x∈l->x.l.length<=10000000/\x.els.length<=10000000)(g5:∀x,x∈l->mH w0 B (x.l++x.els)):mH w0 B l:=by
 intro wc bl v m c9 d2 l7 I F b a1 d0 j6 j1;have l8:=l7.below a1 c9;have b4:Blk b bl 28 [v]:=(a1.block bl d2.lt).trans d2;have v5:=b4.lt;obtain⟨h2,i2,rfl,r6⟩:=l7;have i3:=b4.get1;obtain⟨M,a2⟩:∃M,M=b.alloc (.cells #[.func (.yield I) #[] #[]] 189):=⟨_,rfl⟩;have v1:=a2.symm;have j9:Blk M b.heap.size 189 [.func (.yield I) #[] #[]]:=by rw[a2];exact ax b _ _
 have k:B<=b.heap.size:=ad c9 a1.size;have d9:Kq B b.heap.size b M:=by rw[a2];exact Kq.alloc b _ k
 have k8:F [] M:=by rw[a2];exact d0.alloc _ j1
 have q5:M.cell? ⟨bl,0,none⟩=some (.slice h2 l.length i2):=(d9.cell b4 AV).trans i3;have p6:=Hd l8;have c2:=Hd (aq j9 (aq d9 k8));have f5:=Hd (aq m a1);have K:=Hd d0;have g4:=Hd j6;have f8:=Hd g5;have g3:=Hd m0;clear d2 r6 j9 d9 k8 l8 b4 i3 a2 m d0 j6 j1 g5 m0 a1;refine callsIn_of_wp_marks func142 rfl trivial ?_ rfl;simp only[ntmps142,List.size_toArray,List.length_cons,List.length_nil,Nat.reduceAdd,Nat.reduceSub,Array.replicate_succ,Array.replicate_zero,List.push_toArray,List.append_toArray,List.nil_append,List.cons_append]
 gi_wp2
 refine uP l.length (tf l I (.slice h2 l.length i2) b F) ?_ ?_
 ·rintro f c V ⟨⟨H,g,i5,i6,i7⟩,v2,e5,⟨pre,l4,h⟩,i,j⟩;obtain⟨O,C⟩:∃O,c.defers=O:=⟨_,rfl⟩;rw[C] at e5;rw[ey H C];simp only[List.range,List.range.loop,List.map_cons,List.map_nil,g,i5,i6,i7];generalize c.tmps.getD 0 undef=u0;generalize c.tmps.getD 1 undef=u1;generalize c.tmps.getD 3 undef=u3;generalize c.tmps.getD 4 undef=u4;generalize c.tmps.getD 5 undef=u5;generalize c.tmps.getD 9 undef=u9;generalize c.tmps.getD 10 undef=u10;generalize c.tmps.getD 11 undef=u11;generalize c.tmps.getD 12 undef=u12;generalize c.tmps.getD 13 undef=u13;generalize c.tmps.getD 14 undef=u14;generalize c.tmps.getD 15 undef=u15;generalize c.tmps.getD 16 undef=u16;generalize c.tmps.getD 17 undef=u17;generalize c.tmps.getD 18 undef=u18;generalize c.tmps.getD 19 undef=u19;generalize c.tmps.getD 20 undef=u20;generalize c.tmps.getD 21 undef=u21;generalize c.tmps.getD 22 undef=u22;generalize c.tmps.getD 23 undef=u23;generalize c.tmps.getD 24 undef=u24;generalize c.tmps.getD 25 undef=u25;generalize c.tmps.getD 26 undef=u26;generalize c.tmps.getD 27 undef=u27;generalize c.tmps.getD 28 undef=u28;have L:=Hd i;have g2:=Hd e5;have b0:=Hd l4;have f9:=Hd h;have f7:=Hd j;clear H g i5 i6 i7 C i e5 l4 h j q5;by_cases R:f<l.length
  ·obtain⟨t5,t7,r9,k5⟩:=p6.o.kq L.o;obtain⟨rfl,-,rfl⟩:=Value.slice.inj r9;obtain⟨t6,o,t8,rfl,r5,r7,k3,b8⟩:=k5 f R;have s8:=mS b8;obtain⟨o3,o5,v6,v7,o9,p1,rfl,-,-,e2,e3,-,-⟩:=RI_iff.1 b8;have s2:=e2;have s3:=e3;obtain⟨W,Z,rfl,-,-⟩:=s2;obtain⟨Y,a0,rfl,-,-⟩:=s3;have g6:=Hd (f8.o l[f] (an R));have h1:=Hd (g3.o l[f] (an R));have g0:=Hd e2;have g1:=Hd e3;have g8:=Hd (show bJ (l.take (f+1))=bJ (l.take f)++(l[f]::bJ (l[f].l++l[f].els)) by
    rw[List.take_succ_eq_append_getElem R,kI,kI,<-ne];show _++(eI l[f]++[])=_;rw[List.append_nil])
   have g7:=Hd (show(bJ (l.take f)++(l[f]::bJ (l[f].l++l[f].els))).length<=(bJ l).length by
    rw[<-g8.o];have c6:=congrArg (λl=>(bJ l).length) (List.take_append_drop (f+1) l);simp only[kI,List.length_append] at c6;omega)
   have k4:=k3;obtain⟨q6,c5,q7,q8,q9,r0,r1,r2,r3⟩:=k4.get9;have j8:=f7.o.get1;have j5:=Hd (show∃c0:ItC w0 B,c0.1=(l[f],_) from⟨⟨(l[f],_),b8⟩,rfl⟩);clear k3 k4 b8 e2 e3 r7 r5 k5 f8 g3;generalize l[f]=x at*;obtain⟨q0,c4,j4,⟨m3,m4,m5,m6,m7,m8,m9,n0,n1⟩,⟨n2,n3,n4,n5,n6,n7,n8,n9,o0⟩,b2,m,D,f0⟩:=iJ V (.int .i64 x.op) (.string x.name) (.string x.of) o3 o5 (.slice W x.l.length Z) (.slice Y x.els.length a0) o9 p1;obtain⟨ec,k7⟩:=ae (af c4);replace b2:=b2.trans k7;obtain⟨h3,h4,h5,h6,h7,h8,h9,i0,i1⟩:=m.later9;have b9:=D.trans ec.ext;have p3:=b9.at_ j8;have v0:B<=V.heap.size:=ad k L.o.below.size;have l1:=K.o pre V ec.w none f9.o (cp b9) (λo2 e=>by cases e);obtain⟨T,e8⟩:=j5.o;obtain⟨r4,t1,q2,q3,m1,b1⟩:=show YieldAt Fence.wide 0 Tryz.prog I #[.agg #[.int .i64 x.op,.string x.name,.string x.of,o3,o5,.slice W x.l.length Z,.slice Y x.els.length a0,o9,p1]] ec.w _ from by
    have:=g4.o pre T ec.w l1 (by have t:=g7.o;have g:=congrArg List.length b0.o;rw[List.length_map] at g;simp only[List.length_append,List.length_cons] at t;omega);simp only[iC,e8] at this;exact this
   have f6:=Hd (m.ext ec.ext);have c3:=Hd b9;have p7:=Hd e8;clear e8 j5 m D b9 f0 k7 j8 l1
   gi_wp2
   refine⟨rfl,b1.mono ?_⟩;rintro e N ⟨rfl,a4,p⟩;have k0:=p.blk f6.o mD;obtain⟨-,-,-,-,-,s9,t0,-,-⟩:=k0.get9;have d8:=L.o.trans ((Kq.ext c3.o (ad k L.o.below.size)).trans (p));clear k0
   gi_wp2_with fail
   have i8:B<=N.heap.size:=ad k d8.size;obtain⟨y,Q⟩:∃y,y=N.alloc (.cells #[.slice W x.l.length Z,.slice Y x.els.length a0] 28):=⟨_,rfl⟩;have k1:Blk y N.heap.size 28 [.slice W x.l.length Z,.slice Y x.els.length a0]:=by rw[Q];exact ax N _ _
   have a6:Kq B b.heap.size b y:=by rw[Q];exact d8.trans (Kq.alloc N _ i8)
   have k9:F (pre++[T]) y:=by rw[Q];exact K.o.alloc _ a4
   have l2:Kq B b.heap.size V y:=by rw[Q];exact((Kq.ext c3.o (ad k L.o.below.size)).trans p).trans (Kq.alloc N _ i8)
   have G:Below B w0 b:=f5.o.1.trans (f5.o.2.mono c9);obtain⟨s6,d5,l5⟩:=qf g0.o (G.trans a6.below);obtain⟨s7,d6,l6⟩:=qf g1.o (G.trans a6.below);rw[<-Q];refine⟨trivial,rfl,?_⟩;refine(callsIn_wide.2 (zH _ W Y _ _ Z a0 s6 s7 y k1 d5 d6 h1.o.1 h1.o.2)).mono ?_;rintro e r ⟨q1,q4,rfl,l3,e7⟩;have e1:Kq B b.heap.size y r:=Kq.ext e7 (ad k a6.size);have a5:=K.o _ _ _ none k9 (cp e7) (λo2 e=>by cases e);have a8:=RowQ.of_own l3 d5.1 d6.1 l5 l6;have g9:=Hd (aq (a6.trans e1) (aq (l2.trans e1) (aq a5 (aq a8 G))));clear k1 d5 d6 l5 l6 e7 l3 k9 a6 l2 e1 a5 a8 a4 p d8 G Q s9 t0
   gi_wp2_with fail
   refine⟨trivial,rfl,?_⟩;refine(callsIn_wide.2 (rt _ rfl r)).mono ?_;rintro e z ⟨rfl,b3⟩;obtain⟨b5,e0,a5,a8,G⟩:=g9.o;have i9:B<=r.heap.size:=ad k b5.size;have d1:Blk z r.heap.size 28 [.slice q1 (x.l.length+x.els.length) q4]:=by rw[b3];exact ax r _ _
   have a7:Kq B b.heap.size r z:=by rw[b3];exact Kq.alloc r _ i9
   have l0:F (pre++[T]) z:=by rw[b3];exact K.o.alloc _ a5
   have b6:=b5.trans a7;have c8:B<=z.heap.size:=ad k b6.size;have a3:b.heap.size<z.heap.size:=by have:=d1.lt;have:=b5.size;omega
   have l9:=g6.o z r.heap.size _ (G.trans b6.below) c8 d1 (a8.kq a7);have e4:=g2.o.kq (e0.trans a7);have k2:=(e0.trans a7).blk f7.o pe;have k6:∀J,({target:=.collected J,args:=#[]}:Deferred)∈O->J<z.heap.size:=λJ P=>by
    obtain⟨p4,r8,-,c7⟩:=e4.1 _ P;obtain rfl:J=p4:=by injection r8 with c5;injection c5
    exact(y7n.1 c7).1
   have j7:AbM z.heap.size (λS X=>((F ((pre++[T])++S) X/\Marks b.heap.size O X)/\Kq B b.heap.size b X)/\Blk X b.heap.size 189 [.func (.yield I) #[] #[]]):=
    AbM.and (AbM.and (AbM.and (λs c1 f4 row H d7 e6=>K.o.later (Nat.le_of_lt a3) _ c1 f4 row H d7 e6) (vZ k6)) (so k (Nat.le_of_lt a3))) (sN a3)
   have u:=Hd (aq l0 (aq e4 (aq b6 (aq k2 (aq c8 a3)))));have p9:=Hd l9;have f3:=Hd j7;clear b5 e0 a5 a8 G i9 d1 a7 l0 b6 c8 a3 l9 e4 k2 k6 g9 g6 g0 g1 b3 j7 q6 c5 q7 q8 q9 r0 r1 r2 r3 b1 m1 p3 h3 h4 h5 h6 h7 h8 h9 i0 i1 m3 m4 m5 m6 m7 m8 m9 n0 n1 n2 n3 n4 n5 n6 n7 n8 n9 o0 j4 b2 c3 f6
   gi_wp2_with fail
   refine pz (gf:=142) (lb:=#[.pointer (some ⟨r.heap.size,0,none⟩)]) rfl pj p9.o (Below.refl _ _) u.o.2.2.2.2.1 (λ_=>rfl)
    (λS X=>((F ((pre++[T])++S) X/\Marks b.heap.size O X)/\Kq B b.heap.size b X)/\Blk X b.heap.size 189 [.func (.yield I) #[] #[]]) ?hI ?h0
    (λc0 a X=>∃A,Blk X A 37 c0.1.2/\a.tmps.size=29/\a.tmps.getD 2 undef=.pointer (some ⟨b.heap.size,0,none⟩)/\a.tmps.getD 5 undef=.pointer (some ⟨A,0,none⟩)/\a.defers=[]) ?hAx ?assign ?body ?done
   case hI=>exact f3.o
   case h0=>exact⟨⟨⟨by rw[List.append_nil];exact u.o.1,u.o.2.1⟩,u.o.2.2.1⟩,u.o.2.2.2.1⟩
   case hAx=>
    rintro c0 a _ c1 f4 row ⟨A,t,g⟩ d7 e6;refine⟨A,(d7.block A t.lt (λe=>?_)).trans t,g⟩;obtain⟨_,o,b7,d3⟩:=e6 A e.symm;rw[show c1.heap[A]? =_ from t] at b7;cases b7;cases d3
   case assign=>
    rintro m2 S ⟨⟨E,f2⟩,a9⟩ X t3 ⟨⟨⟨h,q⟩,i⟩,j⟩ j2;obtain⟨o4,o6,o7,o8,p0,p2,d4,-,-,-,-,-,-⟩:=RI_iff.1 (show RI w0 B E f2 from a9);subst d4;have s8:=mS (show RI w0 B E _ from a9);obtain⟨q0,c4,j4,⟨m3,m4,m5,m6,m7,m8,m9,n0,n1⟩,⟨n2,n3,n4,n5,n6,n7,n8,n9,o0⟩,b2,m,D,f0⟩:=iJ X (.int .i64 E.op) (.string E.name) (.string E.of) o4 o6 o7 o8 p0 p2;have p5:=Hd j2;have U:=Hd (aq h (aq q (aq i (aq j (aq m D)))));clear j2 h q i j m D f0;simp only[iC]
    gi_wp2
    obtain⟨h,q,i,j,m,D⟩:=U.o;exact p5.o _ _ (Kq.ext D (ad k i.size)) (f3.o S X c4 none ⟨⟨⟨h,q⟩,i⟩,j⟩ (cp D) (λo2 e=>by cases e)) ⟨_,m,rfl,rfl,rfl,rfl⟩
   case body=>
    rintro m2 S ⟨⟨E,f2⟩,a9⟩ a X v3 - ⟨⟨⟨h,q⟩,i⟩,j⟩ ⟨A,s5,H,g,i4,C⟩ s4;obtain⟨o4,o6,o7,o8,p0,p2,d4,-,-,-,-,-,-⟩:=RI_iff.1 (show RI w0 B E f2 from a9);subst d4;have e9:=g4.o _ ⟨(E,_),a9⟩ X h (by
     have t:=g7.o;have g:=congrArg List.length b0.o;rw[List.length_map] at g;simp only[List.length_append,List.length_cons,List.length_nil] at t s4⊢;omega)
    simp only[iC] at e9;obtain⟨r4,t1,q2,q3,m1,b1⟩:=show YieldAt (Fence.wide.inRound m2) 0 Tryz.prog I _ X _ from e9
    rw[ey H C];simp only[List.range,List.range.loop,List.map_cons,List.map_nil,g,i4];generalize a.tmps.getD 0 undef=z0;generalize a.tmps.getD 1 undef=z1;generalize a.tmps.getD 3 undef=z3;generalize a.tmps.getD 4 undef=z4;generalize a.tmps.getD 6 undef=z6;generalize a.tmps.getD 7 undef=z7;generalize a.tmps.getD 8 undef=z8;generalize a.tmps.getD 9 undef=z9;generalize a.tmps.getD 10 undef=z10;generalize a.tmps.getD 11 undef=z11;generalize a.tmps.getD 12 undef=z12;generalize a.tmps.getD 13 undef=z13;generalize a.tmps.getD 14 undef=z14;generalize a.tmps.getD 15 undef=z15;generalize a.tmps.getD 16 undef=z16;generalize a.tmps.getD 17 undef=z17;generalize a.tmps.getD 18 undef=z18;generalize a.tmps.getD 19 undef=z19;generalize a.tmps.getD 20 undef=z20;generalize a.tmps.getD 21 undef=z21;generalize a.tmps.getD 22 undef=z22;generalize a.tmps.getD 23 undef=z23;generalize a.tmps.getD 24 undef=z24;generalize a.tmps.getD 25 undef=z25;generalize a.tmps.getD 26 undef=z26;generalize a.tmps.getD 27 undef=z27;generalize a.tmps.getD 28 undef=z28;have U:=Hd (aq h (aq q (aq i j)));have p3:=j.get1;obtain⟨h3,h4,h5,h6,h7,h8,h9,i0,i1⟩:=s5.get9;clear H g i4 C h q i e9
    gi_wp2
    refine⟨rfl,b1.mono ?_⟩;rintro e t4 ⟨rfl,a4,p⟩;have n:=Hd (aq a4 (aq (U.o.2.1.kq p) (aq (U.o.2.2.1.trans p) (aq (p.blk U.o.2.2.2 pe) (p.later (Nat.le_of_lt u.o.2.2.2.2.2))))));clear a4 p
    gi_wp2
    refine⟨n.o.2.2.2.2,⟨⟨?_,n.o.2.1⟩,n.o.2.2.1⟩,n.o.2.2.2.1⟩;have c6:=n.o.1;simpa only[List.append_assoc,List.cons_append,List.nil_append] using c6
   case done=>
    rintro J t2 X P j3 ⟨⟨⟨h,q⟩,i⟩,j⟩ s1 j0;have n:=Hd (aq h (aq (Marks.push u.o.2.1 q P (by have:=u.o.2.2.2.2.2;omega) j0) (aq i j)));have p8:=Hd (show((pre++[T])++t2).map (·.1.1)=bJ (l.take (f+1)) from by
     rw[g8.o,List.map_append,List.map_append,b0.o,j3,List.map_cons,List.map_nil,p7.o,List.append_assoc];rfl)
    clear h q i j s1 j0 j3
    gi_wp2
    exact⟨R,⟨rfl,rfl,rfl,rfl,rfl⟩,R,n.o.2.1,⟨_,p8.o,n.o.1⟩,n.o.2.2.1,n.o.2.2.2⟩
  ·have s0:f=l.length:=by omega
   subst s0
   gi_wp2
   refine uY 0 _ _ b.heap.size (λf1=>F pre f1/\Kq B b.heap.size b f1) _ ?_ rfl ?_ O V g2.o ⟨f9.o,L.o⟩
   ·rintro v f1 ⟨g,c7⟩;exact⟨⟨v,rfl⟩,pre,by rw[b0.o,List.take_length],g,c7⟩
   ·rintro X J o o1 ⟨t,g⟩ P b7 d3;exact⟨K.o.putObj o1 t P b7 d3,g.putNew k P o1⟩
 ·refine⟨⟨rfl,rfl,rfl,rfl,rfl⟩,aA _,⟨(λd C=>by cases C),.nil⟩,⟨[],by simp[bJ],c2.o.2.2⟩,c2.o.2.1,c2.o.1⟩
theorem vq(w0:World)(B:Nat)(b:B<=w0.heap.size):∀(n:Nat) (l:List Itm),aa aj l<=n->n<=10000000->mH w0 B l:=by
 intro n;induction n with
 |zero=>
  intro l f g;have c:=aw aj l cQ;exact ru w0 B b l zO (λx a=>by have:=ay aj l x a;have:=cQ x;omega) λx a=>by have:=ay aj l x a;have:=cQ x;omega
 |succ n ih=>
  intro l f g;have c:=aw aj l cQ;refine ru w0 B b l zO (λx a=>?_) λx a=>?_
  ·have d:=ay aj l x a;have e:=bq x;have h:=aw aj x.l cQ;have i:=aw aj x.els cQ;omega
  ·have d:=ay aj l x a;have e:=bq x;exact ih _ (by rw[iA];omega) zO
