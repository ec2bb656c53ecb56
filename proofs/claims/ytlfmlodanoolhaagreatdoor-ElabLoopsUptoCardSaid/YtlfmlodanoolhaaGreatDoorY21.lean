import Derived.Test.YtlfmlodanoolhaaGreatDoorY3
import Derived.Test.YtlfmlodanoolhaaGreatDoorY18
import Derived.Test.YtlfmlodanoolhaaGreatDoorY19
set_option linter.all false
set_option maxRecDepth 200000
set_option maxHeartbeats 32000000
namespace Go.Proofs.YtlfmlodanoolhaaGreatDoor
open Go Go.RowKit Go.Shelf Go.Proofs.Tryz
attribute [local go_sem] Oper.semAt_some bc
theorem rd{P:Program}{C:Code}{Q:Exit->Act->World->Prop}(f:Nat)(Inv:Nat->Act->World->Prop){a:Act}{w:World}
 (m:∀b a c,Inv b a c->C.wpIn Fence.wide 0 P (Exit.then (λh g=>b<f/\Inv (b+1) h g) Q) a c) (h0:Inv 0 a w):(Code.loop C).wpIn Fence.wide 0 P Q a w:=by
 refine wpIn_loop_rounds (f+1) ?_;have j:∀d b a c,f - b<d->Inv b a c->Code.roundsIn Fence.wide 0 P C Q d a c:=by
  intro d;induction d with
  |zero=>intro b a c l;omega
  |succ d ih=>
   intro b a c l k;rw[roundsIn_succ];refine wpIn_mono (m b a c k) ?_;intro e h g i;cases e with
   |normal=>exact ih (b+1) h g (by have:=i.1;omega) i.2
   |_=>exact i
 exact j (f+1) 0 a w zO h0
abbrev ItC(w0:World)(B:Nat):={a:Itm×List Value // RI w0 B a.1 a.2}
def hW{w0:World}{B:Nat}(x:ItC w0 B):Array Value:=#[.agg x.1.2.toArray]
def RowQ(w0:World)(B:Nat)(W:World)(l:List Itm)(v:Value):Prop:=∃d e,v=.slice d l.length e/\∀c (h:c<l.length),∃a o b,d=some ⟨a,o,none⟩/\(a<B\/∃f g,W.heap[a]? =some (.cells f 37 g))/\b.length=9/\Cells W a (o+c*9) b/\RI w0 B l[c] b
theorem jM:¬eh 37:=by unfold eh;decide
theorem RowQ.kq{w0:World}{B n:Nat}{W f:World}{l:List Itm}{v:Value}(h:RowQ w0 B W l v)(e:Kq B n W f):RowQ w0 B f l v:=by
 obtain⟨m,p,rfl,h⟩:=h;refine⟨m,p,rfl,λu t=>?_⟩;obtain⟨d,o,q,rfl,a,r,g,s⟩:=h u t;refine⟨d,o,q,rfl,?_,r,λj k i=>?_,s⟩
 ·rcases a with a|⟨b,c,a⟩
  ·exact .inl a
  ·exact .inr ⟨b,c,e.cells d b _ c a jM⟩
 ·rcases a with a|⟨b,c,a⟩
  ·exact(e.below.cell a).trans (g j k i)
  ·exact(ef ((e.cells d b _ c a jM).trans a.symm)).trans (g j k i)
theorem RowQ.of_sl{w0 W:World}{B:Nat}{l:List Itm}{v:Value}(h:Sl (RI w0 B) w0 B 9 l v)(g:Below B w0 W):RowQ w0 B W l v:=by
 obtain⟨b,d,rfl,-,m⟩:=h;refine⟨b,d,rfl,λq j=>?_⟩;obtain⟨c,o,e,ha,a,k,i,-,f⟩:=m q j;exact⟨c,o,e,ha,.inl a,k,λp r n=>(g.cell a).trans (i p r n),f⟩
theorem lh{w0:World}{B:Nat}{x:Itm}{a:List Value}(h:RI w0 B x a):∀c∈a,c.oneCell'=true:=by
 obtain⟨k,l,m,n,o,p,rfl,d,e,f,g,i,j⟩:=RI_iff.1 h;intro c b;simp only[List.mem_cons,List.not_mem_nil,or_false] at b;rcases b with rfl|rfl|rfl|rfl|rfl|rfl|rfl|rfl|rfl
 ·rfl
 ·rfl
 ·rfl
 ·exact d.oneCell
 ·exact e.oneCell
 ·exact f.oneCell
 ·exact g.oneCell
 ·exact i.oneCell
 ·exact j.oneCell
theorem oA{w0 W:World}{B:Nat}{l:List Itm}{a:Option Addr}{i:Nat}(h:Sl (RI w0 B) w0 B 9 l (.slice a l.length i))(q:Below B w0 W):
 ∃b:List Value,Flat W 9 a l.length b/\∀k,(A:k<l.length)->RI w0 B l[k] ((b.drop (k*9)).take 9):=by
 obtain⟨x,y,c,-,f⟩:=h;obtain⟨rfl,-,rfl⟩:=Value.slice.inj c;obtain⟨b,⟨j,m,n⟩,p⟩:=Row.flat f;refine⟨b,⟨j,m,λe=>?_⟩,p⟩;obtain⟨d,o,rfl,s⟩:=n e;obtain⟨g,v,z,c,r,-⟩:=f 0 e;obtain⟨rfl,rfl⟩:d=g/\o=v:=by simpa using c
 exact⟨d,o,rfl,λu w t=>(q.cell r).trans (s u w t)⟩
theorem RowQ.of_own{w0 W:World}{B m:Nat}{b c:List Itm}{v:Value}{f g:List Value}(h:W.ownsRow m 37 9 v (b.length+c.length) (f++g))(A:f.length=b.length*9)(C:g.length=c.length*9)
 (p:∀a,(e:a<b.length)->RI w0 B b[a] ((f.drop (a*9)).take 9)) (h2:∀a,(e:a<c.length)->RI w0 B c[a] ((g.drop (a*9)).take 9)):RowQ w0 B W (b++c) v:=by
 rcases h.2 with⟨rfl,t⟩|⟨j,n,o,rfl,-,s,x,w,u,y⟩
 ·obtain rfl:b=[]:=cW zO;obtain rfl:c=[]:=cW zO;exact⟨none,0,rfl,λa e=>absurd e zS⟩
 ·refine⟨some ⟨j,0,none⟩,n,by rw[List.length_append],λa e=>?_⟩;have q:∀d (i:d<(b.length+c.length)*9),W.cell? ⟨j,d,none⟩=(f++g)[d]? :=λd i=>h.cellAt d i
  have r:RI w0 B (b++c)[a] (((f++g).drop (a*9)).take 9):=by
   by_cases k:a<b.length
   ·rw[List.getElem_append_left k,List.drop_append_of_le_length zO,List.take_append_of_le_length (by rw[List.length_drop];omega)];exact p a k
   ·rw[List.length_append] at e;rw[List.getElem_append_right zO,show a*9=f.length+(a - b.length)*9 by omega,List.drop_append];rw[List.drop_eq_nil_of_le zO,List.nil_append,Nat.add_sub_cancel_left];exact h2 (a - b.length) zO
  rw[List.length_append] at e;refine⟨j,0,_,rfl,.inr ⟨o,(0,0),s⟩,by rw[List.length_take,List.length_drop,List.length_append];omega,λd z l=>?_,r⟩;have i:d<9:=by
   have:=(y2c.1 l).1;rw[List.length_take] at this;omega
  rw[Nat.zero_add,q _ zO,<-l,List.getElem?_take,if_pos i,List.getElem?_drop]
theorem pO(v:Value)(c:v.oneCell'=true)(w:World):Calls Tryz.prog 98 #[v] w λe a=>e=.returned (.func (.func 142) #[] #[.pointer (some ⟨w.heap.size,0,none⟩)])/\a=w.alloc (.cells #[v] 28):=by
 have b:=@hmf_ Tryz.prog
 go_in
 go_wp2
 go_ret;exact⟨rfl,rfl⟩
theorem Marks.kq{B n:Nat}{ds:List Deferred}{W b:World}(h:Marks n ds W)(i:Kq B n W b):Marks n ds b:=
 ⟨λd g=>by obtain⟨a,e,c,f⟩:=h.1 d g;exact⟨a,e,c,i.rest a _ f rfl c⟩,h.2⟩
theorem RowQ.below{w0 wc W:World}{B:Nat}{l:List Itm}{v:Value}(h:RowQ w0 B wc l v)(e:Below wc.heap.size wc W)(u:B<=wc.heap.size):RowQ w0 B W l v:=by
 obtain⟨g,i,rfl,h⟩:=h;refine⟨g,i,rfl,λs p=>?_⟩;obtain⟨b,o,j,rfl,a,k,m,n⟩:=h s p;have f:b<wc.heap.size:=by
  rcases a with a|⟨c,d,a⟩
  ·omega
  ·exact(y1w.1 a).1
 refine⟨b,o,j,rfl,?_,k,λr t q=>(e.cell f).trans (m r t q),n⟩;rcases a with a|⟨c,d,a⟩
 ·exact .inl a
 ·exact .inr ⟨c,d,(e.block b f).trans a⟩
theorem Kq.putNew{B n:Nat}{W c:World}(h:Kq B n W c){b:Nat}(i:B<=W.heap.size)(r:W.heap.size<=b)(o:Obj):Kq B n W (c.putObj b o):=by
 refine⟨h.below.grown (grownBy_putObj' c b o) (ad i h.size) (λs e=>by cases e;omega),ad h.size (grownBy_putObj' c b o).size,λd f q g a m=>?_,λd p a l k=>?_⟩
 ·have j:=(y1w.1 a).1;exact(World.putObj_heap_other zO).trans (h.cells d f q g a m)
 ·have j:=(y1w.1 a).1;exact(World.putObj_heap_other zO).trans (h.rest d p a l k)
theorem AbM.and{f:Type}{B:Nat}{I a:f->World->Prop}(h:AbM B I)(k:AbM B a):AbM B (λs W=>I s W/\a s W):=λs W b row e c d=>⟨h s W b row e.1 c d,k s W b row e.2 c d⟩
theorem tS{l:Type}{n B:Nat}{ds:List Deferred}(j:∀a,({target:=.collected a,args:=#[]}:Deferred)∈ds->a<B):AbM B (λ(_:l) b=>Marks n ds b):=by
 intro s b m row g i k;refine⟨λd f=>?_,g.2⟩;obtain⟨a,rfl,h,c⟩:=g.1 d f;have o:=j a f;exact⟨a,rfl,h,(i.block a (y1w.1 c).1 (λe=>by have:=(k a e.symm).1;omega)).trans c⟩
theorem qb{w:Type}{B n i:Nat}{f:World}(m:B<=f.heap.size)(h:f.heap.size<=i):AbM i (λ(_:w) j=>Kq B n f j):=by
 intro s j x row a d g;refine⟨a.below.grown d (ad m a.size) (λu e=>by have:=(g u e).1;omega),ad a.size d.size,λb k v l c r=>?_,λb t c q p=>?_⟩
 ·have o:=(y1w.1 c).1;exact(d.block b (by have:=a.size;omega) (λe=>by have:=(g b e.symm).1;omega)).trans (a.cells b k v l c r)
 ·have o:=(y1w.1 c).1;exact(d.block b (by have:=a.size;omega) (λe=>by have:=(g b e.symm).1;omega)).trans (a.rest b t c q p)
theorem qq{i:Type}{B g:Nat}{t:TypeId}{c:List Value}(h:g<B):AbM B (λ(_:i) a=>Blk a g t c):=λs a j row b d f=>
 (d.block g b.lt (λe=>by have:=(f g e.symm).1;omega)).trans b
theorem rl{P:Program}(n:Nat)(f:Func)(tmps:Array Value)(i:Nat)(R:World->Prop)(Q:Ending->World->Prop)(p:∀v W,R W->Q (.returned v) W)(r:f.results=#[])(q:∀(W:World) (a:Nat) (o s:Obj),R W->i<=a->W.heap[a]? =some o->o.isCells=false->R (W.putObj a s)):
 ∀(ds:List Deferred) (W:World),Marks i ds W->R W->LeavesInM Fence.wide n P f tmps Q ds .returning W:=by
 intro ds;induction ds with
 |nil=>
  intro W b c;exact⟨_,results_none r _ _ _,p _ _ c⟩
 |cons d ds ih=>
  intro W b c;obtain⟨a,rfl,k,g⟩:=b.1 d (du ..);refine⟨zS,.inl ⟨a,_,rfl,run_takeDeferred g,ih _ ⟨λd h=>?_,(List.pairwise_cons.1 b.2).2⟩ (q _ _ _ _ c k g rfl)⟩⟩;obtain⟨j,rfl,l,m⟩:=b.1 d (cf _ h);refine⟨j,rfl,l,(World.putObj_heap_other (λe=>?_)).trans m⟩;subst e;exact(List.pairwise_cons.1 b.2).1 _ h rfl
theorem nk:¬eh 189:=by unfold eh;decide
theorem yd:¬eh 28:=by unfold eh;decide
def kY(w0:World)(B:Nat)(l:List Itm):Prop:=∀(wc:World) (bl:Nat) (v:Value),Below B w0 wc->B<=wc.heap.size->Blk wc bl 28 [v]->RowQ w0 B wc l v->
 lJ Tryz.prog 142 #[.pointer (some ⟨bl,0,none⟩)] (hW (w0:=w0) (B:=B)) B (λa=>a.map (·.1.1)=bD l) (bD l).length wc
theorem ns:Enters Tryz.prog 142:=⟨λ_ _=>by kernel_rfl⟩
def rC{w0:World}{B:Nat}(l:List Itm)(f:Nat)(e:Value)(W:World)(d:List (ItC w0 B)->World->Prop)(k:Nat)(a:Act)(b:World):Prop:=
 (a.tmps.size=29/\a.tmps.getD 2 undef=.pointer (some ⟨W.heap.size,0,none⟩)/\a.tmps.getD 6 undef=e/\a.tmps.getD 7 undef=.int .i64 l.length/\a.tmps.getD 8 undef=.int .i64 k)/\k<=l.length/\Marks W.heap.size a.defers b/\
   (∃c,c.map (·.1.1)=bD (l.take k)/\d c b)/\Kq B W.heap.size W b/\Blk b W.heap.size 189 [.func (.yield f) #[] #[]]
theorem pP(w0:World)(B:Nat)(v0:B<=w0.heap.size)(l:List Itm)(v5:l.length<=1000000000)(m1:∀x,x∈l->x.l.length<=10000000/\x.els.length<=10000000)(g6:∀x,x∈l->kY w0 B (x.l++x.els)):kY w0 B l:=by
 intro wc bl v m d0 d3 l8 J G b a2 d1 j7 j2;have l9:=l8.below a2 d0;have b5:Blk b bl 28 [v]:=(a2.block bl d3.lt).trans d3;have v6:=b5.lt;obtain⟨h3,i3,rfl,r7⟩:=l8;have i4:=b5.get1;obtain⟨N,a3⟩:∃N,N=b.alloc (.cells #[.func (.yield J) #[] #[]] 189):=⟨_,rfl⟩;have v2:=a3.symm;have k0:Blk N b.heap.size 189 [.func (.yield J) #[] #[]]:=by rw[a3];exact ar b _ _
 have k:B<=b.heap.size:=ad d0 a2.size;have e0:Kq B b.heap.size b N:=by rw[a3];exact Kq.alloc b _ k
 have k9:G [] N:=by rw[a3];exact d1.alloc _ j2
 have q6:N.cell? ⟨bl,0,none⟩=some (.slice h3 l.length i3):=(e0.cell b5 yd).trans i4;have p7:=Hd l9;have c3:=Hd (an k0 (an e0 k9));have f6:=Hd (an m a2);have L:=Hd d1;have g5:=Hd j7;have f9:=Hd g6;have g4:=Hd m1;clear d3 r7 k0 e0 k9 l9 b5 i4 a3 m d1 j7 j2 g6 m1 a2;refine callsIn_of_wp_marks func142 rfl trivial ?_ rfl;simp only[ntmps142,List.size_toArray,List.length_cons,List.length_nil,Nat.reduceAdd,Nat.reduceSub,Array.replicate_succ,Array.replicate_zero,List.push_toArray,List.append_toArray,List.nil_append,List.cons_append]
 gi_wp2
 refine rd l.length (rC l J (.slice h3 l.length i3) b G) ?_ ?_
 ·rintro f c W ⟨⟨I,g,i6,i7,i8⟩,v3,e6,⟨u,l5,h⟩,i,j⟩;obtain⟨P,D⟩:∃P,c.defers=P:=⟨_,rfl⟩;rw[D] at e6;rw[el I D];simp only[List.range,List.range.loop,List.map_cons,List.map_nil,g,i6,i7,i8];generalize c.tmps.getD 0 undef=u0;generalize c.tmps.getD 1 undef=u1;generalize c.tmps.getD 3 undef=u3;generalize c.tmps.getD 4 undef=u4;generalize c.tmps.getD 5 undef=u5;generalize c.tmps.getD 9 undef=u9;generalize c.tmps.getD 10 undef=u10;generalize c.tmps.getD 11 undef=u11;generalize c.tmps.getD 12 undef=u12;generalize c.tmps.getD 13 undef=u13;generalize c.tmps.getD 14 undef=u14;generalize c.tmps.getD 15 undef=u15;generalize c.tmps.getD 16 undef=u16;generalize c.tmps.getD 17 undef=u17;generalize c.tmps.getD 18 undef=u18;generalize c.tmps.getD 19 undef=u19;generalize c.tmps.getD 20 undef=u20;generalize c.tmps.getD 21 undef=u21;generalize c.tmps.getD 22 undef=u22;generalize c.tmps.getD 23 undef=u23;generalize c.tmps.getD 24 undef=u24;generalize c.tmps.getD 25 undef=u25;generalize c.tmps.getD 26 undef=u26;generalize c.tmps.getD 27 undef=u27;generalize c.tmps.getD 28 undef=u28;have M:=Hd i;have g3:=Hd e6;have b1:=Hd l5;have g0:=Hd h;have f8:=Hd j;clear I g i6 i7 i8 D i e6 l5 h j q6;by_cases S:f<l.length
  ·obtain⟨t6,t8,s0,k6⟩:=p7.o.kq M.o;obtain⟨rfl,-,rfl⟩:=Value.slice.inj s0;obtain⟨t7,o,t9,rfl,r6,r8,k4,b9⟩:=k6 f S;have s9:=lh b9;obtain⟨o4,o6,v7,v8,p0,p2,rfl,-,-,e3,e4,-,-⟩:=RI_iff.1 b9;have s3:=e3;have s4:=e4;obtain⟨Y,a0,rfl,-,-⟩:=s3;obtain⟨Z,a1,rfl,-,-⟩:=s4;have g7:=Hd (f9.o l[f] (ao S));have h2:=Hd (g4.o l[f] (ao S));have g1:=Hd e3;have g2:=Hd e4;have g9:=Hd (show bD (l.take (f+1))=bD (l.take f)++(l[f]::bD (l[f].l++l[f].els)) by
    rw[List.take_succ_eq_append_getElem S,jS,jS,<-lv];show _++(ey l[f]++[])=_;rw[List.append_nil])
   have g8:=Hd (show(bD (l.take f)++(l[f]::bD (l[f].l++l[f].els))).length<=(bD l).length by
    rw[<-g9.o];have c7:=congrArg (λl=>(bD l).length) (List.take_append_drop (f+1) l);simp only[jS,List.length_append] at c7;omega)
   have k5:=k4;obtain⟨q7,c6,q8,q9,r0,r1,r2,r3,r4⟩:=k5.get9;have j9:=f8.o.get1;have j6:=Hd (show∃c1:ItC w0 B,c1.1=(l[f],_) from⟨⟨(l[f],_),b9⟩,rfl⟩);clear k4 k5 b9 e3 e4 r8 r6 k6 f9 g4;generalize l[f]=x at*;obtain⟨q1,c5,j5,⟨m4,m5,m6,m7,m8,m9,n0,n1,n2⟩,⟨n3,n4,n5,n6,n7,n8,n9,o0,o1⟩,b3,m,E,f1⟩:=iy W (.int .i64 x.op) (.string x.name) (.string x.of) o4 o6 (.slice Y x.l.length a0) (.slice Z x.els.length a1) p0 p2;obtain⟨ec,k8⟩:=ae (ah c5);replace b3:=b3.trans k8;obtain⟨h4,h5,h6,h7,h8,h9,i0,i1,i2⟩:=m.later9;have c0:=E.trans ec.ext;have p4:=c0.at_ j9;have v1:B<=W.heap.size:=ad k M.o.below.size;have l2:=L.o u W ec.w none g0.o (bW c0) (λo3 e=>by cases e);obtain⟨U,e9⟩:=j6.o;obtain⟨r5,t2,q3,q4,m2,b2⟩:=show YieldAt Fence.wide 0 Tryz.prog J #[.agg #[.int .i64 x.op,.string x.name,.string x.of,o4,o6,.slice Y x.l.length a0,.slice Z x.els.length a1,p0,p2]] ec.w _ from by
    have:=g5.o u U ec.w l2 (by have t:=g8.o;have g:=congrArg List.length b1.o;rw[List.length_map] at g;simp only[List.length_append,List.length_cons] at t;omega);simp only[hW,e9] at this;exact this
   have f7:=Hd (m.ext ec.ext);have c4:=Hd c0;have p8:=Hd e9;clear e9 j6 m E c0 f1 k8 j9 l2
   gi_wp2
   refine⟨rfl,b2.mono ?_⟩;rintro e O ⟨rfl,a5,p⟩;have k1:=p.blk f7.o jM;obtain⟨-,-,-,-,-,t0,t1,-,-⟩:=k1.get9;have d9:=M.o.trans ((Kq.ext c4.o (ad k M.o.below.size)).trans (p));clear k1
   gi_wp2_with fail
   have i9:B<=O.heap.size:=ad k d9.size;obtain⟨z,R⟩:∃z,z=O.alloc (.cells #[.slice Y x.l.length a0,.slice Z x.els.length a1] 28):=⟨_,rfl⟩;have k2:Blk z O.heap.size 28 [.slice Y x.l.length a0,.slice Z x.els.length a1]:=by rw[R];exact ar O _ _
   have a7:Kq B b.heap.size b z:=by rw[R];exact d9.trans (Kq.alloc O _ i9)
   have l0:G (u++[U]) z:=by rw[R];exact L.o.alloc _ a5
   have l3:Kq B b.heap.size W z:=by rw[R];exact((Kq.ext c4.o (ad k M.o.below.size)).trans p).trans (Kq.alloc O _ i9)
   have H:Below B w0 b:=f6.o.1.trans (f6.o.2.mono d0);obtain⟨s7,d6,l6⟩:=oA g1.o (H.trans a7.below);obtain⟨s8,d7,l7⟩:=oA g2.o (H.trans a7.below);rw[<-R];refine⟨trivial,rfl,?_⟩;refine(callsIn_wide.2 (wU _ Y Z _ _ a0 a1 s7 s8 z k2 d6 d7 h2.o.1 h2.o.2)).mono ?_;rintro e r ⟨q2,q5,rfl,l4,e8⟩;have e2:Kq B b.heap.size z r:=Kq.ext e8 (ad k a7.size);have a6:=L.o _ _ _ none l0 (bW e8) (λo3 e=>by cases e);have a9:=RowQ.of_own l4 d6.1 d7.1 l6 l7;have h1:=Hd (an (a7.trans e2) (an (l3.trans e2) (an a6 (an a9 H))));clear k2 d6 d7 l6 l7 e8 l4 l0 a7 l3 e2 a6 a9 a5 p d9 H R t0 t1
   gi_wp2_with fail
   refine⟨trivial,rfl,?_⟩;refine(callsIn_wide.2 (pO _ rfl r)).mono ?_;rintro e A ⟨rfl,b4⟩;obtain⟨b6,e1,a6,a9,H⟩:=h1.o;have j0:B<=r.heap.size:=ad k b6.size;have d2:Blk A r.heap.size 28 [.slice q2 (x.l.length+x.els.length) q5]:=by rw[b4];exact ar r _ _
   have a8:Kq B b.heap.size r A:=by rw[b4];exact Kq.alloc r _ j0
   have l1:G (u++[U]) A:=by rw[b4];exact L.o.alloc _ a6
   have b7:=b6.trans a8;have c9:B<=A.heap.size:=ad k b7.size;have a4:b.heap.size<A.heap.size:=by have:=d2.lt;have:=b6.size;omega
   have m0:=g7.o A r.heap.size _ (H.trans b7.below) c9 d2 (a9.kq a8);have e5:=g3.o.kq (e1.trans a8);have k3:=(e1.trans a8).blk f8.o nk;have k7:∀K,({target:=.collected K,args:=#[]}:Deferred)∈P->K<A.heap.size:=λK Q=>by
    obtain⟨p5,r9,-,c8⟩:=e5.1 _ Q;obtain rfl:K=p5:=by injection r9 with c6;injection c6
    exact(y1w.1 c8).1
   have j8:AbM A.heap.size (λT X=>((G ((u++[U])++T) X/\Marks b.heap.size P X)/\Kq B b.heap.size b X)/\Blk X b.heap.size 189 [.func (.yield J) #[] #[]]):=
    AbM.and (AbM.and (AbM.and (λs c2 f5 row I d8 e7=>L.o.later (Nat.le_of_lt a4) _ c2 f5 row I d8 e7) (tS k7)) (qb k (Nat.le_of_lt a4))) (qq a4)
   have y:=Hd (an l1 (an e5 (an b7 (an k3 (an c9 a4)))));have q0:=Hd m0;have f4:=Hd j8;clear b6 e1 a6 a9 H j0 d2 a8 l1 b7 c9 a4 m0 e5 k3 k7 h1 g7 g1 g2 b4 j8 q7 c6 q8 q9 r0 r1 r2 r3 r4 b2 m2 p4 h4 h5 h6 h7 h8 h9 i0 i1 i2 m4 m5 m6 m7 m8 m9 n0 n1 n2 n3 n4 n5 n6 n7 n8 n9 o0 o1 j5 b3 c4 f7
   gi_wp2_with fail
   refine nF (gf:=142) (lb:=#[.pointer (some ⟨r.heap.size,0,none⟩)]) rfl ns q0.o (Below.refl _ _) y.o.2.2.2.2.1 (λ_=>rfl)
    (λT X=>((G ((u++[U])++T) X/\Marks b.heap.size P X)/\Kq B b.heap.size b X)/\Blk X b.heap.size 189 [.func (.yield J) #[] #[]]) ?hI ?h0
    (λc1 a X=>∃C,Blk X C 37 c1.1.2/\a.tmps.size=29/\a.tmps.getD 2 undef=.pointer (some ⟨b.heap.size,0,none⟩)/\a.tmps.getD 5 undef=.pointer (some ⟨C,0,none⟩)/\a.defers=[]) ?hAx ?assign ?body ?done
   case hI=>exact f4.o
   case h0=>exact⟨⟨⟨by rw[List.append_nil];exact y.o.1,y.o.2.1⟩,y.o.2.2.1⟩,y.o.2.2.2.1⟩
   case hAx=>
    rintro c1 a _ c2 f5 row ⟨C,t,g⟩ d8 e7;refine⟨C,(d8.block C t.lt (λe=>?_)).trans t,g⟩;obtain⟨_,o,b8,d4⟩:=e7 C e.symm;rw[show c2.heap[C]? =_ from t] at b8;cases b8;cases d4
   case assign=>
    rintro m3 T ⟨⟨F,f3⟩,b0⟩ X t4 ⟨⟨⟨h,q⟩,i⟩,j⟩ j3;obtain⟨o5,o7,o8,o9,p1,p3,d5,-,-,-,-,-,-⟩:=RI_iff.1 (show RI w0 B F f3 from b0);subst d5;have s9:=lh (show RI w0 B F _ from b0);obtain⟨q1,c5,j5,⟨m4,m5,m6,m7,m8,m9,n0,n1,n2⟩,⟨n3,n4,n5,n6,n7,n8,n9,o0,o1⟩,b3,m,E,f1⟩:=iy X (.int .i64 F.op) (.string F.name) (.string F.of) o5 o7 o8 o9 p1 p3;have p6:=Hd j3;have V:=Hd (an h (an q (an i (an j (an m E)))));clear j3 h q i j m E f1;simp only[hW]
    gi_wp2
    obtain⟨h,q,i,j,m,E⟩:=V.o;exact p6.o _ _ (Kq.ext E (ad k i.size)) (f4.o T X c5 none ⟨⟨⟨h,q⟩,i⟩,j⟩ (bW E) (λo3 e=>by cases e)) ⟨_,m,rfl,rfl,rfl,rfl⟩
   case body=>
    rintro m3 T ⟨⟨F,f3⟩,b0⟩ a X v4 - ⟨⟨⟨h,q⟩,i⟩,j⟩ ⟨C,s6,I,g,i5,D⟩ s5;obtain⟨o5,o7,o8,o9,p1,p3,d5,-,-,-,-,-,-⟩:=RI_iff.1 (show RI w0 B F f3 from b0);subst d5;have f0:=g5.o _ ⟨(F,_),b0⟩ X h (by
     have t:=g8.o;have g:=congrArg List.length b1.o;rw[List.length_map] at g;simp only[List.length_append,List.length_cons,List.length_nil] at t s5⊢;omega)
    simp only[hW] at f0;obtain⟨r5,t2,q3,q4,m2,b2⟩:=show YieldAt (Fence.wide.inRound m3) 0 Tryz.prog J _ X _ from f0
    rw[el I D];simp only[List.range,List.range.loop,List.map_cons,List.map_nil,g,i5];generalize a.tmps.getD 0 undef=z0;generalize a.tmps.getD 1 undef=z1;generalize a.tmps.getD 3 undef=z3;generalize a.tmps.getD 4 undef=z4;generalize a.tmps.getD 6 undef=z6;generalize a.tmps.getD 7 undef=z7;generalize a.tmps.getD 8 undef=z8;generalize a.tmps.getD 9 undef=z9;generalize a.tmps.getD 10 undef=z10;generalize a.tmps.getD 11 undef=z11;generalize a.tmps.getD 12 undef=z12;generalize a.tmps.getD 13 undef=z13;generalize a.tmps.getD 14 undef=z14;generalize a.tmps.getD 15 undef=z15;generalize a.tmps.getD 16 undef=z16;generalize a.tmps.getD 17 undef=z17;generalize a.tmps.getD 18 undef=z18;generalize a.tmps.getD 19 undef=z19;generalize a.tmps.getD 20 undef=z20;generalize a.tmps.getD 21 undef=z21;generalize a.tmps.getD 22 undef=z22;generalize a.tmps.getD 23 undef=z23;generalize a.tmps.getD 24 undef=z24;generalize a.tmps.getD 25 undef=z25;generalize a.tmps.getD 26 undef=z26;generalize a.tmps.getD 27 undef=z27;generalize a.tmps.getD 28 undef=z28;have V:=Hd (an h (an q (an i j)));have p4:=j.get1;obtain⟨h4,h5,h6,h7,h8,h9,i0,i1,i2⟩:=s6.get9;clear I g i5 D h q i f0
    gi_wp2
    refine⟨rfl,b2.mono ?_⟩;rintro e t5 ⟨rfl,a5,p⟩;have n:=Hd (an a5 (an (V.o.2.1.kq p) (an (V.o.2.2.1.trans p) (an (p.blk V.o.2.2.2 nk) (p.later (Nat.le_of_lt y.o.2.2.2.2.2))))));clear a5 p
    gi_wp2
    refine⟨n.o.2.2.2.2,⟨⟨?_,n.o.2.1⟩,n.o.2.2.1⟩,n.o.2.2.2.1⟩;have c7:=n.o.1;simpa only[List.append_assoc,List.cons_append,List.nil_append] using c7
   case done=>
    rintro K t3 X Q j4 ⟨⟨⟨h,q⟩,i⟩,j⟩ s2 j1;have n:=Hd (an h (an (Marks.push y.o.2.1 q Q (by have:=y.o.2.2.2.2.2;omega) j1) (an i j)));have p9:=Hd (show((u++[U])++t3).map (·.1.1)=bD (l.take (f+1)) from by
     rw[g9.o,List.map_append,List.map_append,b1.o,j4,List.map_cons,List.map_nil,p8.o,List.append_assoc];rfl)
    clear h q i j s2 j1 j4
    gi_wp2
    exact⟨S,⟨rfl,rfl,rfl,rfl,rfl⟩,S,n.o.2.1,⟨_,p9.o,n.o.1⟩,n.o.2.2.1,n.o.2.2.2⟩
  ·have s1:f=l.length:=by omega
   subst s1
   gi_wp2
   refine rl 0 _ _ b.heap.size (λf2=>G u f2/\Kq B b.heap.size b f2) _ ?_ rfl ?_ P W g3.o ⟨g0.o,M.o⟩
   ·rintro v f2 ⟨g,c8⟩;exact⟨⟨v,rfl⟩,u,by rw[b1.o,List.take_length],g,c8⟩
   ·rintro X K o o2 ⟨t,g⟩ Q b8 d4;exact⟨L.o.putObj o2 t Q b8 d4,g.putNew k Q o2⟩
 ·refine⟨⟨rfl,rfl,rfl,rfl,rfl⟩,aO _,⟨(λd D=>by cases D),.nil⟩,⟨[],by simp[bD],c3.o.2.2⟩,c3.o.2.1,c3.o.1⟩
theorem th(w0:World)(B:Nat)(b:B<=w0.heap.size):∀(n:Nat) (l:List Itm),ab ai l<=n->n<=10000000->kY w0 B l:=by
 intro n;induction n with
 |zero=>
  intro l f g;have c:=aw ai l cT;exact pP w0 B b l zO (λx a=>by have:=aD ai l x a;have:=cT x;omega) λx a=>by have:=aD ai l x a;have:=cT x;omega
 |succ n ih=>
  intro l f g;have c:=aw ai l cT;refine pP w0 B b l zO (λx a=>?_) λx a=>?_
  ·have d:=aD ai l x a;have e:=bB x;have h:=aw ai x.l cT;have i:=aw ai x.els cT;omega
  ·have d:=aD ai l x a;have e:=bB x;exact ih _ (by rw[jR];omega) zO
end Go.Proofs.YtlfmlodanoolhaaGreatDoor
