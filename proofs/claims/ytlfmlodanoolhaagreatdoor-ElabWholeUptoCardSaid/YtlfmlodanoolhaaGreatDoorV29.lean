import Derived.Test.YtlfmlodanoolhaaGreatDoorV25
import Derived.Test.YtlfmlodanoolhaaGreatDoorV9
set_option linter.all false
set_option maxRecDepth 200000
set_option maxHeartbeats 0
namespace Go.Proofs.YtlfmlodanoolhaaGreatDoor
open Go Go.RowKit Go.Shelf Go.Proofs.Tryz
attribute [local go_sem] Oper.semAt_some bc
theorem zV{p:Prop}(h:p:=by simp[Value.oneCell']):p:=h
theorem nz:(Tryz.prog.info? 9).map (λi=>(i.zero,i.size,i.bytes))=some (some (.string ⟨#[]⟩),1,16):=by kernel_rfl
theorem px(a:List ByteArray)(f:Value)(b:ByteArray)(w:World)(n:Nat)(h:w.ownsRow n 9 1 f a.length (a.map .string)):
 Calls Tryz.prog 99 #[f,.string b] w λe o=>e=.returned (.bool (yes (b∈a)))/\o=w:=by
 rcases h.2 with⟨rfl,j⟩|⟨i,g,p,rfl,_,q,_,l,_⟩
 ·have:a=[]:=dl j;subst this;rw[show yes (b∈([]:List ByteArray))=false from yes_no.2 (λh=>by cases h)];exact Tryz.slices_Contains_string_empty none 0 b w
 ·have c:=Tryz.slices_Contains_string i 0 a.length g a b w (ac _) (by simp only[maxLen] at l;omega) (λm d=>by
   rw[h.cellAt (0+m) zO,Nat.zero_add,List.getElem?_map,List.getElem?_eq_getElem d];simp[List.getD,d])
  rw[List.take_length] at c;have k:Go.Lib.containsS a b=yes (b∈a):=by rw[Bool.eq_iff_iff,Go.Lib.containsS_iff,yes_iff]
  rw[<-k];exact c
theorem Am(n:Nat)(i:Func)(tmps:Array Value)(w0:World)(k:Value)(b:List ByteArray)(r:i.results=#[.tmp 2])(ht:tmps.getD 2 undef=k):
 ∀(ds:List Deferred) (W:World),Marks w0.heap.size ds W->W.ownsRow w0.heap.size 9 1 k b.length (b.map .string)->Below w0.heap.size w0 W->
  LeavesInM Fence.wide n Tryz.prog i tmps (λe l=>∃v,e=.returned v/\l.ownsRow w0.heap.size 9 1 v b.length (b.map .string)/\Ext w0 l) ds .returning W:=by
 intro ds;induction ds with
 |nil=>
  intro W a g f;exact⟨_,results_tmp r _ _ _,_,rfl,by rw[ht];exact g,f⟩
 |cons d ds ih=>
  intro W a g f;obtain⟨h,rfl,o,c⟩:=a.1 d (cc ..);refine⟨zS,.inl ⟨h,_,rfl,run_takeDeferred c,ih _ ⟨λd j=>?_,(List.pairwise_cons.1 a.2).2⟩ (ownsRow_putObj g _ c rfl) (f.trans (belowK_b (w:=w0) (ac _) W h _ _ o c rfl rfl))⟩⟩;obtain⟨m,rfl,p,q⟩:=a.1 d (bi _ j);refine⟨m,rfl,p,(World.putObj_heap_other (λe=>?_)).trans q⟩;subst e;exact(List.pairwise_cons.1 a.2).1 _ j rfl
theorem wI:∀x:Itm,(eI x).length<=aj x:=by
 intro x;induction x using Itm.ind with
 |h x h1 h2=>
  have c:∀l:List Itm,(∀a,a∈l->(eI a).length<=aj a)->(bJ l).length<=aa aj l:=by
   intro l;induction l with
   |nil=>intro _;exact ac _
   |cons a r ih=>
    intro b;show(eI a++bJ r).length<=aj a+aa aj r;rw[List.length_append];have:=b a (cc ..);have:=ih λe d=>b e (bi _ d)
    omega
  have:=c _ h1;have:=c _ h2;have:=bq x;rw[ne,List.length_cons,List.length_append];omega
theorem rM(l:List Itm):(bJ l).length<=aa aj l:=by
 induction l with
 |nil=>exact ac _
 |cons y r ih=>
  show(eI y++bJ r).length<=aj y+aa aj r;rw[List.length_append];have:=wI y;omega
theorem rK(l:List Itm):(l.flatMap dE).length<=l.length:=by
 induction l with
 |nil=>exact ac _
 |cons y r ih=>
  rw[List.flatMap_cons,List.length_append,List.length_cons];have:(dE y).length<=1:=by unfold dE;split<;>simp
  omega
noncomputable def cw{w0:World}{B:Nat}(pre:List (ItC w0 B)):List ByteArray:=cX [] ((pre.map (·.1.1)).flatMap dE)
theorem wA{w0:World}{B:Nat}(pre:List (ItC w0 B)):(cw pre).length<=pre.length:=by
 have a:=rk ((pre.map (·.1.1)).flatMap dE) [];have b:=rK (pre.map (·.1.1));rw[List.length_map] at b;simp only[List.length_nil] at a;unfold cw;omega
theorem Aw{w0:World}{B:Nat}(pre:List (ItC w0 B))(x:ItC w0 B):cw (pre++[x])=cX (cw pre) (dE x.1.1):=by
 unfold cw;rw[List.map_append,List.flatMap_append,uE];simp
def iK{w0:World}{B:Nat}(w:World)(lb:Nat)(pre:List (ItC w0 B))(X:World):Prop:=
 ∃a,Blk X lb 104 [a]/\X.ownsRow w.heap.size 9 1 a (cw pre).length ((cw pre).map .string)/\Below w.heap.size w X
theorem nY:eo 9:=.inl rfl
theorem qh:eo 104:=.inr rfl
theorem oK{w0 w g:World}{B lb:Nat}(h:w.heap.size<=g.heap.size):AbM g.heap.size (iK (w0:=w0) (B:=B) w lb):=by
 rintro pre X r row ⟨q,b,i,j⟩ c f;refine⟨q,(c.block lb b.lt (λe=>?_)).trans b,i.kept c ?_,j.grown c (by have:=j.size;omega) (λp e=>ad h (f p e).1)⟩
 ·obtain⟨_,o,a,d⟩:=f lb e.symm;rw[show X.heap[lb]? =_ from b] at a;cases a;exact d qh
 ·rcases im i with l|⟨k,s,n,m⟩
  ·exact .inl l
  ·refine .inr λe=>?_
   rw[n] at e;obtain⟨_,o,a,d⟩:=f k e.symm;rw[m] at a;cases a;exact d nY
theorem yL{X:World}{base k:Nat}{a:Value}{xs:List Value}(h:X.ownsRow base 9 1 a k xs):∃b l c,a=.slice b l c:=by
 rcases h.2 with⟨rfl,_⟩|⟨f,d,e,rfl,_⟩<;>exact⟨_,_,_,rfl⟩
theorem mu{X:World}{lb base k:Nat}{a u:Value}{xs:List Value}(f:Blk X lb 104 [u])(g:X.ownsRow base 9 1 a k xs):some lb≠a.ownBlock:=by
 rcases im g with b|⟨i,h,c,d⟩
 ·rw[b];simp
 ·intro e;rw[c] at e;cases e;have:=(show X.heap[_]? =_ from f).symm.trans d;simp at this
theorem rX{w X a:World}(B n:Nat){lb k v:Nat}{d c:Value}{xs x:List Value}(I:B<=w.heap.size)(C:w.heap.size<=lb)(q:Blk X lb 104 [d])(t:X.ownsRow w.heap.size 9 1 d k xs)(r:Below w.heap.size w X)(o:Obj)
 (s:a.ownsRow w.heap.size 9 1 c v x) (i:(X.alloc o).grownBy a d.ownBlock):
 a.frozen? ⟨lb,0,none⟩=false/\Blk (a.setCell ⟨lb,0,none⟩ c) lb 104 [c]/\(a.setCell ⟨lb,0,none⟩ c).ownsRow w.heap.size 9 1 c v x/\Below w.heap.size w (a.setCell ⟨lb,0,none⟩ c)/\Kq B n X (a.setCell ⟨lb,0,none⟩ c):=by
 have D:=mu q t;have p:Blk (X.alloc o) lb 104 [d]:=q.ext (aE X o);have h:Blk a lb 104 [d]:=(i.block lb p.lt D).trans p;have J:=r.size;have u:∀b,d.ownBlock=some b->w.heap.size<=b/\∃g,X.heap[b]? =some (.cells g 9 (0,0)):=by
  intro b e;rcases t.2 with⟨rfl,_⟩|⟨y,G,g,rfl,A,z,_⟩
  ·cases e
  ·obtain rfl:y=b:=by simpa [Value.ownBlock] using e
   exact⟨A,g,z⟩
 have j:Kq B n X (X.alloc o):=Kq.alloc X o zO;have l:Kq B n (X.alloc o) a:=Kq.grown i (by simp;omega) (λb e=>by
  obtain⟨H,g,m⟩:=u b e;refine⟨zO,λF f=>.inl ?_⟩;rw[(Ext.new X o).block b (Array.getElem?_eq_some_iff.1 m).1,m] at f;cases f;exact⟨_,_,_,rfl,nY⟩)
 have E:Kq B n a (a.setCell ⟨lb,0,none⟩ c):=Kq.grown (grownBy_setCell' a lb c) (by have:=j.size;have:=l.size;omega) (λb e=>by
  cases e;refine⟨zO,λF f=>.inl ?_⟩;rw[show a.heap[lb]? =_ from h] at f;cases f;exact⟨_,_,_,rfl,qh⟩)
 refine⟨h.free1,?_,?_,?_,(j.trans l).trans E⟩
 ·exact h.store1 c
 ·exact s.kept (grownBy_setCell' a lb c) (.inr (mu h s).symm)
 ·exact((r.alloc zO o).grown i (by simp;omega) (λb e=>(u b e).1)).grown (grownBy_setCell' a lb c) (by have:=j.size;have:=l.size;omega) (λb e=>by cases e;exact C)
theorem rf(B:Nat)(m:Mdl)(w:World)(a7:List Value)(e7:RM w B m a7)(s:B<=w.heap.size)(U:aa aj m.items<=10000000):
 Calls Tryz.prog 62 #[.agg a7.toArray] w λe c9=>∃v,e=.returned v/\c9.ownsRow w.heap.size 9 1 v (cg m).length ((cg m).map .string)/\Ext w c9:=by
 obtain⟨h2,h3,Y,rfl,b8,b9,S⟩:=e7;have g4:=b8.oneCell;have k7:=b9.oneCell;have g5:=S.oneCell;have Z:=Hd (vq w B s 10000000 m.items U (ac _));have d9:=Hd (ad (rM m.items) U);obtain⟨h7,f,e8,V,g1,a4,a5,a6,F⟩:=en w (.string m.name) h2 h3 Y 30;obtain⟨g,G⟩:∃g,g=f.w.alloc (.cells #[.slice none 0 0] 104):=⟨_,rfl⟩;have e9:=G.symm;have W:Ext f.w g:=by rw[G];exact aE _ _
 have b4:Blk g f.w.heap.size 104 [.slice none 0 0]:=by rw[G];exact ax f.w _ _
 have F:=(W.at_ (F f));have c0:=(V.trans f.ext).trans W;have O:=Hd c0;have d7:=(V.trans f.ext).size;have a2:=Hd S;have a1:=Hd b4;clear b8 b9 S V g1 U W b4 G c0;refine(callsIn_wide (n:=0)).1 ?_;refine callsIn_of_wp_marks func62 rfl trivial ?_ rfl;simp only[ntmps62,List.size_toArray,List.length_cons,List.length_nil,Nat.reduceAdd,Nat.reduceSub,Array.replicate_succ,Array.replicate_zero,List.push_toArray,List.append_toArray,List.nil_append,List.cons_append]
 gi_wp2
 refine⟨trivial,rfl,?_⟩;refine(callsIn_wide.2 (rt _ g5 g)).mono ?_;rintro e q ⟨rfl,Q⟩;have L:Ext g q:=by rw[Q];exact aE _ _
 have b5:Blk q g.heap.size 28 [Y]:=by rw[Q];exact ax g _ _
 have P:B<=q.heap.size:=ad s (O.o.trans L).size;have y:=O.o.trans L;have e3:=Hd (Z.o q g.heap.size Y (Below.mono y s) P b5 (RowQ.of_sl a2.o (Below.mono y s)));have e1:=Hd (show iK (w0:=w) (B:=B) w f.w.heap.size [] q from⟨_,a1.o.ext L,World.ownsRow_nil _ _ _ _,y⟩);have D:=Hd (aq P y);have a3:=Hd d7;clear L b5 P y Q Z a2 a1 O a4 a5 a6 F e8 e9
 gi_wp2
 refine pz (gf:=142) (lb:=#[.pointer (some ⟨g.heap.size,0,none⟩)]) rfl pj e3.o (Below.refl _ _) D.o.1 (λ_=>rfl)
  (iK w f.w.heap.size) (oK D.o.2.size) e1.o
  (λl a X=>∃h,Blk X h 37 l.1.2/\a.tmps.size=25/\a.tmps.getD 1 undef=.pointer (some ⟨w.heap.size,0,none⟩)/\a.tmps.getD 3 undef=.pointer (some ⟨f.w.heap.size,0,none⟩)/\a.tmps.getD 4 undef=.pointer (some ⟨h,0,none⟩)/\a.defers=[]) ?hAx ?assign ?body ?done
 case hAx=>
  rintro l a _ d3 h5 row ⟨h,r,e4⟩ f2 f6;refine⟨h,(f2.block h r.lt (λe=>?_)).trans r,e4⟩;obtain⟨_,o,b7,f1⟩:=f6 h e.symm;rw[show d3.heap[h]? =_ from r] at b7;cases b7;cases f1
 case assign=>
  rintro g3 pre ⟨⟨b,h4⟩,c2⟩ X h6 hinv b1;obtain⟨c3,c4,c5,c6,c7,c8,I,-,-,-,-,-,-⟩:=RI_iff.1 (show RI w B b h4 from c2);subst I;have g4:=mS (show RI w B b _ from c2);obtain⟨h8,h9,i5,⟨i9,j0,j1,j2,j3,j4,j5,j6,j7⟩,⟨j8,j9,k0,k1,k2,k3,k4,k5,k6⟩,i6,H,C,g2⟩:=iJ X (.int .i64 b.op) (.string b.name) (.string b.of) c3 c4 c5 c6 c7 c8;have d6:=Hd b1;have c:=Hd (aq hinv (aq H C));clear b1 hinv H C g2;simp only[iC]
  gi_wp2
  obtain⟨hinv,H,C⟩:=c.o;have e5:B<=X.heap.size:=by obtain⟨_,-,-,f0⟩:=hinv;exact ad s f0.size
  exact d6.o _ _ (Kq.ext C e5) (oK D.o.2.size _ _ _ none hinv (cp C) (λk8 e=>by cases e)) ⟨_,H,rfl,rfl,rfl,rfl,rfl⟩
 case body=>
  rintro g3 pre l a X i7 - ⟨k,i,u,z⟩ ⟨h,M,c1,r,a8,a9,J⟩ f4;have x:=Aw pre l;have f5:=wA pre;obtain⟨c3,c4,c5,c6,c7,c8,I,-,-,-,-,-,-⟩:=RI_iff.1 l.2;rw[I] at M;clear I;obtain⟨p,b2⟩:∃p,p=pre++[l]:=⟨_,rfl⟩;rw[<-b2] at x⊢;clear b2;generalize l.1.1=b at*;rw[ey c1 J];simp only[List.range,List.range.loop,List.map_cons,List.map_nil,r,a8,a9];generalize a.tmps.getD 0 undef=z0;generalize a.tmps.getD 2 undef=z2;generalize a.tmps.getD 5 undef=z5;generalize a.tmps.getD 6 undef=z6;generalize a.tmps.getD 7 undef=z7;generalize a.tmps.getD 8 undef=z8;generalize a.tmps.getD 9 undef=z9;generalize a.tmps.getD 10 undef=z10;generalize a.tmps.getD 11 undef=z11;generalize a.tmps.getD 12 undef=z12;generalize a.tmps.getD 13 undef=z13;generalize a.tmps.getD 14 undef=z14;generalize a.tmps.getD 15 undef=z15;generalize a.tmps.getD 16 undef=z16;generalize a.tmps.getD 17 undef=z17;generalize a.tmps.getD 18 undef=z18;generalize a.tmps.getD 19 undef=z19;generalize a.tmps.getD 20 undef=z20;generalize a.tmps.getD 21 undef=z21;generalize a.tmps.getD 22 undef=z22;generalize a.tmps.getD 23 undef=z23;generalize a.tmps.getD 24 undef=z24;have i8:(cw pre).length<=10000000:=by have:=d9.o;omega
  have d2:=i.get1;have l6:=i.free1;obtain⟨a4,a5,a6,F,i0,i1,i2,i3,i4⟩:=M.get9;have c:=Hd (aq i (aq u (aq z M)));have a0:=Hd s;have d8:=Hd (mu i u);clear c1 r a8 a9 J i u z M f5 f4;by_cases K:b.op=7
  ·have A:dE b=[b.of]:=by unfold dE;rw[if_pos K]
   have g6:(b.op==7)=true:=by rw[K];rfl
   have E:=Hd (show cw p=ep (cw pre) b.of from by rw[x,A,zs]);clear x A;have b6:=d8.o;by_cases t:b.of∈cw pre
   ·have N:=Hd ((show yes (b.of∈cw pre)=true from yes_iff.2 t)▸px (cw pre) k b.of X w.heap.size c.o.2.1);have hinv:iK w f.w.heap.size p X:=⟨k,c.o.1,by rw[E.o,jT t];exact c.o.2.1,c.o.2.2.1⟩;have j:=Hd hinv;clear hinv t E b6
    gi_wp2_with (first
     |(refine⟨trivial,rfl,?_⟩;refine(callsIn_wide.2 N.o).mono ?_;rintro e d0 ⟨rfl,rfl⟩)
     |refine⟨trivial,?_⟩)
    exact⟨Kq.refl _ _ _,j.o⟩
   ·have N:=Hd ((show yes (b.of∈cw pre)=false from yes_no.2 t)▸px (cw pre) k b.of X w.heap.size c.o.2.1);have e0:=Hd (show cw p=cw pre++[b.of] from by rw[E.o,iu t]);obtain⟨h1,f8,g0,f9,f7⟩:=info_parts nz;clear t E
    gi_wp2_with (first
     |(gi_at_builtin;refine wpListIn_append_own _ rfl _ _ 104 rfl w.heap.size 9 h1 (.string ⟨#[]⟩) 1 16 underlying104 f8 g0 f9 f7 rfl zD k (cw pre).length ((cw pre).map .string) rfl (c.o.2.1.alloc _) ⟨d0.heap.size,0,none⟩ 1 1 [.string b.of] rfl rfl (cell_one_new _ _ _) zV (by simp only[maxLen];omega) zO (by have:=c.o.2.2.1.size;simp;omega) ?_;intro k9 l3 T R _;obtain⟨l0,l2,l1,rfl⟩:=yL T;have l4:=R.cell ((aE _ _).at_ d2) b6;have l5:=(rX B 0 a0.o a3.o c.o.1 c.o.2.1 c.o.2.2.1 _ T R).1)
     |(refine⟨trivial,rfl,?_⟩;refine(callsIn_wide.2 N.o).mono ?_;rintro e d0 ⟨rfl,rfl⟩)
     |refine⟨trivial,?_⟩)
    obtain⟨-,g7,g8,g9,h0⟩:=rX B q.heap.size a0.o a3.o c.o.1 c.o.2.1 c.o.2.2.1 _ T R;exact⟨h0,_,g7,by rw[e0.o,List.length_append,List.map_append];exact g8,g9⟩
  ·have g6:(b.op==7)=false:=by rw[beq_eq_false_iff_ne];exact K
   have A:dE b=[]:=by unfold dE;rw[if_neg K]
   rw[A,zr] at x;have hinv:iK w f.w.heap.size p X:=⟨k,c.o.1,by rw[x];exact c.o.2.1,c.o.2.2.1⟩;have j:=Hd hinv;clear hinv x A
   gi_wp2_with (refine⟨trivial,?_⟩)
   exact⟨Kq.refl _ _ _,j.o⟩
 case done=>
  rintro d4 d1 X e6 b3 ⟨k,i,u,z⟩ f3 b0;have d2:=i.get1;have j:=Hd (aq u (aq z b0));have e2:=Hd (show cw d1=cg m from by unfold cw cg;rw[b3,qc]);have d5:=Hd (ad D.o.2.size e6);clear u z f3 b0 b3 i
  gi_wp2
  rw[<-e2.o];refine Am 0 _ _ w k (cw d1) rfl rfl _ X ⟨λd J=>?_,?_⟩ j.o.1 j.o.2.1
  ·obtain rfl:=y8d.1 J;exact⟨d4,rfl,d5.o,j.o.2.2⟩
  ·exact List.pairwise_singleton _ _
