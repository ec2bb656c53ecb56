import Derived.Test.YtlfmlodanoolhaaGreatDoorY21
import Derived.Test.YtlfmlodanoolhaaGreatDoorY11
set_option linter.all false
set_option maxRecDepth 200000
set_option maxHeartbeats 32000000
namespace Go.Proofs.YtlfmlodanoolhaaGreatDoor
open Go Go.RowKit Go.Shelf Go.Proofs.Tryz
attribute [local go_sem] Oper.semAt_some bc
theorem zV{p:Prop}(h:p:=by simp[Value.oneCell']):p:=h
theorem nG:(Tryz.prog.info? 9).map (λi=>(i.zero,i.size,i.bytes))=some (some (.string ⟨#[]⟩),1,16):=by kernel_rfl
theorem nC(a:List ByteArray)(f:Value)(b:ByteArray)(w:World)(n:Nat)(h:w.ownsRow n 9 1 f a.length (a.map .string)):
 Calls Tryz.prog 99 #[f,.string b] w λe o=>e=.returned (.bool (yes (b∈a)))/\o=w:=by
 rcases h.2 with⟨rfl,j⟩|⟨i,g,p,rfl,_,q,_,l,_⟩
 ·have:a=[]:=cW j;subst this;rw[show yes (b∈([]:List ByteArray))=false from yes_no.2 (λh=>by cases h)];exact Tryz.slices_Contains_string_empty none 0 b w
 ·have c:=Tryz.slices_Contains_string i 0 a.length g a b w (ac _) (by simp only[maxLen] at l;omega) (λm d=>by
   rw[h.cellAt (0+m) zO,Nat.zero_add,List.getElem?_map,List.getElem?_eq_getElem d];simp[List.getD,d])
  rw[List.take_length] at c;have k:Go.Lib.containsS a b=yes (b∈a):=by rw[Bool.eq_iff_iff,Go.Lib.containsS_iff,yes_iff]
  rw[<-k];exact c
theorem xy(n:Nat)(i:Func)(tmps:Array Value)(w0:World)(k:Value)(b:List ByteArray)(r:i.results=#[.tmp 2])(ht:tmps.getD 2 undef=k):
 ∀(ds:List Deferred) (W:World),Marks w0.heap.size ds W->W.ownsRow w0.heap.size 9 1 k b.length (b.map .string)->Below w0.heap.size w0 W->
  LeavesInM Fence.wide n Tryz.prog i tmps (λe l=>∃v,e=.returned v/\l.ownsRow w0.heap.size 9 1 v b.length (b.map .string)/\Ext w0 l) ds .returning W:=by
 intro ds;induction ds with
 |nil=>
  intro W a g f;exact⟨_,results_tmp r _ _ _,_,rfl,by rw[ht];exact g,f⟩
 |cons d ds ih=>
  intro W a g f;obtain⟨h,rfl,o,c⟩:=a.1 d (du ..);refine⟨zS,.inl ⟨h,_,rfl,run_takeDeferred c,ih _ ⟨λd j=>?_,(List.pairwise_cons.1 a.2).2⟩ (ownsRow_putObj g _ c rfl) (f.trans (belowK_b (w:=w0) (ac _) W h _ _ o c rfl rfl))⟩⟩;obtain⟨m,rfl,p,q⟩:=a.1 d (cf _ j);refine⟨m,rfl,p,(World.putObj_heap_other (λe=>?_)).trans q⟩;subst e;exact(List.pairwise_cons.1 a.2).1 _ j rfl
theorem up:∀x:Itm,(ey x).length<=ai x:=by
 intro x;induction x using Itm.ind with
 |h x h1 h2=>
  have c:∀l:List Itm,(∀a,a∈l->(ey a).length<=ai a)->(bD l).length<=ab ai l:=by
   intro l;induction l with
   |nil=>intro _;exact ac _
   |cons a r ih=>
    intro b;show(ey a++bD r).length<=ai a+ab ai r;rw[List.length_append];have:=b a (du ..);have:=ih λe d=>b e (cf _ d)
    omega
  have:=c _ h1;have:=c _ h2;have:=bB x;rw[lv,List.length_cons,List.length_append];omega
theorem lY(l:List Itm):(bD l).length<=ab ai l:=by
 induction l with
 |nil=>exact ac _
 |cons y r ih=>
  show(ey y++bD r).length<=ai y+ab ai r;rw[List.length_append];have:=up y;omega
theorem lX(l:List Itm):(l.flatMap dl).length<=l.length:=by
 induction l with
 |nil=>exact ac _
 |cons y r ih=>
  rw[List.flatMap_cons,List.length_append,List.length_cons];have:(dl y).length<=1:=by unfold dl;split<;>simp
  omega
noncomputable def cm{w0:World}{B:Nat}(a:List (ItC w0 B)):List ByteArray:=cO [] ((a.map (·.1.1)).flatMap dl)
theorem uj{w0:World}{B:Nat}(a:List (ItC w0 B)):(cm a).length<=a.length:=by
 have b:=pF ((a.map (·.1.1)).flatMap dl) [];have c:=lX (a.map (·.1.1));rw[List.length_map] at c;simp only[List.length_nil] at b;unfold cm;omega
theorem xF{w0:World}{B:Nat}(a:List (ItC w0 B))(x:ItC w0 B):cm (a++[x])=cO (cm a) (dl x.1.1):=by
 unfold cm;rw[List.map_append,List.flatMap_append,qT];simp
def ie{w0:World}{B:Nat}(w:World)(lb:Nat)(a:List (ItC w0 B))(X:World):Prop:=
 ∃b,Blk X lb 104 [b]/\X.ownsRow w.heap.size 9 1 b (cm a).length ((cm a).map .string)/\Below w.heap.size w X
theorem nW:eh 9:=.inl rfl
theorem oC:eh 104:=.inr rfl
theorem mR{w0 w g:World}{B lb:Nat}(h:w.heap.size<=g.heap.size):AbM g.heap.size (ie (w0:=w0) (B:=B) w lb):=by
 rintro t X r row ⟨q,b,i,j⟩ c f;refine⟨q,(c.block lb b.lt (λe=>?_)).trans b,i.kept c ?_,j.grown c (by have:=j.size;omega) (λp e=>ad h (f p e).1)⟩
 ·obtain⟨_,o,a,d⟩:=f lb e.symm;rw[show X.heap[lb]? =_ from b] at a;cases a;exact d oC
 ·rcases hK i with l|⟨k,s,n,m⟩
  ·exact .inl l
  ·refine .inr λe=>?_
   rw[n] at e;obtain⟨_,o,a,d⟩:=f k e.symm;rw[m] at a;cases a;exact d nW
theorem wa{X:World}{c k:Nat}{a:Value}{xs:List Value}(h:X.ownsRow c 9 1 a k xs):∃b l d,a=.slice b l d:=by
 rcases h.2 with⟨rfl,_⟩|⟨g,e,f,rfl,_⟩<;>exact⟨_,_,_,rfl⟩
theorem kL{X:World}{lb b k:Nat}{a u:Value}{xs:List Value}(g:Blk X lb 104 [u])(h:X.ownsRow b 9 1 a k xs):some lb≠a.ownBlock:=by
 rcases hK h with c|⟨j,i,d,f⟩
 ·rw[c];simp
 ·intro e;rw[d] at e;cases e;have:=(show X.heap[_]? =_ from g).symm.trans f;simp at this
theorem mj{w X a:World}(B n:Nat){lb k v:Nat}{d c:Value}{xs x:List Value}(I:B<=w.heap.size)(C:w.heap.size<=lb)(q:Blk X lb 104 [d])(t:X.ownsRow w.heap.size 9 1 d k xs)(r:Below w.heap.size w X)(o:Obj)
 (s:a.ownsRow w.heap.size 9 1 c v x) (i:(X.alloc o).grownBy a d.ownBlock):
 a.frozen? ⟨lb,0,none⟩=false/\Blk (a.setCell ⟨lb,0,none⟩ c) lb 104 [c]/\(a.setCell ⟨lb,0,none⟩ c).ownsRow w.heap.size 9 1 c v x/\Below w.heap.size w (a.setCell ⟨lb,0,none⟩ c)/\Kq B n X (a.setCell ⟨lb,0,none⟩ c):=by
 have D:=kL q t;have p:Blk (X.alloc o) lb 104 [d]:=q.ext (ax X o);have h:Blk a lb 104 [d]:=(i.block lb p.lt D).trans p;have J:=r.size;have u:∀b,d.ownBlock=some b->w.heap.size<=b/\∃g,X.heap[b]? =some (.cells g 9 (0,0)):=by
  intro b e;rcases t.2 with⟨rfl,_⟩|⟨y,G,g,rfl,A,z,_⟩
  ·cases e
  ·obtain rfl:y=b:=by simpa [Value.ownBlock] using e
   exact⟨A,g,z⟩
 have j:Kq B n X (X.alloc o):=Kq.alloc X o zO;have l:Kq B n (X.alloc o) a:=Kq.grown i (by simp;omega) (λb e=>by
  obtain⟨H,g,m⟩:=u b e;refine⟨zO,λF f=>.inl ?_⟩;rw[(Ext.new X o).block b (Array.getElem?_eq_some_iff.1 m).1,m] at f;cases f;exact⟨_,_,_,rfl,nW⟩)
 have E:Kq B n a (a.setCell ⟨lb,0,none⟩ c):=Kq.grown (grownBy_setCell' a lb c) (by have:=j.size;have:=l.size;omega) (λb e=>by
  cases e;refine⟨zO,λF f=>.inl ?_⟩;rw[show a.heap[lb]? =_ from h] at f;cases f;exact⟨_,_,_,rfl,oC⟩)
 refine⟨h.free1,?_,?_,?_,(j.trans l).trans E⟩
 ·exact h.store1 c
 ·exact s.kept (grownBy_setCell' a lb c) (.inr (kL h s).symm)
 ·exact((r.alloc zO o).grown i (by simp;omega) (λb e=>(u b e).1)).grown (grownBy_setCell' a lb c) (by have:=j.size;have:=l.size;omega) (λb e=>by cases e;exact C)
theorem pA(B:Nat)(m:Mdl)(w:World)(a8:List Value)(e8:RM w B m a8)(t:B<=w.heap.size)(V:ab ai m.items<=10000000):
 Calls Tryz.prog 62 #[.agg a8.toArray] w λe d0=>∃v,e=.returned v/\d0.ownsRow w.heap.size 9 1 v (bN m).length ((bN m).map .string)/\Ext w d0:=by
 obtain⟨h3,h4,Z,rfl,b9,c0,T⟩:=e8;have g5:=b9.oneCell;have k8:=c0.oneCell;have g6:=T.oneCell;have a0:=Hd (th w B t 10000000 m.items V (ac _));have e0:=Hd (ad (lY m.items) V);obtain⟨h8,g,e9,W,g2,a5,a6,a7,G⟩:=eg w (.string m.name) h3 h4 Z 30;obtain⟨h,H⟩:∃h,h=g.w.alloc (.cells #[.slice none 0 0] 104):=⟨_,rfl⟩;have f0:=H.symm;have Y:Ext g.w h:=by rw[H];exact ax _ _
 have b5:Blk h g.w.heap.size 104 [.slice none 0 0]:=by rw[H];exact ar g.w _ _
 have G:=(Y.at_ (G g));have c1:=(W.trans g.ext).trans Y;have P:=Hd c1;have d8:=(W.trans g.ext).size;have a3:=Hd T;have a2:=Hd b5;clear b9 c0 T W g2 V Y b5 H c1;refine(callsIn_wide (n:=0)).1 ?_;refine callsIn_of_wp_marks func62 rfl trivial ?_ rfl;simp only[ntmps62,List.size_toArray,List.length_cons,List.length_nil,Nat.reduceAdd,Nat.reduceSub,Array.replicate_succ,Array.replicate_zero,List.push_toArray,List.append_toArray,List.nil_append,List.cons_append]
 gi_wp2
 refine⟨trivial,rfl,?_⟩;refine(callsIn_wide.2 (pO _ g6 h)).mono ?_;rintro e r ⟨rfl,R⟩;have M:Ext h r:=by rw[R];exact ax _ _
 have b6:Blk r h.heap.size 28 [Z]:=by rw[R];exact ar h _ _
 have Q:B<=r.heap.size:=ad t (P.o.trans M).size;have z:=P.o.trans M;have e4:=Hd (a0.o r h.heap.size Z (Below.mono z t) Q b6 (RowQ.of_sl a3.o (Below.mono z t)));have e2:=Hd (show ie (w0:=w) (B:=B) w g.w.heap.size [] r from⟨_,a2.o.ext M,World.ownsRow_nil _ _ _ _,z⟩);have E:=Hd (an Q z);have a4:=Hd d8;clear M b6 Q z R a0 a3 a2 P a5 a6 a7 G e9 f0
 gi_wp2
 refine nF (gf:=142) (lb:=#[.pointer (some ⟨h.heap.size,0,none⟩)]) rfl ns e4.o (Below.refl _ _) E.o.1 (λ_=>rfl)
  (ie w g.w.heap.size) (mR E.o.2.size) e2.o
  (λp a X=>∃i,Blk X i 37 p.1.2/\a.tmps.size=25/\a.tmps.getD 1 undef=.pointer (some ⟨w.heap.size,0,none⟩)/\a.tmps.getD 3 undef=.pointer (some ⟨g.w.heap.size,0,none⟩)/\a.tmps.getD 4 undef=.pointer (some ⟨i,0,none⟩)/\a.defers=[]) ?hAx ?assign ?body ?done
 case hAx=>
  rintro p a _ d4 h6 row ⟨i,s,e5⟩ f3 f7;refine⟨i,(f3.block i s.lt (λe=>?_)).trans s,e5⟩;obtain⟨_,o,b8,f2⟩:=f7 i e.symm;rw[show d4.heap[i]? =_ from s] at b8;cases b8;cases f2
 case assign=>
  rintro g4 f ⟨⟨b,h5⟩,c3⟩ X h7 hinv b2;obtain⟨c4,c5,c6,c7,c8,c9,J,-,-,-,-,-,-⟩:=RI_iff.1 (show RI w B b h5 from c3);subst J;have g5:=lh (show RI w B b _ from c3);obtain⟨h9,i0,i6,⟨j0,j1,j2,j3,j4,j5,j6,j7,j8⟩,⟨j9,k0,k1,k2,k3,k4,k5,k6,k7⟩,i7,I,D,g3⟩:=iy X (.int .i64 b.op) (.string b.name) (.string b.of) c4 c5 c6 c7 c8 c9;have d7:=Hd b2;have c:=Hd (an hinv (an I D));clear b2 hinv I D g3;simp only[hW]
  gi_wp2
  obtain⟨hinv,I,D⟩:=c.o;have e6:B<=X.heap.size:=by obtain⟨_,-,-,f1⟩:=hinv;exact ad t f1.size
  exact d7.o _ _ (Kq.ext D e6) (mR E.o.2.size _ _ _ none hinv (bW D) (λk9 e=>by cases e)) ⟨_,I,rfl,rfl,rfl,rfl,rfl⟩
 case body=>
  rintro g4 f p a X i8 - ⟨l,j,x,A⟩ ⟨i,N,c2,s,a9,b0,K⟩ f5;have y:=xF f p;have f6:=uj f;obtain⟨c4,c5,c6,c7,c8,c9,J,-,-,-,-,-,-⟩:=RI_iff.1 p.2;rw[J] at N;clear J;obtain⟨q,b3⟩:∃q,q=f++[p]:=⟨_,rfl⟩;rw[<-b3] at y⊢;clear b3;generalize p.1.1=b at*;rw[el c2 K];simp only[List.range,List.range.loop,List.map_cons,List.map_nil,s,a9,b0];generalize a.tmps.getD 0 undef=z0;generalize a.tmps.getD 2 undef=z2;generalize a.tmps.getD 5 undef=z5;generalize a.tmps.getD 6 undef=z6;generalize a.tmps.getD 7 undef=z7;generalize a.tmps.getD 8 undef=z8;generalize a.tmps.getD 9 undef=z9;generalize a.tmps.getD 10 undef=z10;generalize a.tmps.getD 11 undef=z11;generalize a.tmps.getD 12 undef=z12;generalize a.tmps.getD 13 undef=z13;generalize a.tmps.getD 14 undef=z14;generalize a.tmps.getD 15 undef=z15;generalize a.tmps.getD 16 undef=z16;generalize a.tmps.getD 17 undef=z17;generalize a.tmps.getD 18 undef=z18;generalize a.tmps.getD 19 undef=z19;generalize a.tmps.getD 20 undef=z20;generalize a.tmps.getD 21 undef=z21;generalize a.tmps.getD 22 undef=z22;generalize a.tmps.getD 23 undef=z23;generalize a.tmps.getD 24 undef=z24;have i9:(cm f).length<=10000000:=by have:=e0.o;omega
  have d3:=j.get1;have l7:=j.free1;obtain⟨a5,a6,a7,G,i1,i2,i3,i4,i5⟩:=N.get9;have c:=Hd (an j (an x (an A N)));have a1:=Hd t;have d9:=Hd (kL j x);clear c2 s a9 b0 K j x A N f6 f5;by_cases L:b.op=7
  ·have C:dl b=[b.of]:=by unfold dl;rw[if_pos L]
   have g7:(b.op==7)=true:=by rw[L];rfl
   have F:=Hd (show cm q=ei (cm f) b.of from by rw[y,C,wL]);clear y C;have b7:=d9.o;by_cases u:b.of∈cm f
   ·have O:=Hd ((show yes (b.of∈cm f)=true from yes_iff.2 u)▸nC (cm f) l b.of X w.heap.size c.o.2.1);have hinv:ie w g.w.heap.size q X:=⟨l,c.o.1,by rw[F.o,je u];exact c.o.2.1,c.o.2.2.1⟩;have k:=Hd hinv;clear hinv u F b7
    gi_wp2_with (first
     |(refine⟨trivial,rfl,?_⟩;refine(callsIn_wide.2 O.o).mono ?_;rintro e d1 ⟨rfl,rfl⟩)
     |refine⟨trivial,?_⟩)
    exact⟨Kq.refl _ _ _,k.o⟩
   ·have O:=Hd ((show yes (b.of∈cm f)=false from yes_no.2 u)▸nC (cm f) l b.of X w.heap.size c.o.2.1);have e1:=Hd (show cm q=cm f++[b.of] from by rw[F.o,hR u]);obtain⟨h2,f9,g1,g0,f8⟩:=info_parts nG;clear u F
    gi_wp2_with (first
     |(gi_at_builtin;refine wpListIn_append_own _ rfl _ _ 104 rfl w.heap.size 9 h2 (.string ⟨#[]⟩) 1 16 underlying104 f9 g1 g0 f8 rfl zD l (cm f).length ((cm f).map .string) rfl (c.o.2.1.alloc _) ⟨d1.heap.size,0,none⟩ 1 1 [.string b.of] rfl rfl (cell_one_new _ _ _) zV (by simp only[maxLen];omega) zO (by have:=c.o.2.2.1.size;simp;omega) ?_;intro l0 l4 U S _;obtain⟨l1,l3,l2,rfl⟩:=wa U;have l5:=S.cell ((ax _ _).at_ d3) b7;have l6:=(mj B 0 a1.o a4.o c.o.1 c.o.2.1 c.o.2.2.1 _ U S).1)
     |(refine⟨trivial,rfl,?_⟩;refine(callsIn_wide.2 O.o).mono ?_;rintro e d1 ⟨rfl,rfl⟩)
     |refine⟨trivial,?_⟩)
    obtain⟨-,g8,g9,h0,h1⟩:=mj B r.heap.size a1.o a4.o c.o.1 c.o.2.1 c.o.2.2.1 _ U S;exact⟨h1,_,g8,by rw[e1.o,List.length_append,List.map_append];exact g9,h0⟩
  ·have g7:(b.op==7)=false:=by rw[beq_eq_false_iff_ne];exact L
   have C:dl b=[]:=by unfold dl;rw[if_neg L]
   rw[C,wK] at y;have hinv:ie w g.w.heap.size q X:=⟨l,c.o.1,by rw[y];exact c.o.2.1,c.o.2.2.1⟩;have k:=Hd hinv;clear hinv y C
   gi_wp2_with (refine⟨trivial,?_⟩)
   exact⟨Kq.refl _ _ _,k.o⟩
 case done=>
  rintro d5 d2 X e7 b4 ⟨l,j,x,A⟩ f4 b1;have d3:=j.get1;have k:=Hd (an x (an A b1));have e3:=Hd (show cm d2=bN m from by unfold cm bN;rw[b4,ox]);have d6:=Hd (ad E.o.2.size e7);clear x A f4 b1 b4 j
  gi_wp2
  rw[<-e3.o];refine xy 0 _ _ w l (cm d2) rfl rfl _ X ⟨λd K=>?_,?_⟩ k.o.1 k.o.2.1
  ·obtain rfl:=y2m.1 K;exact⟨d5,rfl,d6.o,k.o.2.2⟩
  ·exact List.pairwise_singleton _ _
end Go.Proofs.YtlfmlodanoolhaaGreatDoor
