import Derived.Test.YtlfmlodanoolhaaGreatDoorE3
import Derived.Test.YtlfmlodanoolhaaGreatDoorE18
import Derived.Test.YtlfmlodanoolhaaGreatDoorE19
set_option linter.all false
set_option maxRecDepth 200000
set_option maxHeartbeats 32000000
namespace Go.Proofs.YtlfmlodanoolhaaGreatDoor
open Go Go.RowKit Go.Shelf Go.Proofs.Tryz
attribute [local go_sem] Oper.semAt_some z0f
theorem q6k{P:Program}{C:Code}{Q:Exit→Act→World→Prop}(N:Nat)(Inv:Nat→Act→World→Prop){a:Act}{w:World}
 (hstep:∀k a W,Inv k a W→C.wpIn Fence.wide 0 P (Exit.then (fun a' W'=>k<N∧Inv (k+1) a' W') Q) a W) (h0:Inv 0 a w):(Code.loop C).wpIn Fence.wide 0 P Q a w:=by
 refine wpIn_loop_rounds (N+1) ?_;have H:∀m k a W,N - k<m→Inv k a W→Code.roundsIn Fence.wide 0 P C Q m a W:=by
  intro m;induction m with
  |zero=>intro k a W hm;omega
  |succ m ih=>
   intro k a W hm hI;rw[roundsIn_succ];refine wpIn_mono (hstep k a W hI) ?_;intro e a' W' h;cases e with
   |normal=>exact ih (k+1) a' W' (by have:=h.1;omega) h.2
   |_=>exact h
 exact H (N+1) 0 a w (by omega) h0
abbrev ItC(w0:World)(B:Nat):={p:Itm×List Value // RI w0 B p.1 p.2}
def k9o{w0:World}{B:Nat}(x:ItC w0 B):Array Value:=#[.agg x.1.2.toArray]
def RowQ(w0:World)(B:Nat)(W:World)(l:List Itm)(v:Value):Prop:=∃a cap,v=.slice a l.length cap∧∀k (h:k<l.length),∃b o cs,a=some ⟨b,o,none⟩∧(b<B∨∃cur fr,W.heap[b]? =some (.cells cur 37 fr))∧cs.length=9∧Cells W b (o+k*9) cs∧RI w0 B l[k] cs
theorem z9n:¬j4w 37:=by unfold j4w;decide
theorem RowQ.kq{w0:World}{B n:Nat}{W W':World}{l:List Itm}{v:Value}(h:RowQ w0 B W l v)(hq:Kq B n W W'):RowQ w0 B W' l v:=by
 obtain⟨a,cap,rfl,h⟩:=h;refine⟨a,cap,rfl,fun k hk=>?_⟩;obtain⟨b,o,cs,rfl,hb,h1,h2,h3⟩:=h k hk;refine⟨b,o,cs,rfl,?_,h1,fun j u hu=>?_,h3⟩
 ·rcases hb with hb|⟨cur,fr,hb⟩
  ·exact .inl hb
  ·exact .inr ⟨cur,fr,hq.cells b cur _ fr hb z9n⟩
 ·rcases hb with hb|⟨cur,fr,hb⟩
  ·exact(hq.below.cell hb).trans (h2 j u hu)
  ·exact(y2b ((hq.cells b cur _ fr hb z9n).trans hb.symm)).trans (h2 j u hu)
theorem RowQ.of_sl{w0 W:World}{B:Nat}{l:List Itm}{v:Value}(h:Sl (RI w0 B) w0 B 9 l v)(hb:Below B w0 W):RowQ w0 B W l v:=by
 obtain⟨a,cap,rfl,-,hr⟩:=h;refine⟨a,cap,rfl,fun k hk=>?_⟩;obtain⟨b,o,cs,ha,hbB,hl,hc,-,hR⟩:=hr k hk;exact⟨b,o,cs,ha,.inl hbB,hl,fun j u hu=>(hb.cell hbB).trans (hc j u hu),hR⟩
theorem j8i{w0:World}{B:Nat}{x:Itm}{cs:List Value}(h:RI w0 B x cs):∀u∈cs,u.oneCell'=true:=by
 obtain⟨v3,v4,v5,v6,v7,v8,rfl,h3,h4,h5,h6,h7,h8⟩:=RI_iff.1 h;intro u hu;simp only[List.mem_cons,List.not_mem_nil,or_false] at hu;rcases hu with rfl|rfl|rfl|rfl|rfl|rfl|rfl|rfl|rfl
 ·rfl
 ·rfl
 ·rfl
 ·exact h3.oneCell
 ·exact h4.oneCell
 ·exact h5.oneCell
 ·exact h6.oneCell
 ·exact h7.oneCell
 ·exact h8.oneCell
theorem j7w{w0 W:World}{B:Nat}{l:List Itm}{a:Option Addr}{cap:Nat}(h:Sl (RI w0 B) w0 B 9 l (.slice a l.length cap))(hb:Below B w0 W):
 ∃news:List Value,Flat W 9 a l.length news∧∀k,(hk:k<l.length)→RI w0 B l[k] ((news.drop (k*9)).take 9):=by
 obtain⟨a',cap',he,-,hr⟩:=h;obtain⟨rfl,-,rfl⟩:=Value.slice.inj he;obtain⟨news,⟨h1,h2,h3⟩,h4⟩:=Row.flat hr;refine⟨news,⟨h1,h2,fun h0=>?_⟩,h4⟩;obtain⟨b,o,rfl,hc⟩:=h3 h0;obtain⟨b',o',cs,he,hbB,-⟩:=hr 0 h0;obtain⟨rfl,rfl⟩:b=b'∧o=o':=by simpa using he
 exact⟨b,o,rfl,fun j u hu=>(hb.cell hbB).trans (hc j u hu)⟩
theorem RowQ.of_own{w0 W:World}{B base:Nat}{l1 l2:List Itm}{v:Value}{xs1 xs2:List Value}(h:W.ownsRow base 37 9 v (l1.length+l2.length) (xs1++xs2))(z1:xs1.length=l1.length*9)(z2:xs2.length=l2.length*9)
 (h1:∀k,(hk:k<l1.length)→RI w0 B l1[k] ((xs1.drop (k*9)).take 9)) (h2:∀k,(hk:k<l2.length)→RI w0 B l2[k] ((xs2.drop (k*9)).take 9)):RowQ w0 B W (l1++l2) v:=by
 rcases h.2 with⟨rfl,h0⟩|⟨g,cap,cur,rfl,-,hg,hn,hm,hcur,htake⟩
 ·obtain rfl:l1=[]:=y1q (by omega);obtain rfl:l2=[]:=y1q (by omega);exact⟨none,0,rfl,fun k hk=>absurd hk (by simp)⟩
 ·refine⟨some ⟨g,0,none⟩,cap,by rw[List.length_append],fun k hk=>?_⟩;have hcells:∀j (hj:j<(l1.length+l2.length)*9),W.cell? ⟨g,j,none⟩=(xs1++xs2)[j]? :=fun j hj=>h.cellAt j hj
  have hchunk:RI w0 B (l1++l2)[k] (((xs1++xs2).drop (k*9)).take 9):=by
   by_cases hlt:k<l1.length
   ·rw[List.getElem_append_left hlt,List.drop_append_of_le_length (by omega),List.take_append_of_le_length (by rw[List.length_drop];omega)];exact h1 k hlt
   ·rw[List.length_append] at hk;rw[List.getElem_append_right (by omega),show k*9=xs1.length+(k - l1.length)*9 by omega,List.drop_append];rw[List.drop_eq_nil_of_le (by omega),List.nil_append,Nat.add_sub_cancel_left];exact h2 (k - l1.length) (by omega)
  rw[List.length_append] at hk;refine⟨g,0,_,rfl,.inr ⟨cur,(0,0),hg⟩,by rw[List.length_take,List.length_drop,List.length_append];omega,fun j u hu=>?_,hchunk⟩;have hj:j<9:=by
   have:=(y1t.1 hu).1;rw[List.length_take] at this;omega
  rw[Nat.zero_add,hcells _ (by omega),←hu,List.getElem?_take,if_pos hj,List.getElem?_drop]
theorem j0b(v:Value)(hv:v.oneCell'=true)(w:World):Calls Tryz.prog 98 #[v] w fun e w'=>e=.returned (.func (.func 142) #[] #[.pointer (some ⟨w.heap.size,0,none⟩)])∧w'=w.alloc (.cells #[v] 28):=by
 have hmf:=@hmf_ Tryz.prog;go_enter func98,ntmps98
 go_wp2
 go_ret;exact⟨rfl,rfl⟩
theorem Marks.kq{B n:Nat}{ds:List Deferred}{W W':World}(h:Marks n ds W)(hq:Kq B n W W'):Marks n ds W':=
 ⟨fun d hd=>by obtain⟨D,h1,h2,h3⟩:=h.1 d hd;exact⟨D,h1,h2,hq.rest D _ h3 rfl h2⟩,h.2⟩
theorem RowQ.below{w0 wc W:World}{B:Nat}{l:List Itm}{v:Value}(h:RowQ w0 B wc l v)(hb:Below wc.heap.size wc W)(hB:B≤wc.heap.size):RowQ w0 B W l v:=by
 obtain⟨a,cap,rfl,h⟩:=h;refine⟨a,cap,rfl,fun k hk=>?_⟩;obtain⟨b,o,cs,rfl,hb',h1,h2,h3⟩:=h k hk;have hlt:b<wc.heap.size:=by
  rcases hb' with hb'|⟨cur,fr,hb'⟩
  ·omega
  ·exact(y1n.1 hb').1
 refine⟨b,o,cs,rfl,?_,h1,fun j u hu=>(hb.cell hlt).trans (h2 j u hu),h3⟩;rcases hb' with hb'|⟨cur,fr,hb'⟩
 ·exact .inl hb'
 ·exact .inr ⟨cur,fr,(hb.block b hlt).trans hb'⟩
theorem Kq.putNew{B n:Nat}{W W':World}(h:Kq B n W W'){D:Nat}(hB:B≤W.heap.size)(hD:W.heap.size≤D)(o:Obj):Kq B n W (W'.putObj D o):=by
 refine⟨h.below.grown (grownBy_putObj' W' D o) (y1k hB h.size) (fun r e=>by cases e;omega),y1k h.size (grownBy_putObj' W' D o).size,fun k cs t fr hk ht=>?_,fun k ob hk ho hn=>?_⟩
 ·have hlt:=(y1n.1 hk).1;exact(World.putObj_heap_other (by omega)).trans (h.cells k cs t fr hk ht)
 ·have hlt:=(y1n.1 hk).1;exact(World.putObj_heap_other (by omega)).trans (h.rest k ob hk ho hn)
theorem AbM.and{β:Type}{B:Nat}{I J:β→World→Prop}(h:AbM B I)(k:AbM B J):AbM B (fun s W=>I s W∧J s W):=fun s W W' row hs hg hr=>⟨h s W W' row hs.1 hg hr,k s W W' row hs.2 hg hr⟩
theorem k3n{β:Type}{n B:Nat}{ds:List Deferred}(hlt:∀D,({target:=.collected D,args:=#[]}:Deferred)∈ds→D<B):AbM B (fun(_:β) W=>Marks n ds W):=by
 intro s W W' row hs hg hr;refine⟨fun d hd=>?_,hs.2⟩;obtain⟨D,rfl,h2,h3⟩:=hs.1 d hd;have hD:=hlt D hd;exact⟨D,rfl,h2,(hg.block D (y1n.1 h3).1 (fun e=>by have:=(hr D e.symm).1;omega)).trans h3⟩
theorem y0w{β:Type}{B n B':Nat}{W0:World}(hB:B≤W0.heap.size)(h:W0.heap.size≤B'):AbM B' (fun(_:β) W=>Kq B n W0 W):=by
 intro s W W' row hs hg hr;refine⟨hs.below.grown hg (y1k hB hs.size) (fun r e=>by have:=(hr r e).1;omega),y1k hs.size hg.size,fun k cs t fr hk ht=>?_,fun k ob hk ho hn=>?_⟩
 ·have hlt:=(y1n.1 hk).1;exact(hg.block k (by have:=hs.size;omega) (fun e=>by have:=(hr k e.symm).1;omega)).trans (hs.cells k cs t fr hk ht)
 ·have hlt:=(y1n.1 hk).1;exact(hg.block k (by have:=hs.size;omega) (fun e=>by have:=(hr k e.symm).1;omega)).trans (hs.rest k ob hk ho hn)
theorem k9w{β:Type}{B g:Nat}{t:TypeId}{cs:List Value}(h:g<B):AbM B (fun(_:β) W=>Blk W g t cs):=fun s W W' row hs hg hr=>
 (hg.block g hs.lt (fun e=>by have:=(hr g e.symm).1;omega)).trans hs
theorem q1p{P:Program}(n:Nat)(fn:Func)(tmps:Array Value)(n0:Nat)(R:World→Prop)(Q:Ending→World→Prop)(hQ:∀v W,R W→Q (.returned v) W)(hfn:fn.results=#[])(hR:∀(W:World) (D:Nat) (o o':Obj),R W→n0≤D→W.heap[D]? =some o→o.isCells=false→R (W.putObj D o')):
 ∀(ds:List Deferred) (W:World),Marks n0 ds W→R W→LeavesInM Fence.wide n P fn tmps Q ds .returning W:=by
 intro ds;induction ds with
 |nil=>
  intro W hm hr;exact⟨_,results_none hfn _ _ _,hQ _ _ hr⟩
 |cons d ds ih=>
  intro W hm hr;obtain⟨D,rfl,hD,hK⟩:=hm.1 d (y1s ..);refine⟨by simp,.inl ⟨D,_,rfl,run_takeDeferred hK,ih _ ⟨fun d hd=>?_,(List.pairwise_cons.1 hm.2).2⟩ (hR _ _ _ _ hr hD hK rfl)⟩⟩;obtain⟨D',rfl,hD',hK'⟩:=hm.1 d (y1r _ hd);refine⟨D',rfl,hD',(World.putObj_heap_other (fun e=>?_)).trans hK'⟩;subst e;exact(List.pairwise_cons.1 hm.2).1 _ hd rfl
theorem q3i:¬j4w 189:=by unfold j4w;decide
theorem j1q:¬j4w 28:=by unfold j4w;decide
def k1y(w0:World)(B:Nat)(l:List Itm):Prop:=∀(wc:World) (bl:Nat) (v:Value),Below B w0 wc→B≤wc.heap.size→Blk wc bl 28 [v]→RowQ w0 B wc l v→
 y0c Tryz.prog 142 #[.pointer (some ⟨bl,0,none⟩)] (k9o (w0:=w0) (B:=B)) B (fun xs=>xs.map (·.1.1)=z3s l) (z3s l).length wc
theorem q2q:Enters Tryz.prog 142:=⟨fun _ _=>by kernel_rfl⟩
def k8o{w0:World}{B:Nat}(l:List Itm)(lp:Nat)(a0:Value)(W:World)(J:List (ItC w0 B)→World→Prop)(k:Nat)(a:Act)(W':World):Prop:=
 (a.tmps.size=29∧a.tmps.getD 2 undef=.pointer (some ⟨W.heap.size,0,none⟩)∧a.tmps.getD 6 undef=a0∧a.tmps.getD 7 undef=.int .i64 l.length∧a.tmps.getD 8 undef=.int .i64 k)∧k≤l.length∧Marks W.heap.size a.defers W'∧
   (∃pre,pre.map (·.1.1)=z3s (l.take k)∧J pre W')∧Kq B W.heap.size W W'∧Blk W' W.heap.size 189 [.func (.yield lp) #[] #[]]
theorem j0a(w0:World)(B:Nat)(hB0:B≤w0.heap.size)(l:List Itm)(hln:l.length≤1000000000)(hsz:∀x,x∈l→x.l.length≤10000000∧x.els.length≤10000000)(IH:∀x,x∈l→k1y w0 B (x.l++x.els)):k1y w0 B l:=by
 intro wc bl v hbc hBc hbox hrow lp J W hW hJ hY hJ0;have hrowW:=hrow.below hW hBc;have hboxW:Blk W bl 28 [v]:=(hW.block bl hbox.lt).trans hbox;have hltW:=hboxW.lt;obtain⟨a,cap,rfl,hcell⟩:=hrow;have d0:=hboxW.get1;obtain⟨W1,hW1⟩:∃W1,W1=W.alloc (.cells #[.func (.yield lp) #[] #[]] 189):=⟨_,rfl⟩;have hV1:=hW1.symm;have hb1:Blk W1 W.heap.size 189 [.func (.yield lp) #[] #[]]:=by rw[hW1];exact y1w W _ _
 have hBW:B≤W.heap.size:=y1k hBc hW.size;have hk1:Kq B W.heap.size W W1:=by rw[hW1];exact Kq.alloc W _ hBW
 have hj1:J [] W1:=by rw[hW1];exact hJ.alloc _ hJ0
 have d1:W1.cell? ⟨bl,0,none⟩=some (.slice a l.length cap):=(hk1.cell hboxW j1q).trans d0;have HR:=Hd hrowW;have H1:=Hd (y1x hb1 (y1x hk1 hj1));have HB0:=Hd (y1x hbc hW);have HJ:=Hd hJ;have HY:=Hd hY;have HIH:=Hd IH;have HSZ:=Hd hsz;clear hbox hcell hb1 hk1 hj1 hrowW hboxW d0 hW1 hbc hJ hY hJ0 IH hsz hW;refine callsIn_of_wp_marks func142 rfl trivial ?_ rfl;simp only[ntmps142,List.size_toArray,List.length_cons,List.length_nil,Nat.reduceAdd,Nat.reduceSub,Array.replicate_succ,Array.replicate_zero,List.push_toArray,List.append_toArray,List.nil_append,List.cons_append]
 gi_wp2
 refine q6k l.length (k8o l lp (.slice a l.length cap) W J) ?_ ?_
 ·rintro k a' W' ⟨⟨hs,h2,h6,h7,h8⟩,hk,hmk,⟨pre,hpre,hj⟩,hkq,hbx⟩;obtain⟨ds,hd⟩:∃ds,a'.defers=ds:=⟨_,rfl⟩;rw[hd] at hmk;rw[z4x hs hd];simp only[List.range,List.range.loop,List.map_cons,List.map_nil,h2,h6,h7,h8];generalize a'.tmps.getD 0 undef=u0;generalize a'.tmps.getD 1 undef=u1;generalize a'.tmps.getD 3 undef=u3;generalize a'.tmps.getD 4 undef=u4;generalize a'.tmps.getD 5 undef=u5;generalize a'.tmps.getD 9 undef=u9;generalize a'.tmps.getD 10 undef=u10;generalize a'.tmps.getD 11 undef=u11;generalize a'.tmps.getD 12 undef=u12;generalize a'.tmps.getD 13 undef=u13;generalize a'.tmps.getD 14 undef=u14;generalize a'.tmps.getD 15 undef=u15;generalize a'.tmps.getD 16 undef=u16;generalize a'.tmps.getD 17 undef=u17;generalize a'.tmps.getD 18 undef=u18;generalize a'.tmps.getD 19 undef=u19;generalize a'.tmps.getD 20 undef=u20;generalize a'.tmps.getD 21 undef=u21;generalize a'.tmps.getD 22 undef=u22;generalize a'.tmps.getD 23 undef=u23;generalize a'.tmps.getD 24 undef=u24;generalize a'.tmps.getD 25 undef=u25;generalize a'.tmps.getD 26 undef=u26;generalize a'.tmps.getD 27 undef=u27;generalize a'.tmps.getD 28 undef=u28;have HK:=Hd hkq;have HM:=Hd hmk;have HP:=Hd hpre;have HJ9:=Hd hj;have HBX:=Hd hbx;clear hs h2 h6 h7 h8 hd hkq hmk hpre hj hbx d1;by_cases hlt:k<l.length
  ·obtain⟨a0,cap0,he0,hcells⟩:=HR.o.kq HK.o;obtain⟨rfl,-,rfl⟩:=Value.slice.inj he0;obtain⟨b,o,cs,rfl,hbo,hcl,hcc,hri⟩:=hcells k hlt;have o1:=j8i hri;obtain⟨v3,v4,v5,v6,v7,v8,rfl,-,-,hl5,hl6,-,-⟩:=RI_iff.1 hri;have hl5':=hl5;have hl6':=hl6;obtain⟨a5,c5,rfl,-,-⟩:=hl5';obtain⟨a6,c6,rfl,-,-⟩:=hl6';have IHk:=Hd (HIH.o l[k] (y1l hlt));have SZk:=Hd (HSZ.o l[k] (y1l hlt));have HL5:=Hd hl5;have HL6:=Hd hl6;have PRE:=Hd (show z3s (l.take (k+1))=z3s (l.take k)++(l[k]::z3s (l[k].l++l[k].els)) by
    rw[List.take_succ_eq_append_getElem hlt,z8g,z8g,←j1g];show _++(j6u l[k]++[])=_;rw[List.append_nil])
   have NLT:=Hd (show(z3s (l.take k)++(l[k]::z3s (l[k].l++l[k].els))).length≤(z3s l).length by
    rw[←PRE.o];have h:=congrArg (fun l=>(z3s l).length) (List.take_append_drop (k+1) l);simp only[z8g,List.length_append] at h;omega)
   have hcc':=hcc;obtain⟨e0,e1,e2,e3,e4,e5,e6,e7,e8⟩:=hcc'.get9;have hb0:=HBX.o.get1;have hXR:=Hd (show∃y:ItC w0 B,y.1=(l[k],_) from⟨⟨(l[k],_),hri⟩,rfl⟩);clear hcc hcc' hri hl5 hl6 hcl hbo hcells HIH HSZ;generalize l[k]=x at*;obtain⟨Wb,Wc,hVb,⟨m0,m1,m2,m3,m4,m5,m6,m7,m8⟩,⟨n0,n1,n2,n3,n4,n5,n6,n7,n8⟩,hVc,hbc,hxc,hzc⟩:=k8t W' (.int .i64 x.op) (.string x.name) (.string x.of) v3 v4 (.slice a5 x.l.length c5) (.slice a6 x.els.length c6) v7 v8;obtain⟨ec,hec⟩:=y1h (y1g Wc);replace hVc:=hVc.trans hec;obtain⟨c0,c1,c2,c3,c4,c5',c6',c7,c8⟩:=hbc.later9;have hxe:=hxc.trans ec.ext;have yb:=hxe.at_ hb0;have hBW':B≤W'.heap.size:=y1k hBW HK.o.below.size;have hjc:=HJ.o pre W' ec.w none HJ9.o (z1v hxe) (fun r e=>by cases e);obtain⟨xv,hxv⟩:=hXR.o;obtain⟨fn,tmps,assign,bdy,hy,hRY⟩:=show YieldAt Fence.wide 0 Tryz.prog lp #[.agg #[.int .i64 x.op,.string x.name,.string x.of,v3,v4,.slice a5 x.l.length c5,.slice a6 x.els.length c6,v7,v8]] ec.w _ from by
    have:=HY.o pre xv ec.w hjc (by have h1:=NLT.o;have h2:=congrArg List.length HP.o;rw[List.length_map] at h2;simp only[List.length_append,List.length_cons] at h1;omega);simp only[k9o,hxv] at this;exact this
   have HBC:=Hd (hbc.ext ec.ext);have HXE:=Hd hxe;have HX1:=Hd hxv;clear hxv hXR hbc hxc hxe hzc hec hb0 hjc
   gi_wp2
   refine⟨rfl,hRY.mono ?_⟩;rintro e W4 ⟨rfl,hj4,hk4⟩;have hb4:=hk4.blk HBC.o z9n;obtain⟨-,-,-,-,-,q5,q6,-,-⟩:=hb4.get9;have hk04:=HK.o.trans ((Kq.ext HXE.o (y1k hBW HK.o.below.size)).trans (hk4));clear hb4
   gi_wp2_with fail
   have hB4:B≤W4.heap.size:=y1k hBW hk04.size;obtain⟨W5,hW5⟩:∃W5,W5=W4.alloc (.cells #[.slice a5 x.l.length c5,.slice a6 x.els.length c6] 28):=⟨_,rfl⟩;have hbs:Blk W5 W4.heap.size 28 [.slice a5 x.l.length c5,.slice a6 x.els.length c6]:=by rw[hW5];exact y1w W4 _ _
   have hk05:Kq B W.heap.size W W5:=by rw[hW5];exact hk04.trans (Kq.alloc W4 _ hB4)
   have hj5:J (pre++[xv]) W5:=by rw[hW5];exact HJ.o.alloc _ hj4
   have hk15:Kq B W.heap.size W' W5:=by rw[hW5];exact((Kq.ext HXE.o (y1k hBW HK.o.below.size)).trans hk4).trans (Kq.alloc W4 _ hB4)
   have h0W:Below B w0 W:=HB0.o.1.trans (HB0.o.2.mono hBc);obtain⟨nw5,hf5,hr5⟩:=j7w HL5.o (h0W.trans hk05.below);obtain⟨nw6,hf6,hr6⟩:=j7w HL6.o (h0W.trans hk05.below);rw[←hW5];refine⟨trivial,rfl,?_⟩;refine(callsIn_wide.2 (j6j _ a5 a6 _ _ c5 c6 nw5 nw6 W5 hbs hf5 hf6 SZk.o.1 SZk.o.2)).mono ?_;rintro e W6 ⟨ac,cc,rfl,hown,hx6⟩;have hk56:Kq B W.heap.size W5 W6:=Kq.ext hx6 (y1k hBW hk05.size);have hj6:=HJ.o _ _ _ none hj5 (z1v hx6) (fun r e=>by cases e);have hrq6:=RowQ.of_own hown hf5.1 hf6.1 hr5 hr6;have S6:=Hd (y1x (hk05.trans hk56) (y1x (hk15.trans hk56) (y1x hj6 (y1x hrq6 h0W))));clear hbs hf5 hf6 hr5 hr6 hx6 hown hj5 hk05 hk15 hk56 hj6 hrq6 hj4 hk4 hk04 h0W hW5 q5 q6
   gi_wp2_with fail
   refine⟨trivial,rfl,?_⟩;refine(callsIn_wide.2 (j0b _ rfl W6)).mono ?_;rintro e W7 ⟨rfl,hW7⟩;obtain⟨hk06,hk16,hj6,hrq6,h0W⟩:=S6.o;have hB6:B≤W6.heap.size:=y1k hBW hk06.size;have hbW7:Blk W7 W6.heap.size 28 [.slice ac (x.l.length+x.els.length) cc]:=by rw[hW7];exact y1w W6 _ _
   have hk67:Kq B W.heap.size W6 W7:=by rw[hW7];exact Kq.alloc W6 _ hB6
   have hj7:J (pre++[xv]) W7:=by rw[hW7];exact HJ.o.alloc _ hj6
   have hk07:=hk06.trans hk67;have hB7:B≤W7.heap.size:=y1k hBW hk07.size;have hWs:W.heap.size<W7.heap.size:=by have:=hbW7.lt;have:=hk06.size;omega
   have hseq:=IHk.o W7 W6.heap.size _ (h0W.trans hk07.below) hB7 hbW7 (hrq6.kq hk67);have hm7:=HM.o.kq (hk16.trans hk67);have hbx7:=(hk16.trans hk67).blk HBX.o q3i;have hdl:∀D,({target:=.collected D,args:=#[]}:Deferred)∈ds→D<W7.heap.size:=fun D hD=>by
    obtain⟨D',he,-,h3⟩:=hm7.1 _ hD;obtain rfl:D=D':=by injection he with e1;injection e1
    exact(y1n.1 h3).1
   have hab:AbM W7.heap.size (fun pre' X=>((J ((pre++[xv])++pre') X∧Marks W.heap.size ds X)∧Kq B W.heap.size W X)∧Blk X W.heap.size 189 [.func (.yield lp) #[] #[]]):=
    AbM.and (AbM.and (AbM.and (fun s A B' row hs hg hr=>HJ.o.later (Nat.le_of_lt hWs) _ A B' row hs hg hr) (k3n hdl)) (y0w hBW (Nat.le_of_lt hWs))) (k9w hWs)
   have S7:=Hd (y1x hj7 (y1x hm7 (y1x hk07 (y1x hbx7 (y1x hB7 hWs)))));have SQ:=Hd hseq;have AB:=Hd hab;clear hk06 hk16 hj6 hrq6 h0W hB6 hbW7 hk67 hj7 hk07 hB7 hWs hseq hm7 hbx7 hdl S6 IHk HL5 HL6 hW7 hab e0 e1 e2 e3 e4 e5 e6 e7 e8 hRY hy yb c0 c1 c2 c3 c4 c5' c6' c7 c8 m0 m1 m2 m3 m4 m5 m6 m7 m8 n0 n1 n2 n3 n4 n5 n6 n7 n8 hVb hVc HXE HBC
   gi_wp2_with fail
   refine z9w (gf:=142) (lb:=#[.pointer (some ⟨W6.heap.size,0,none⟩)]) rfl q2q SQ.o (Below.refl _ _) S7.o.2.2.2.2.1 (fun _=>rfl)
    (fun pre' X=>((J ((pre++[xv])++pre') X∧Marks W.heap.size ds X)∧Kq B W.heap.size W X)∧Blk X W.heap.size 189 [.func (.yield lp) #[] #[]]) ?hI ?h0
    (fun y a2 X=>∃bz,Blk X bz 37 y.1.2∧a2.tmps.size=29∧a2.tmps.getD 2 undef=.pointer (some ⟨W.heap.size,0,none⟩)∧a2.tmps.getD 5 undef=.pointer (some ⟨bz,0,none⟩)∧a2.defers=[]) ?hAx ?assign ?body ?done
   case hI=>exact AB.o
   case h0=>exact⟨⟨⟨by rw[List.append_nil];exact S7.o.1,S7.o.2.1⟩,S7.o.2.2.1⟩,S7.o.2.2.2.1⟩
   case hAx=>
    rintro y a2 _ A B' row ⟨bz,h1,h2⟩ hg hr;refine⟨bz,(hg.block bz h1.lt (fun e=>?_)).trans h1,h2⟩;obtain⟨_,o,ho,hc⟩:=hr bz e.symm;rw[show A.heap[bz]? =_ from h1] at ho;cases ho;cases hc
   case assign=>
    rintro l2 pre' ⟨⟨yi,ycs⟩,hyr⟩ X K ⟨⟨⟨hj,hm⟩,hkq⟩,hbx⟩ hK;obtain⟨v3',v4',v5',v6',v7',v8',hcs,-,-,-,-,-,-⟩:=RI_iff.1 (show RI w0 B yi ycs from hyr);subst hcs;have o1:=j8i (show RI w0 B yi _ from hyr);obtain⟨Wb,Wc,hVb,⟨m0,m1,m2,m3,m4,m5,m6,m7,m8⟩,⟨n0,n1,n2,n3,n4,n5,n6,n7,n8⟩,hVc,hbc,hxc,hzc⟩:=k8t X (.int .i64 yi.op) (.string yi.name) (.string yi.of) v3' v4' v5' v6' v7' v8';have HKK:=Hd hK;have HH:=Hd (y1x hj (y1x hm (y1x hkq (y1x hbx (y1x hbc hxc)))));clear hK hj hm hkq hbx hbc hxc hzc;simp only[k9o]
    gi_wp2
    obtain⟨hj,hm,hkq,hbx,hbc,hxc⟩:=HH.o;exact HKK.o _ _ (Kq.ext hxc (y1k hBW hkq.size)) (AB.o pre' X Wc none ⟨⟨⟨hj,hm⟩,hkq⟩,hbx⟩ (z1v hxc) (fun r e=>by cases e)) ⟨_,hbc,rfl,rfl,rfl,rfl⟩
   case body=>
    rintro l2 pre' ⟨⟨yi,ycs⟩,hyr⟩ a2 X hl - ⟨⟨⟨hj,hm⟩,hkq⟩,hbx⟩ ⟨bz,hz,hs,h2,h5,hd⟩ hln2;obtain⟨v3',v4',v5',v6',v7',v8',hcs,-,-,-,-,-,-⟩:=RI_iff.1 (show RI w0 B yi ycs from hyr);subst hcs;have hyy:=HY.o _ ⟨(yi,_),hyr⟩ X hj (by
     have h1:=NLT.o;have h2:=congrArg List.length HP.o;rw[List.length_map] at h2;simp only[List.length_append,List.length_cons,List.length_nil] at h1 hln2⊢;omega)
    simp only[k9o] at hyy;obtain⟨fn,tmps,assign,bdy,hy,hRY⟩:=show YieldAt (Fence.wide.inRound l2) 0 Tryz.prog lp _ X _ from hyy
    rw[z4x hs hd];simp only[List.range,List.range.loop,List.map_cons,List.map_nil,h2,h5];generalize a2.tmps.getD 0 undef=z0;generalize a2.tmps.getD 1 undef=z1;generalize a2.tmps.getD 3 undef=z3;generalize a2.tmps.getD 4 undef=z4;generalize a2.tmps.getD 6 undef=z6;generalize a2.tmps.getD 7 undef=z7;generalize a2.tmps.getD 8 undef=z8;generalize a2.tmps.getD 9 undef=z9;generalize a2.tmps.getD 10 undef=z10;generalize a2.tmps.getD 11 undef=z11;generalize a2.tmps.getD 12 undef=z12;generalize a2.tmps.getD 13 undef=z13;generalize a2.tmps.getD 14 undef=z14;generalize a2.tmps.getD 15 undef=z15;generalize a2.tmps.getD 16 undef=z16;generalize a2.tmps.getD 17 undef=z17;generalize a2.tmps.getD 18 undef=z18;generalize a2.tmps.getD 19 undef=z19;generalize a2.tmps.getD 20 undef=z20;generalize a2.tmps.getD 21 undef=z21;generalize a2.tmps.getD 22 undef=z22;generalize a2.tmps.getD 23 undef=z23;generalize a2.tmps.getD 24 undef=z24;generalize a2.tmps.getD 25 undef=z25;generalize a2.tmps.getD 26 undef=z26;generalize a2.tmps.getD 27 undef=z27;generalize a2.tmps.getD 28 undef=z28;have HH:=Hd (y1x hj (y1x hm (y1x hkq hbx)));have yb:=hbx.get1;obtain⟨c0,c1,c2,c3,c4,c5',c6',c7,c8⟩:=hz.get9;clear hs h2 h5 hd hj hm hkq hyy
    gi_wp2
    refine⟨rfl,hRY.mono ?_⟩;rintro e X4 ⟨rfl,hj4,hk4⟩;have FIN:=Hd (y1x hj4 (y1x (HH.o.2.1.kq hk4) (y1x (HH.o.2.2.1.trans hk4) (y1x (hk4.blk HH.o.2.2.2 q3i) (hk4.later (Nat.le_of_lt S7.o.2.2.2.2.2))))));clear hj4 hk4
    gi_wp2
    refine⟨FIN.o.2.2.2.2,⟨⟨?_,FIN.o.2.1⟩,FIN.o.2.2.1⟩,FIN.o.2.2.2.1⟩;have h:=FIN.o.1;simpa only[List.append_assoc,List.cons_append,List.nil_append] using h
   case done=>
    rintro D xs X hD hS ⟨⟨⟨hj,hm⟩,hkq⟩,hbx⟩ hkq2 hDd;have FIN:=Hd (y1x hj (y1x (Marks.push S7.o.2.1 hm hD (by have:=S7.o.2.2.2.2.2;omega) hDd) (y1x hkq hbx)));have PR:=Hd (show((pre++[xv])++xs).map (·.1.1)=z3s (l.take (k+1)) from by
     rw[PRE.o,List.map_append,List.map_append,HP.o,hS,List.map_cons,List.map_nil,HX1.o,List.append_assoc];rfl)
    clear hj hm hkq hbx hkq2 hDd hS
    gi_wp2
    exact⟨hlt,⟨rfl,rfl,rfl,rfl,rfl⟩,hlt,FIN.o.2.1,⟨_,PR.o,FIN.o.1⟩,FIN.o.2.2.1,FIN.o.2.2.2⟩
  ·have hkl:k=l.length:=by omega
   subst hkl
   gi_wp2
   refine q1p 0 _ _ W.heap.size (fun w'=>J pre w'∧Kq B W.heap.size W w') _ ?_ rfl ?_ ds W' HM.o ⟨HJ9.o,HK.o⟩
   ·rintro v w' ⟨h2,h3⟩;exact⟨⟨v,rfl⟩,pre,by rw[HP.o,List.take_length],h2,h3⟩
   ·rintro X D o o' ⟨h1,h2⟩ hD ho hc;exact⟨HJ.o.putObj o' h1 hD ho hc,h2.putNew hBW hD o'⟩
 ·refine⟨⟨rfl,rfl,rfl,rfl,rfl⟩,y1p _,⟨(fun d hd=>by cases hd),.nil⟩,⟨[],by simp[z3s],H1.o.2.2⟩,H1.o.2.1,H1.o.1⟩
theorem k4r(w0:World)(B:Nat)(hB0:B≤w0.heap.size):∀(n:Nat) (l:List Itm),z0e z0i l≤n→n≤10000000→k1y w0 B l:=by
 intro n;induction n with
 |zero=>
  intro l hl hn;have h0:=z0b z0i l z1i;exact j0a w0 B hB0 l (by omega) (fun x hx=>by have:=z0g z0i l x hx;have:=z1i x;omega) fun x hx=>by have:=z0g z0i l x hx;have:=z1i x;omega
 |succ n ih=>
  intro l hl hn;have h0:=z0b z0i l z1i;refine j0a w0 B hB0 l (by omega) (fun x hx=>?_) fun x hx=>?_
  ·have h1:=z0g z0i l x hx;have h2:=z0r x;have h3:=z0b z0i x.l z1i;have h4:=z0b z0i x.els z1i;omega
  ·have h1:=z0g z0i l x hx;have h2:=z0r x;exact ih _ (by rw[z5u];omega) (by omega)
end Go.Proofs.YtlfmlodanoolhaaGreatDoor
