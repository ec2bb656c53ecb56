import Derived.Test.YtlfmlodanoolhaaGreatDoorE21
import Derived.Test.YtlfmlodanoolhaaGreatDoorE11
set_option linter.all false
set_option maxRecDepth 200000
set_option maxHeartbeats 32000000
namespace Go.Proofs.YtlfmlodanoolhaaGreatDoor
open Go Go.RowKit Go.Shelf Go.Proofs.Tryz
attribute [local go_sem] Oper.semAt_some z0f
theorem k9j:(Tryz.prog.info? 9).map (fun i=>(i.zero,i.size,i.bytes))=some (some (.string ⟨#[]⟩),1,16):=by kernel_rfl
theorem q0r(outs:List ByteArray)(vo:Value)(nm:ByteArray)(w:World)(n0:Nat)(h:w.ownsRow n0 9 1 vo outs.length (outs.map .string)):
 Calls Tryz.prog 99 #[vo,.string nm] w fun e w'=>e=.returned (.bool (yes (nm∈outs)))∧w'=w:=by
 rcases h.2 with⟨rfl,h0⟩|⟨g,cap,cur,rfl,_,hg,_,hm,_⟩
 ·have:outs=[]:=y1q h0;subst this;rw[show yes (nm∈([]:List ByteArray))=false from yes_no.2 (fun h=>by cases h)];exact Tryz.slices_Contains_string_empty none 0 nm w
 ·have hc:=Tryz.slices_Contains_string g 0 outs.length cap outs nm w (y1j _) (by simp only[maxLen] at hm;omega) (fun j hj=>by
   rw[h.cellAt (0+j) (by omega),Nat.zero_add,List.getElem?_map,List.getElem?_eq_getElem hj];simp[List.getD,hj])
  rw[List.take_length] at hc;have he:Go.Lib.containsS outs nm=yes (nm∈outs):=by rw[Bool.eq_iff_iff,Go.Lib.containsS_iff,yes_iff]
  rw[←he];exact hc
theorem j5l(n:Nat)(fn:Func)(tmps:Array Value)(w0:World)(vo:Value)(outs:List ByteArray)(hfn:fn.results=#[.tmp 2])(ht:tmps.getD 2 undef=vo):
 ∀(ds:List Deferred) (W:World),Marks w0.heap.size ds W→W.ownsRow w0.heap.size 9 1 vo outs.length (outs.map .string)→Below w0.heap.size w0 W→
  LeavesInM Fence.wide n Tryz.prog fn tmps (fun e w'=>∃v,e=.returned v∧w'.ownsRow w0.heap.size 9 1 v outs.length (outs.map .string)∧Ext w0 w') ds .returning W:=by
 intro ds;induction ds with
 |nil=>
  intro W hm ho hb;exact⟨_,results_tmp hfn _ _ _,_,rfl,by rw[ht];exact ho,hb⟩
 |cons d ds ih=>
  intro W hm ho hb;obtain⟨D,rfl,hD,hK⟩:=hm.1 d (y1s ..);refine⟨by simp,.inl ⟨D,_,rfl,run_takeDeferred hK,ih _ ⟨fun d hd=>?_,(List.pairwise_cons.1 hm.2).2⟩ (ownsRow_putObj ho _ hK rfl) (hb.trans (belowK_b (w:=w0) (y1j _) W D _ _ hD hK rfl rfl))⟩⟩;obtain⟨D',rfl,hD',hK'⟩:=hm.1 d (y1r _ hd);refine⟨D',rfl,hD',(World.putObj_heap_other (fun e=>?_)).trans hK'⟩;subst e;exact(List.pairwise_cons.1 hm.2).1 _ hd rfl
theorem k2s:∀x:Itm,(j6u x).length≤z0i x:=by
 intro x;induction x using Itm.ind with
 |h x h1 h2=>
  have hl:∀l:List Itm,(∀y,y∈l→(j6u y).length≤z0i y)→(z3s l).length≤z0e z0i l:=by
   intro l;induction l with
   |nil=>intro _;exact y1j _
   |cons y r ih=>
    intro h;show(j6u y++z3s r).length≤z0i y+z0e z0i r;rw[List.length_append];have:=h y (y1s ..);have:=ih fun z hz=>h z (y1r _ hz)
    omega
  have:=hl _ h1;have:=hl _ h2;have:=z0r x;rw[j1g,List.length_cons,List.length_append];omega
theorem q8n(l:List Itm):(z3s l).length≤z0e z0i l:=by
 induction l with
 |nil=>exact y1j _
 |cons y r ih=>
  show(j6u y++z3s r).length≤z0i y+z0e z0i r;rw[List.length_append];have:=k2s y;omega
theorem q8r(l:List Itm):(l.flatMap z9f).length≤l.length:=by
 induction l with
 |nil=>exact y1j _
 |cons y r ih=>
  rw[List.flatMap_cons,List.length_append,List.length_cons];have:(z9f y).length≤1:=by unfold z9f;split<;>simp
  omega
noncomputable def z5o{w0:World}{B:Nat}(pre:List (ItC w0 B)):List ByteArray:=z4h [] ((pre.map (·.1.1)).flatMap z9f)
theorem k2z{w0:World}{B:Nat}(pre:List (ItC w0 B)):(z5o pre).length≤pre.length:=by
 have h1:=j0o ((pre.map (·.1.1)).flatMap z9f) [];have h2:=q8r (pre.map (·.1.1));rw[List.length_map] at h2;simp only[List.length_nil] at h1;unfold z5o;omega
theorem j5d{w0:World}{B:Nat}(pre:List (ItC w0 B))(x:ItC w0 B):z5o (pre++[x])=z4h (z5o pre) (z9f x.1.1):=by
 unfold z5o;rw[List.map_append,List.flatMap_append,q7n];simp
def q4v{w0:World}{B:Nat}(w:World)(lb:Nat)(pre:List (ItC w0 B))(X:World):Prop:=
 ∃vo,Blk X lb 104 [vo]∧X.ownsRow w.heap.size 9 1 vo (z5o pre).length ((z5o pre).map .string)∧Below w.heap.size w X
theorem k5m:j4w 9:=.inl rfl
theorem j7m:j4w 104:=.inr rfl
theorem q5e{w0 w W3:World}{B lb:Nat}(h:w.heap.size≤W3.heap.size):AbM W3.heap.size (q4v (w0:=w0) (B:=B) w lb):=by
 rintro pre X Y row ⟨vo,h1,h2,h3⟩ hg hr;refine⟨vo,(hg.block lb h1.lt (fun e=>?_)).trans h1,h2.kept hg ?_,h3.grown hg (by have:=h3.size;omega) (fun r e=>y1k h (hr r e).1)⟩
 ·obtain⟨_,o,ho,hm⟩:=hr lb e.symm;rw[show X.heap[lb]? =_ from h1] at ho;cases ho;exact hm j7m
 ·rcases z8e h2 with h0|⟨g,cur,hv,hg2⟩
  ·exact .inl h0
  ·refine .inr fun e=>?_
   rw[hv] at e;obtain⟨_,o,ho,hm⟩:=hr g e.symm;rw[hg2] at ho;cases ho;exact hm k5m
theorem j8d{X:World}{base k:Nat}{vo:Value}{xs:List Value}(h:X.ownsRow base 9 1 vo k xs):∃a l c,vo=.slice a l c:=by
 rcases h.2 with⟨rfl,_⟩|⟨g,cap,cur,rfl,_⟩<;>exact⟨_,_,_,rfl⟩
theorem q1h{X:World}{lb base k:Nat}{vo u:Value}{xs:List Value}(hbo:Blk X lb 104 [u])(hro:X.ownsRow base 9 1 vo k xs):some lb≠vo.ownBlock:=by
 rcases z8e hro with h0|⟨g',cur,h1,h2⟩
 ·rw[h0];simp
 ·intro e;rw[h1] at e;cases e;have:=(show X.heap[_]? =_ from hbo).symm.trans h2;simp at this
theorem q7z{w X W5:World}(B n:Nat){lb k k':Nat}{vo v':Value}{xs xs':List Value}(hB:B≤w.heap.size)(hlb:w.heap.size≤lb)(hbo:Blk X lb 104 [vo])(hro:X.ownsRow w.heap.size 9 1 vo k xs)(hbw:Below w.heap.size w X)(o:Obj)
 (hown:W5.ownsRow w.heap.size 9 1 v' k' xs') (hg:(X.alloc o).grownBy W5 vo.ownBlock):
 W5.frozen? ⟨lb,0,none⟩=false∧Blk (W5.setCell ⟨lb,0,none⟩ v') lb 104 [v']∧(W5.setCell ⟨lb,0,none⟩ v').ownsRow w.heap.size 9 1 v' k' xs'∧Below w.heap.size w (W5.setCell ⟨lb,0,none⟩ v')∧Kq B n X (W5.setCell ⟨lb,0,none⟩ v'):=by
 have hne:=q1h hbo hro;have hb4:Blk (X.alloc o) lb 104 [vo]:=hbo.ext (y1v X o);have hb5:Blk W5 lb 104 [vo]:=(hg.block lb hb4.lt hne).trans hb4;have hsB:=hbw.size;have hrow:∀r,vo.ownBlock=some r→w.heap.size≤r∧∃cur,X.heap[r]? =some (.cells cur 9 (0,0)):=by
  intro r e;rcases hro.2 with⟨rfl,_⟩|⟨g,cap,cur,rfl,hge,hgb,_⟩
  ·cases e
  ·obtain rfl:g=r:=by simpa [Value.ownBlock] using e
   exact⟨hge,cur,hgb⟩
 have hq4:Kq B n X (X.alloc o):=Kq.alloc X o (by omega);have hq5:Kq B n (X.alloc o) W5:=Kq.grown hg (by simp;omega) (fun r e=>by
  obtain⟨h1,cur,h2⟩:=hrow r e;refine⟨by omega,fun o' ho'=>.inl ?_⟩;rw[(Ext.new X o).block r (Array.getElem?_eq_some_iff.1 h2).1,h2] at ho';cases ho';exact⟨_,_,_,rfl,k5m⟩)
 have hq6:Kq B n W5 (W5.setCell ⟨lb,0,none⟩ v'):=Kq.grown (grownBy_setCell' W5 lb v') (by have:=hq4.size;have:=hq5.size;omega) (fun r e=>by
  cases e;refine⟨by omega,fun o' ho'=>.inl ?_⟩;rw[show W5.heap[lb]? =_ from hb5] at ho';cases ho';exact⟨_,_,_,rfl,j7m⟩)
 refine⟨hb5.free1,?_,?_,?_,(hq4.trans hq5).trans hq6⟩
 ·exact hb5.store1 v'
 ·exact hown.kept (grownBy_setCell' W5 lb v') (.inr (q1h hb5 hown).symm)
 ·exact((hbw.alloc (by omega) o).grown hg (by simp;omega) (fun r e=>(hrow r e).1)).grown (grownBy_setCell' W5 lb v') (by have:=hq4.size;have:=hq5.size;omega) (fun r e=>by cases e;exact hlb)
theorem j2o(B:Nat)(m:Mdl)(w:World)(cs:List Value)(hR:RM w B m cs)(hB:B≤w.heap.size)(hsz:z0e z0i m.items≤10000000):
 Calls Tryz.prog 62 #[.agg cs.toArray] w fun e w'=>∃v,e=.returned v∧w'.ownsRow w.heap.size 9 1 v (z4t m).length ((z4t m).map .string)∧Ext w w':=by
 obtain⟨v1,v2,v3,rfl,hp1,hq1,hi1⟩:=hR;have o1:=hp1.oneCell;have o2:=hq1.oneCell;have o3:=hi1.oneCell;have EA:=Hd (k4r w B hB 10000000 m.items hsz (y1j _));have HPL:=Hd (y1k (q8n m.items) hsz);obtain⟨W1,e1,hV1,hx1,hz1,c0,c1,c2,c3⟩:=q2c w (.string m.name) v1 v2 v3 30;obtain⟨W2,hW2⟩:∃W2,W2=e1.w.alloc (.cells #[.slice none 0 0] 104):=⟨_,rfl⟩;have hV2:=hW2.symm;have hx2:Ext e1.w W2:=by rw[hW2];exact y1v _ _
 have hb2:Blk W2 e1.w.heap.size 104 [.slice none 0 0]:=by rw[hW2];exact y1w e1.w _ _
 have c3:=(hx2.at_ (c3 e1));have hq2:=(hx1.trans e1.ext).trans hx2;have HX2:=Hd hq2;have HLB0:=(hx1.trans e1.ext).size;have HI:=Hd hi1;have HB2:=Hd hb2;clear hp1 hq1 hi1 hx1 hz1 hsz hx2 hb2 hW2 hq2;refine(callsIn_wide (n:=0)).1 ?_;refine callsIn_of_wp_marks func62 rfl trivial ?_ rfl;simp only[ntmps62,List.size_toArray,List.length_cons,List.length_nil,Nat.reduceAdd,Nat.reduceSub,Array.replicate_succ,Array.replicate_zero,List.push_toArray,List.append_toArray,List.nil_append,List.cons_append]
 gi_wp2
 refine⟨trivial,rfl,?_⟩;refine(callsIn_wide.2 (j0b _ o3 W2)).mono ?_;rintro e W3 ⟨rfl,hW3⟩;have hx3:Ext W2 W3:=by rw[hW3];exact y1v _ _
 have hb3:Blk W3 W2.heap.size 28 [v3]:=by rw[hW3];exact y1w W2 _ _
 have hB3:B≤W3.heap.size:=y1k hB (HX2.o.trans hx3).size;have hX3:=HX2.o.trans hx3;have SQ:=Hd (EA.o W3 W2.heap.size v3 (Below.mono hX3 hB) hB3 hb3 (RowQ.of_sl HI.o (Below.mono hX3 hB)));have I3:=Hd (show q4v (w0:=w) (B:=B) w e1.w.heap.size [] W3 from⟨_,HB2.o.ext hx3,World.ownsRow_nil _ _ _ _,hX3⟩);have H3:=Hd (y1x hB3 hX3);have HLB:=Hd HLB0;clear hx3 hb3 hB3 hX3 hW3 EA HI HB2 HX2 c0 c1 c2 c3 hV1 hV2
 gi_wp2
 refine z9w (gf:=142) (lb:=#[.pointer (some ⟨W2.heap.size,0,none⟩)]) rfl q2q SQ.o (Below.refl _ _) H3.o.1 (fun _=>rfl)
  (q4v w e1.w.heap.size) (q5e H3.o.2.size) I3.o
  (fun y a2 X=>∃bz,Blk X bz 37 y.1.2∧a2.tmps.size=25∧a2.tmps.getD 1 undef=.pointer (some ⟨w.heap.size,0,none⟩)∧a2.tmps.getD 3 undef=.pointer (some ⟨e1.w.heap.size,0,none⟩)∧a2.tmps.getD 4 undef=.pointer (some ⟨bz,0,none⟩)∧a2.defers=[]) ?hAx ?assign ?body ?done
 case hAx=>
  rintro y a2 _ A B' row ⟨bz,h1,h2⟩ hg hr;refine⟨bz,(hg.block bz h1.lt (fun e=>?_)).trans h1,h2⟩;obtain⟨_,o,ho,hc⟩:=hr bz e.symm;rw[show A.heap[bz]? =_ from h1] at ho;cases ho;cases hc
 case assign=>
  rintro l2 pre ⟨⟨yi,ycs⟩,hyr⟩ X K hinv hK;obtain⟨v3',v4',v5',v6',v7',v8',hcs,-,-,-,-,-,-⟩:=RI_iff.1 (show RI w B yi ycs from hyr);subst hcs;have o1:=j8i (show RI w B yi _ from hyr);obtain⟨Wb,Wc,hVb,⟨m0,m1,m2,m3,m4,m5,m6,m7,m8⟩,⟨n0,n1,n2,n3,n4,n5,n6,n7,n8⟩,hVc,hbc,hxc,hzc⟩:=k8t X (.int .i64 yi.op) (.string yi.name) (.string yi.of) v3' v4' v5' v6' v7' v8';have HKK:=Hd hK;have HH:=Hd (y1x hinv (y1x hbc hxc));clear hK hinv hbc hxc hzc;simp only[k9o]
  gi_wp2
  obtain⟨hinv,hbc,hxc⟩:=HH.o;have hBX:B≤X.heap.size:=by obtain⟨_,-,-,hb⟩:=hinv;exact y1k hB hb.size
  exact HKK.o _ _ (Kq.ext hxc hBX) (q5e H3.o.2.size _ _ _ none hinv (z1v hxc) (fun r e=>by cases e)) ⟨_,hbc,rfl,rfl,rfl,rfl,rfl⟩
 case body=>
  rintro l2 pre y a2 X hl - ⟨vo,hbo,hro,hbw⟩ ⟨bz,hz,hs,h1,h3,h4,hd⟩ hlen;have hstep:=j5d pre y;have hol:=k2z pre;obtain⟨v3',v4',v5',v6',v7',v8',hcs,-,-,-,-,-,-⟩:=RI_iff.1 y.2;rw[hcs] at hz;clear hcs;obtain⟨P2,hP2⟩:∃P2,P2=pre++[y]:=⟨_,rfl⟩;rw[←hP2] at hstep⊢;clear hP2;generalize y.1.1=yi at*;rw[z4x hs hd];simp only[List.range,List.range.loop,List.map_cons,List.map_nil,h1,h3,h4];generalize a2.tmps.getD 0 undef=z0;generalize a2.tmps.getD 2 undef=z2;generalize a2.tmps.getD 5 undef=z5;generalize a2.tmps.getD 6 undef=z6;generalize a2.tmps.getD 7 undef=z7;generalize a2.tmps.getD 8 undef=z8;generalize a2.tmps.getD 9 undef=z9;generalize a2.tmps.getD 10 undef=z10;generalize a2.tmps.getD 11 undef=z11;generalize a2.tmps.getD 12 undef=z12;generalize a2.tmps.getD 13 undef=z13;generalize a2.tmps.getD 14 undef=z14;generalize a2.tmps.getD 15 undef=z15;generalize a2.tmps.getD 16 undef=z16;generalize a2.tmps.getD 17 undef=z17;generalize a2.tmps.getD 18 undef=z18;generalize a2.tmps.getD 19 undef=z19;generalize a2.tmps.getD 20 undef=z20;generalize a2.tmps.getD 21 undef=z21;generalize a2.tmps.getD 22 undef=z22;generalize a2.tmps.getD 23 undef=z23;generalize a2.tmps.getD 24 undef=z24;have hol2:(z5o pre).length≤10000000:=by have:=HPL.o;omega
  have yb:=hbo.get1;have yf:=hbo.free1;obtain⟨c0,c1,c2,c3,c4,c5',c6',c7,c8⟩:=hz.get9;have HH:=Hd (y1x hbo (y1x hro (y1x hbw hz)));have HB:=Hd hB;have HNE:=Hd (q1h hbo hro);clear hs h1 h3 h4 hd hbo hro hbw hz hol hlen;by_cases hop:yi.op=7
  ·have hone:z9f yi=[yi.of]:=by unfold z9f;rw[if_pos hop]
   have p1:(yi.op==7)=true:=by rw[hop];rfl
   have HY:=Hd (show z5o P2=z7u (z5o pre) yi.of from by rw[hstep,hone,j6r]);clear hstep hone;have hne:=HNE.o;by_cases hin:yi.of∈z5o pre
   ·have GC:=Hd ((show yes (yi.of∈z5o pre)=true from yes_iff.2 hin)▸q0r (z5o pre) vo yi.of X w.heap.size HH.o.2.1);have hinv:q4v w e1.w.heap.size P2 X:=⟨vo,HH.o.1,by rw[HY.o,q0v hin];exact HH.o.2.1,HH.o.2.2.1⟩;have FIN:=Hd hinv;clear hinv hin HY hne
    gi_wp2_with (first
     |(refine⟨trivial,rfl,?_⟩;refine(callsIn_wide.2 GC.o).mono ?_;rintro e w4 ⟨rfl,rfl⟩)
     |refine⟨trivial,?_⟩)
    exact⟨Kq.refl _ _ _,FIN.o⟩
   ·have GC:=Hd ((show yes (yi.of∈z5o pre)=false from yes_no.2 hin)▸q0r (z5o pre) vo yi.of X w.heap.size HH.o.2.1);have HQ:=Hd (show z5o P2=z5o pre++[yi.of] from by rw[HY.o,z6x hin]);obtain⟨ti,hti,htz,hts,htb⟩:=info_parts k9j;clear hin HY
    gi_wp2_with (first
     |(gi_at_builtin;refine wpListIn_append_own _ rfl _ _ 104 rfl w.heap.size 9 ti (.string ⟨#[]⟩) 1 16 underlying104 hti htz hts htb rfl (by decide) vo (z5o pre).length ((z5o pre).map .string) rfl (HH.o.2.1.alloc _) ⟨w4.heap.size,0,none⟩ 1 1 [.string yi.of] rfl rfl (cell_one_new _ _ _) (by simp[Value.oneCell']) (by simp only[maxLen];omega) (by omega) (by have:=HH.o.2.2.1.size;simp;omega) ?_;intro v' w5 hown' hgrow _;obtain⟨va,vl,vc,rfl⟩:=j8d hown';have y5:=hgrow.cell ((y1v _ _).at_ yb) hne;have y5f:=(q7z B 0 HB.o HLB.o HH.o.1 HH.o.2.1 HH.o.2.2.1 _ hown' hgrow).1)
     |(refine⟨trivial,rfl,?_⟩;refine(callsIn_wide.2 GC.o).mono ?_;rintro e w4 ⟨rfl,rfl⟩)
     |refine⟨trivial,?_⟩)
    obtain⟨-,q1,q2,q3,q4⟩:=q7z B W3.heap.size HB.o HLB.o HH.o.1 HH.o.2.1 HH.o.2.2.1 _ hown' hgrow;exact⟨q4,_,q1,by rw[HQ.o,List.length_append,List.map_append];exact q2,q3⟩
  ·have p1:(yi.op==7)=false:=by rw[beq_eq_false_iff_ne];exact hop
   have hone:z9f yi=[]:=by unfold z9f;rw[if_neg hop]
   rw[hone,j6s] at hstep;have hinv:q4v w e1.w.heap.size P2 X:=⟨vo,HH.o.1,by rw[hstep];exact HH.o.2.1,HH.o.2.2.1⟩;have FIN:=Hd hinv;clear hinv hstep hone
   gi_wp2_with (refine⟨trivial,?_⟩)
   exact⟨Kq.refl _ _ _,FIN.o⟩
 case done=>
  rintro D xs X hD hS ⟨vo,hbo,hro,hbw⟩ hkq2 hDd;have yb:=hbo.get1;have FIN:=Hd (y1x hro (y1x hbw hDd));have PR:=Hd (show z5o xs=z4t m from by unfold z5o z4t;rw[hS,j8m]);have HD:=Hd (y1k H3.o.2.size hD);clear hro hbw hkq2 hDd hS hbo
  gi_wp2
  rw[←PR.o];refine j5l 0 _ _ w vo (z5o xs) rfl rfl _ X ⟨fun d hd=>?_,?_⟩ FIN.o.1 FIN.o.2.1
  ·obtain rfl:=y2d.1 hd;exact⟨D,rfl,HD.o,FIN.o.2.2⟩
  ·exact List.pairwise_singleton _ _
end Go.Proofs.YtlfmlodanoolhaaGreatDoor
