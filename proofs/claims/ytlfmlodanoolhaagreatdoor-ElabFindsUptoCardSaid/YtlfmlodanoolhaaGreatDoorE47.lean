import Derived.Test.YtlfmlodanoolhaaGreatDoorE46
set_option linter.all false
set_option maxRecDepth 200000
set_option maxHeartbeats 32000000
namespace Go.Proofs.YtlfmlodanoolhaaGreatDoor
open Go Go.RowKit Go.Proofs.Tryz
attribute [local go_sem] z0f
theorem k7p:(Tryz.prog.info? 62).map (fun i=>(i.zero,i.size,i.bytes))=some (some (.agg #[.string ⟨#[]⟩,.int .i64 0,.int .i64 0,.int .u64 0,.int .i64 0,.int .i64 0,.int .i64 0,.int .i64 0,.slice none 0 0]),9,96):=by kernel_rfl
theorem q3j{α:Type}{R:α→List Value→Prop}{P:Program}{w:World}{o:Oper}{a:Act}{K:Act→World→Prop}{X:Exit→Act→World→Prop}(s x:Operand)(t:TypeId)
 (ho:o.op=.call {callee:=.builtin .append,args:=#[s,x],argTypes:=#[t,t]})
 (base:Nat) (e:TypeId) (z:Value) (size bytes:Nat) (hi:(P.info? e).map (fun i=>(i.zero,i.size,i.bytes))=some (some z,size,bytes)) (ht:P.underlying t=some (.slice e))
 (hzs:z.cells.size=size) (hsz:0<size) (hb:bytes≤1000)
 (l:List α) (y:α) (v:Value) (hs:a.eval s=v) (hown:OwnL R base e size l v w)
 (B:Nat) (c:Nat) (ys:List Value) (hx:a.eval x=.slice (some ⟨B,0,none⟩) 1 c) (hr:Blk w B e ys) (hl:ys.length=size) (h1:∀u∈ys,u.oneCell'=true) (hy:R y ys)
 (hn:l.length≤1000000000) (hbase:base≤w.heap.size)
 (h:∀v' w',OwnL R base e size (l++[y]) v' w'→w.grownBy w' v.ownBlock→(∀g,v.ownBlock=some g→base≤g)→K (a.put o.dst v') w'):o.wp P a w K X:=by
 obtain⟨xs,h2,h3⟩:=hown.ex;obtain⟨ti,hti,htz,hts,htb⟩:=info_parts hi;have hcl:∀j u,ys[j]? =some u→w.cell? ((⟨B,0,none⟩:Addr).add j)=some u:=fun j u hu=>by rw[z4d];exact hr.cells j u hu
 obtain⟨v',w',hrun,k2,k3,-,-⟩:=run_append_own_at (P:=P) w base t o.type e ti z size bytes ht hti htz hts htb hzs hsz v l.length xs h2 ⟨B,0,none⟩ 1 c ys (by omega) hcl h1 (by simp only[maxLen];omega) (by
  have:(l.length+1)*bytes≤(l.length+1)*1000:=Nat.mul_le_mul_left _ hb;omega) hbase
 unfold Oper.wp execOp;simp only[ho,resolve,invoke,builtin,Sem.run_bind,Sem.run_pure,Result.andThen_ok,List.map_toArray,List.map_cons,List.map_nil,hs,hx,hrun];exact h v' w' ⟨xs++ys,by rw[List.length_append];exact k2,h3.append (Fl.one_ hl h1 hy)⟩ k3 fun g hg=>(h2.lt g hg).1
def KJ(D:Rs (DE×Mk))(N0 mb:Nat)(vf vs vp vc:Value)(m:Mk)(W:World)(K:DE→Value→World→Prop)(u:Value)(w:World):Prop:=
 ∃r,D=.ok r∧K r.1 u w∧MkI w N0 mb vf vs vp vc r.2∧FrS mb W w∧CntM m r.2
def K1(W:World)(e:DE)(u:Value)(w:World):Prop:=SlE9 (fun b=>W.heap.size≤b) w [e] u
def K2(W:World)(e:DE)(u:Value)(w:World):Prop:=∃g o c,u=.pointer (some ⟨g,o,none⟩)∧Cells w g o c∧RE9 (fun b=>W.heap.size≤b) w e c
def K3(W:World)(e:DE)(u:Value)(w:World):Prop:=∃c,u=.agg c.toArray∧RE9 (fun b=>W.heap.size≤b) w e c
def K4(W:World)(nm:ByteArray)(e:DE)(u:Value)(w:World):Prop:=∃c,u=.agg (.string nm::c).toArray∧RE9 (fun b=>W.heap.size≤b) w e c
def K5(W:World)(nm:ByteArray)(e:DE)(u:Value)(w:World):Prop:=∃g c,u=.slice (some ⟨g,0,none⟩) 1 1∧Blk w g 62 (.string nm::c)∧RE9 (fun b=>W.heap.size≤b) w e c
def K6(D:Rs (DE×Mk))(N0 mb:Nat)(vf vs vp vc:Value)(m:Mk)(W:World)(nm:ByteArray)(u:Value)(w:World):Prop:=
 ∃r X,D=.ok r∧MkI X N0 mb vf vs vp vc r.2∧FrS mb W X∧CntM m r.2∧X.grownBy w vc.ownBlock∧OwnL (RCk X) N0 62 9 (r.2.d.chks++[⟨nm,r.1⟩]) u w
theorem K6.frI{D:Rs (DE×Mk)}{N0 mb n:Nat}{vf vs vp vc:Value}{m:Mk}{W:World}{nm:ByteArray}{u:Value}{w:World}(h:K6 D N0 mb vf vs vp vc m W nm u w):FrI N0 mb n n W w∧w.cell? ⟨mb,3,none⟩=some vc:=by
 obtain⟨r,X,h1,h2,h3,h4,h5,h6⟩:=h;have hrow:∀k,vc.ownBlock=some k→N0≤k∧Tag X k 62:=fun k hk=>h2.chk.tag hk
 have hmk:some mb≠vc.ownBlock:=fun e=>absurd ((hrow mb e.symm).2.one h2.blk.tag) (by decide)
 refine⟨(FrI.of_chg h3).trans ⟨h5.os,h5.tape,h5.output,h5.size,fun k hk g1 g2 g3 g4=>h5.block k hk (fun e=>g4 ⟨(hrow k e.symm).1,.inr (.inr (hrow k e.symm).2)⟩)⟩,?_⟩;have hb:Blk w mb 99 _:=(h5.block mb h2.blk.lt hmk).trans h2.blk;simpa using hb.cell 3
theorem KJ.frI{D:Rs (DE×Mk)}{N0 mb n:Nat}{vf vs vp vc:Value}{m:Mk}{W:World}{K:DE→Value→World→Prop}{u:Value}{w:World}(h:KJ D N0 mb vf vs vp vc m W K u w):FrI N0 mb n n W w∧w.cell? ⟨mb,3,none⟩=some vc:=by
 obtain⟨r,h1,h2,h3,h4,h5⟩:=h;exact⟨.of_chg h4,by simpa using h3.blk.cell 3⟩
theorem EC.check{W0 w W w':World}{B N0 mb sb mp:Nat}{vf vs vp vc u:Value}{m:Mk}{s:Sc}{D:Rs (DE×Mk)}{nm:ByteArray}(h:EC W0 B N0 mb sb mp vf m s w)(hx:Ext w W)(hk:K6 D N0 mb vf vs vp vc m W nm u w')(hck:(m.d.chks.length:Int)+1≤m.count):
 ∃r,D=.ok r∧EC W0 B N0 mb sb mp vf {r.2 with d:={r.2.d with chks:=r.2.d.chks++[⟨nm,r.1⟩]}} s (w'.setCell ⟨mb,3,none⟩ u)∧FrI N0 mb sb mp w (w'.setCell ⟨mb,3,none⟩ u):=by
 have hfr:=(hk.frI (n:=W.heap.size)).1;obtain⟨r,X,h1,h2,h3,h4,h5,h6⟩:=hk;obtain⟨vs0,vp0,vc0,ve,k1,k2⟩:=(h.ext hx).ex;have hrow:∀k,vc.ownBlock=some k→N0≤k∧Tag X k 62:=fun k hk=>h2.chk.tag hk
 have hmk:some mb≠vc.ownBlock:=fun e=>absurd ((hrow mb e.symm).2.one h2.blk.tag) (by decide)
 have hb2:Blk w' mb 99 [vf,vs,vp,vc,.int .i64 r.2.count,.int .i64 r.2.bits]:=(h5.block mb h2.blk.lt hmk).trans h2.blk;have hkp:Kp X (w'.setCell ⟨mb,3,none⟩ u):=q6p (y1g X) h5 (fun k hk=>⟨_,(hrow k hk).2,by unfold j0q;decide⟩) h2.blk.tag (by unfold j0q;decide);have hm:MkI (w'.setCell ⟨mb,3,none⟩ u) N0 mb vf vs vp u {r.2 with d:={r.2.d with chks:=r.2.d.chks++[⟨nm,r.1⟩]}}:=by
  refine⟨by simpa using hb2.set_ 3 u,?_,?_,?_,h2.base⟩
  ·exact h2.sig.chg (fun g _ hg=>z6h (y1g X) h5 hg (fun k hk=>⟨_,(hrow k hk).2,by decide⟩) h2.blk.tag (by decide)) (fun _ _ h=>h)
  ·exact h2.prc.chg (fun g _ hg=>z6h (y1g X) h5 hg (fun k hk=>⟨_,(hrow k hk).2,by decide⟩) h2.blk.tag (by decide)) (RPc.keep hkp)
  ·exact q6o h6 hb2.tag (by decide) (RCk.keep hkp)
 have hf:FrI N0 mb W.heap.size W.heap.size W (w'.setCell ⟨mb,3,none⟩ u):=hfr.trans (.of_chg (z1e _ _ _ _));have hg:=(y1z (N0:=N0) (mb:=mb) (sb:=sb) (mp:=mp) hx).trans (hf.wide (sb:=sb) (mp:=mp) (y1j _));have hd:=h4.d;have hcc:=(h.inv.cnt h4);refine⟨r,h1,h.frI hg hm (k2.frI hf (y1j _) k1.blk.tag) (by show Good r.2.d.sigs s;rw[hd];exact h.gd) ⟨hcc.c0,hcc.c1,hcc.b0,hcc.b1,hcc.sg,hcc.pr,?_⟩,hg⟩;obtain⟨n,hn,g1,g2⟩:=h4;show(((r.2.d.chks++[_]).length:Nat):Int)≤r.2.count;rw[List.length_append,hn];simp only[List.length_cons,List.length_nil];show((m.d.chks.length+1:Nat):Int)≤n;omega
theorem q6y(W0:World)(B N0 mb:Nat)(vf:Value)(inst:Itm→Sc→Mk→Rs Mk)(k:Nat)(t:Itm)(hop:t.op=10)(hvx:∀y,y∈t.x→VX y)(h2:t.x.length=1)(hm:∀y,y∈t.x→MayX y)(hnm:t.name.size≤64):q2z W0 B N0 mb vf inst k t:=by
 intro sb mp m s w cs h hck hln hph hR;have H:=Hd h;have hb0:=h.inv.b0;have hb1:=h.inv.b1;have hsg:=h.inv.sg;have hpr:=h.inv.pr;have hc0:=h.inv.c0;have hc1:=h.inv.c1;obtain⟨hmw,hsw,hpw,hsm,hpm,hps,hNm⟩:=h.mlt;obtain⟨v3,v4,v5,v6,v7,v8,rfl,h3,h4,h5,h6,h7,h8⟩:=RI_iff.1 hR;have o3:=h3.oneCell;have o4:=h4.oneCell;have o5:=h5.oneCell;have o6:=h6.oneCell;have o7:=h7.oneCell;have o8:=h8.oneCell;have HX3:=Hd h3;have HX4:=Hd h4;have HX5:=Hd h5;have HX6:=Hd h6;have HRI:=Hd hR;obtain⟨W1,hW1,hx1,hb1'⟩:=z4w w (.pointer (some ⟨mb,0,none⟩)) 97;obtain⟨W2,hW2,hx2,hb2'⟩:=z4w W1 (.pointer (some ⟨sb,0,none⟩)) 100;obtain⟨W3,hW3,hx3,hb3'⟩:=q0y W2 (.int .i64 t.op) (.string t.name) (.string t.of) v3 v4 v5 v6 v7 v8 37;have hV1:=hW1.symm;have hV2:=hW2.symm;have s1:w.heap.size<W1.heap.size:=hb1'.lt;have s2:W1.heap.size<W2.heap.size:=hb2'.lt;have s3:W2.heap.size<W3.heap.size:=hb3'.lt;have BM:=Hd (hb1'.ext (hx2.trans hx3));have BS:=Hd (hb2'.ext hx3);have BX:=Hd hb3';have X3:=Hd (hx1.trans (hx2.trans hx3));have H3:=Hd (h.ext X3.o);obtain⟨e3,he3⟩:=y1h (W:=W3) (w:=W3) (y1g _);have hV3:=hW3.symm.trans he3;obtain⟨c0,c1,c2,c3,c4,c5,c6,c7,c8⟩:=BX.o.later9;have m0:=cellAt (BM.o.cell 0);have n0:=cellAt (BS.o.cell 0);have HW3:=Hd he3;clear he3 hW1 hW2 hW3 hx1 hx2 hx3 hb1' hb2' hb3' h h3 h4 h5 h6 h7 h8 hR;have hs0:1+z0e z0l t.x≤1000000000:=by have:=z0r t;omega
 obtain⟨la,lc,rfl,hlc,hlr⟩:=HX3.o;have hl0:0<t.x.length:=by omega
 obtain⟨b0,o0,t0,hla,hb0',hlt0,hC0,ho0,hR0⟩:=hlr 0 hl0;subst hla;have HX0:=Hd (XOk.of (y1l hl0) hR0 (by omega) hvx);obtain⟨x50,rfl,h50⟩:=RX_iff.1 hR0;simp only[Nat.zero_mul,Nat.add_zero] at hC0;have hxa0:=z2m (k:=0) hl0;have u0:=h50.oneCell;have HC0:=Hd hC0;have hk0:(0:Int)<(t.x.length:Int):=by omega
 have HM0:=Hd (hm _ (y1l hl0));have HD:=Hd (show z1m inst t s m=(do let y←z0q s t.x[0] m;return(s,{y.2 with d:={y.2.d with chks:=y.2.d.chks++[⟨s.path++t.name,y.1⟩]}})) by rw[q4g inst t s m hop,show xAt t.x 0=t.x[0] from hxa0]);obtain⟨vs,vp,vc,ve,hst3⟩:=H3.o.stc;obtain⟨ca,cc,rfl⟩:=hst3.mk_.chk.form;have HST:=Hd hst3;have hps':s.path.size≤1000000000:=by omega
 have hsl:¬(9223372036854775807<s.path.size+t.name.size):=by omega
 have hlow:=H.o.lo;have hlo2:=H.o.ls;have HCL:=Hd (show m.d.chks.length≤65536 by have:=H.o.inv.ck;omega);generalize t.x[0]=x0 at*;rw[hop] at hV3 c0;rw[hop];clear hlr hR0 h50 hlt0 hb0' hC0 ho0 hst3 hm hvx h2;have hmf:¬w.heap.size=mb:=by omega
 go_enter func76,ntmps76;go_wp2_with fail
 refine z1y 25 (eqS [19,20,21,22,23,24] [.pointer (some ⟨mb,0,none⟩),.pointer (some ⟨mb,0,none⟩),.pointer (some ⟨mb,0,none⟩),.pointer (some ⟨mb,1,none⟩),.pointer (some ⟨mb,3,none⟩),.slice ca m.d.chks.length cc,.pointer (some ⟨sb,0,none⟩),.pointer (some ⟨sb,0,none⟩),.pointer (some ⟨sb,2,none⟩),.string s.path,.pointer (some ⟨W2.heap.size,1,none⟩),.string t.name,.string (s.path++t.name),.pointer (some ⟨mb,0,none⟩),.pointer (some ⟨sb,0,none⟩),.pointer (some ⟨W2.heap.size,3,none⟩),.slice (some ⟨b0,o0,none⟩) t.x.length lc,.pointer (some ⟨b0,o0,none⟩),.agg #[.int .i64 x0.op,.string x0.name,.int .i64 x0.n,.int .i64 x0.w,.int .u64 x0.v,x50],undef,undef,undef,undef,undef,undef]) (chJ [(19,fun τ w=>Ext e3.w w),(20,fun τ w=>KJ (z0q s x0 m) N0 mb vf vs vp (.slice ca m.d.chks.length cc) m W3 (K1 W3) (τ 112) w),(21,fun τ w=>KJ (z0q s x0 m) N0 mb vf vs vp (.slice ca m.d.chks.length cc) m W3 (K2 W3) (τ 113) w),(22,fun τ w=>KJ (z0q s x0 m) N0 mb vf vs vp (.slice ca m.d.chks.length cc) m W3 (K3 W3) (τ 114) w),(23,fun τ w=>KJ (z0q s x0 m) N0 mb vf vs vp (.slice ca m.d.chks.length cc) m W3 (K4 W3 (s.path++t.name)) (τ 115) w),(24,fun τ w=>KJ (z0q s x0 m) N0 mb vf vs vp (.slice ca m.d.chks.length cc) m W3 (K5 W3 (s.path++t.name)) (τ 116) w)] (fun τ w=>K6 (z0q s x0 m) N0 mb vf vs vp (.slice ca m.d.chks.length cc) m W3 (s.path++t.name) (τ 117) w)) (fun ch wz=>∃c,z0q s x0 m=.error c∧ch=z2c c∧FrS mb W3 wz) (by kernel_rfl) (fun _ _ _ _ h=>h) (by kernel_rfl) (by kernel_rfl) ?_ (z6u _ ((y1g _).drew)) ?_ (fun A ch wz hd hp=>by
  obtain⟨c,hr,rfl,hx⟩:=hp;obtain⟨tA,dA⟩:=A;simp only at hd;subst hd;have HN:=Hd (show RunsP (z1m inst t s m) (ER W0 B N0 mb sb mp vf (z0i t) s w) (FrI N0 mb sb mp w) (.panicked (z2c c)) wz from .no (by rw[HD.o,hr];rfl) ((y1z X3.o).trans (.of_chg hx)));exact⟨rfl,HN.o⟩) ?_
 ·simp[GuardsMet]
 ·refine⟨?_,?_,?_,?_,?_,?_,?_,?_,?_,?_,?_,?_,?_,?_,?_,?_,?_,?_,?_,?_,?_,?_,?_,?_,?_,trivial⟩;rotate_left 19
  ·refine StepI.chain 0 rfl (by kernel_rfl) (by kernel_rfl) ?_;intro A wa hsz hj hd h0;replace hsz:=Hd hsz;have q13:=z0d hd 13 106 (by kernel_rfl) rfl;simp[eqS] at q13;have q14:=z0d hd 14 107 (by kernel_rfl) rfl;simp[eqS] at q14;have q18:=z0d hd 18 111 (by kernel_rfl) rfl;simp[eqS] at q18;clear hd h0;replace hj:Ext e3.w wa:=hj;have KW:=Hd (z7z W0 B N0 mb sb mp vf vs vp _ ve m s x0 _ wa (HST.o.ext (e3.ext.trans hj)) HX0.o HM0.o);have HJX:=Hd (e3.ext.trans hj);clear hj;go_simp;refine KW.o.mono ?_;rintro e wk (⟨r,u,hr,rfl,hsl,hmk,hfr,hcm⟩|⟨c,hr,rfl,hfr⟩);rotate_left
   ·exact⟨rfl,c,hr,rfl,HJX.o.chg.trans hfr⟩
   have HP:=Hd (show KJ (z0q s x0 m) N0 mb vf vs vp (.slice ca m.d.chks.length cc) m W3 (K1 W3) u wk from⟨r,hr,SlE9.turn hsl (y1u (fun _=>False) wk) (fun b _ hy=>⟨id,y1k HJX.o.size hy⟩),hmk,HJX.o.chg.trans hfr,hcm⟩);clear hr hsl hmk hfr hcm;go_simp;refine⟨_,rfl,trivial,?_⟩;show KJ (z0q s x0 m) N0 mb vf vs vp (.slice ca m.d.chks.length cc) m W3 (K1 W3) (tau (A.put (some 112) (u)) 112) wk;rw[z2r (by rw[hsz.o];exact of_decide_eq_true (by kernel_rfl))];exact HP.o
  ·refine StepI.chain 1 rfl (by kernel_rfl) (by kernel_rfl) ?_;intro A wa hsz hj hd h0;replace hsz:=Hd hsz;clear hd h0;obtain⟨r,hr,hk,hmk,hfr,hcm⟩:=hj;obtain⟨ya,yc,hv,hyc,hyr⟩:=hk;obtain⟨g,o,c,hya,hY,ht,hcl,hC,ho1,hre⟩:=hyr 0 (by simp);subst hya;have hv:tau A 112=.slice (some ⟨g,o,none⟩) 1 yc:=hv;have r112:A.tmps.getD 112 undef=.slice (some ⟨g,o,none⟩) 1 yc:=hv;simp only[Array.getD_eq_getD_getElem?] at r112;have HP:=Hd (show KJ (z0q s x0 m) N0 mb vf vs vp (.slice ca m.d.chks.length cc) m W3 (K2 W3) (.pointer (some ⟨g,o,none⟩)) wa from⟨r,hr,⟨g,o,c,rfl,by simpa using hC,hre⟩,hmk,hfr,hcm⟩);clear hr hmk hfr hcm hv hyc hyr hY ht hcl hC ho1 hre;go_simp;refine⟨_,rfl,trivial,?_⟩;show KJ (z0q s x0 m) N0 mb vf vs vp (.slice ca m.d.chks.length cc) m W3 (K2 W3) (tau (A.put (some 113) (.pointer (some ⟨g,o,none⟩))) 113) wa;rw[z2r (by rw[hsz.o];exact of_decide_eq_true (by kernel_rfl))];exact HP.o
  ·refine StepI.chain 2 rfl (by kernel_rfl) (by kernel_rfl) ?_;intro A wa hsz hj hd h0;replace hsz:=Hd hsz;clear hd h0;obtain⟨r,hr,⟨g,o,c,hv,hC,hre⟩,hmk,hfr,hcm⟩:=hj;have r113:A.tmps.getD 113 undef=.pointer (some ⟨g,o,none⟩):=hv;simp only[Array.getD_eq_getD_getElem?] at r113;obtain⟨v7,rfl,h7⟩:=RE9_iff.1 hre;have o7':=h7.oneCell;obtain⟨l0,l1,l2,l3,l4,l5,l6,l7⟩:=hC.get8;obtain⟨e,he⟩:∃e,e=r.1:=⟨_,rfl⟩;have HP:=Hd (show KJ (z0q s x0 m) N0 mb vf vs vp (.slice ca m.d.chks.length cc) m W3 (K3 W3) (.agg #[.int .i64 e.op,.int .i64 e.w,.int .u64 e.v,.int .i64 e.sig,.int .i64 e.hi,.int .i64 e.lo,.int .i64 e.n,v7]) wa from⟨r,hr,⟨_,rfl,he▸hre⟩,hmk,hfr,hcm⟩);rw[←he] at l0 l1 l2 l3 l4 l5 l6;clear hr hmk hfr hcm hv hC hre h7 he;go_simp;refine⟨_,rfl,trivial,?_⟩;show KJ (z0q s x0 m) N0 mb vf vs vp (.slice ca m.d.chks.length cc) m W3 (K3 W3) (tau (A.put (some 114) (.agg #[.int .i64 e.op,.int .i64 e.w,.int .u64 e.v,.int .i64 e.sig,.int .i64 e.hi,.int .i64 e.lo,.int .i64 e.n,v7])) 114) wa;rw[z2r (by rw[hsz.o];exact of_decide_eq_true (by kernel_rfl))];exact HP.o
  ·refine StepI.chain 3 rfl (by kernel_rfl) (by kernel_rfl) ?_;intro A wa hsz hj hd h0;replace hsz:=Hd hsz;have q12:=z0d hd 12 105 (by kernel_rfl) rfl;simp[eqS] at q12;clear hd h0;obtain⟨r,hr,⟨c,hv,hre⟩,hmk,hfr,hcm⟩:=hj;obtain⟨v7,rfl,h7⟩:=RE9_iff.1 hre;have o7':=h7.oneCell;have r114:A.tmps.getD 114 undef=.agg #[.int .i64 r.1.op,.int .i64 r.1.w,.int .u64 r.1.v,.int .i64 r.1.sig,.int .i64 r.1.hi,.int .i64 r.1.lo,.int .i64 r.1.n,v7]:=hv;simp only[Array.getD_eq_getD_getElem?] at r114;obtain⟨e,he⟩:∃e,e=r.1:=⟨_,rfl⟩;have HP:=Hd (show KJ (z0q s x0 m) N0 mb vf vs vp (.slice ca m.d.chks.length cc) m W3 (K4 W3 (s.path++t.name)) (.agg #[.string (s.path++t.name),.int .i64 e.op,.int .i64 e.w,.int .u64 e.v,.int .i64 e.sig,.int .i64 e.hi,.int .i64 e.lo,.int .i64 e.n,v7]) wa from⟨r,hr,⟨_,rfl,he▸hre⟩,hmk,hfr,hcm⟩);rw[←he] at r114;clear hr hmk hfr hcm hv hre h7 he;go_simp;refine⟨_,rfl,trivial,?_⟩;show KJ (z0q s x0 m) N0 mb vf vs vp (.slice ca m.d.chks.length cc) m W3 (K4 W3 (s.path++t.name)) (tau (A.put (some 115) (.agg #[.string (s.path++t.name),.int .i64 e.op,.int .i64 e.w,.int .u64 e.v,.int .i64 e.sig,.int .i64 e.hi,.int .i64 e.lo,.int .i64 e.n,v7])) 115) wa;rw[z2r (by rw[hsz.o];exact of_decide_eq_true (by kernel_rfl))];exact HP.o
  ·refine StepI.chain 4 rfl (by kernel_rfl) (by kernel_rfl) ?_;intro A wa hsz hj hd h0;replace hsz:=Hd hsz;clear hd h0;obtain⟨r,hr,⟨c,hv,hre⟩,hmk,hfr,hcm⟩:=hj;obtain⟨v7,rfl,h7⟩:=RE9_iff.1 hre;have o7':=h7.oneCell;have r115:A.tmps.getD 115 undef=.agg #[.string (s.path++t.name),.int .i64 r.1.op,.int .i64 r.1.w,.int .u64 r.1.v,.int .i64 r.1.sig,.int .i64 r.1.hi,.int .i64 r.1.lo,.int .i64 r.1.n,v7]:=hv;simp only[Array.getD_eq_getD_getElem?] at r115;obtain⟨W8,hW8,hx8,hb8⟩:=q0y wa (.string (s.path++t.name)) (.int .i64 r.1.op) (.int .i64 r.1.w) (.int .u64 r.1.v) (.int .i64 r.1.sig) (.int .i64 r.1.hi) (.int .i64 r.1.lo) (.int .i64 r.1.n) v7 62;have hV8:=hW8.symm;have HP:=Hd (show KJ (z0q s x0 m) N0 mb vf vs vp (.slice ca m.d.chks.length cc) m W3 (K5 W3 (s.path++t.name)) (.slice (some ⟨wa.heap.size,0,none⟩) 1 1) W8 from⟨r,hr,⟨_,_,rfl,hb8,hre.ext hx8⟩,hmk.ext hx8,hfr.trans hx8.chg,hcm⟩);clear hr hmk hfr hcm hv hre h7 hW8 hx8 hb8;go_simp;refine⟨_,rfl,trivial,?_⟩;show KJ (z0q s x0 m) N0 mb vf vs vp (.slice ca m.d.chks.length cc) m W3 (K5 W3 (s.path++t.name)) (tau (A.put (some 116) (.slice (some ⟨wa.heap.size,0,none⟩) 1 1)) 116) W8;rw[z2r (by rw[hsz.o];exact of_decide_eq_true (by kernel_rfl))];exact HP.o
  ·refine StepI.chain 5 rfl (by kernel_rfl) (by kernel_rfl) ?_;intro A wa hsz hj hd h0;replace hsz:=Hd hsz;have q5:=z0d hd 5 98 (by kernel_rfl) rfl;simp[eqS] at q5;clear hd h0;obtain⟨r,hr,⟨g,c,hv,hb,hre⟩,hmk,hfr,hcm⟩:=hj;have r116:A.tmps.getD 116 undef=.slice (some ⟨g,0,none⟩) 1 1:=hv;have hch:=hmk.chk;rw[hcm.d] at hch;refine q3j (R:=RCk wa) (.tmp 98) (.tmp 116) 48 rfl N0 62 _ 9 96 k7p underlying48 rfl (by decide) (by decide) m.d.chks ⟨s.path++t.name,r.1⟩ (.slice ca m.d.chks.length cc) (by simpa [Act.eval] using q5) hch g 1 _ (by simpa [Act.eval] using r116) hb (by rw[List.length_cons,hre.len]) (fun u hu=>by
    rcases List.mem_cons.1 hu with rfl|hu
    ·rfl
    ·exact hre.one u hu) ⟨c,rfl,RE9.re8 _ _ hre⟩ (by have:=HCL.o;omega) (y1k hmk.base (Nat.le_of_lt hmk.blk.lt)) ?_
   intro v' w' hown hg _;refine⟨v',rfl,trivial,?_⟩;show K6 (z0q s x0 m) N0 mb vf vs vp (.slice ca m.d.chks.length cc) m W3 (s.path++t.name) (tau (A.put (some 117) v') 117) w';rw[z2r (by rw[hsz.o];exact of_decide_eq_true (by kernel_rfl))];exact⟨r,wa,hr,hmk,hfr,hcm,hg,by rw[hcm.d];exact hown⟩
  all_goals
   refine StepI.plain (S:=[19,20,21,22,23,24]) (T:=[112,113,114,115,116,117]) (I:=fun wz=>FrI N0 mb e3.w.heap.size e3.w.heap.size e3.w wz∧wz.cell? ⟨mb,3,none⟩=some (.slice ca m.d.chks.length cc)) (z5k (T:=[112,113,114,115,116,117]) (fun τ τ' w hT hj=>?_) _ ⟨fun τ τ' w hT hj=>?_,fun τ τ' w hT hj=>?_,fun τ τ' w hT hj=>?_,fun τ τ' w hT hj=>?_,fun τ τ' w hT hj=>?_,fun τ τ' w hT hj=>?_,trivial⟩) (fun L τ w h=>q2b (I:=fun wz=>FrI N0 mb e3.w.heap.size e3.w.heap.size e3.w wz∧wz.cell? ⟨mb,3,none⟩=some (.slice ca m.d.chks.length cc)) h (fun _ _ h=>by rw[←HW3.o];exact K6.frI h) ⟨fun _ _ h=>⟨.of_ext h,by simpa using((HST.o.mk_.ext e3.ext).ext h).blk.cell 3⟩,fun _ _ h=>by rw[←HW3.o];exact KJ.frI h,fun _ _ h=>by rw[←HW3.o];exact KJ.frI h,fun _ _ h=>by rw[←HW3.o];exact KJ.frI h,fun _ _ h=>by rw[←HW3.o];exact KJ.frI h,fun _ _ h=>by rw[←HW3.o];exact KJ.frI h,trivial⟩) (by decide) (by decide) ?_
   ·try simp only[hT 112 (by decide),hT 113 (by decide),hT 114 (by decide),hT 115 (by decide),hT 116 (by decide),hT 117 (by decide)]
    exact hj
   ·try simp only[hT 112 (by decide),hT 113 (by decide),hT 114 (by decide),hT 115 (by decide),hT 116 (by decide),hT 117 (by decide)]
    exact hj
   ·try simp only[hT 112 (by decide),hT 113 (by decide),hT 114 (by decide),hT 115 (by decide),hT 116 (by decide),hT 117 (by decide)]
    exact hj
   ·try simp only[hT 112 (by decide),hT 113 (by decide),hT 114 (by decide),hT 115 (by decide),hT 116 (by decide),hT 117 (by decide)]
    exact hj
   ·try simp only[hT 112 (by decide),hT 113 (by decide),hT 114 (by decide),hT 115 (by decide),hT 116 (by decide),hT 117 (by decide)]
    exact hj
   ·try simp only[hT 112 (by decide),hT 113 (by decide),hT 114 (by decide),hT 115 (by decide),hT 116 (by decide),hT 117 (by decide)]
    exact hj
   ·try simp only[hT 112 (by decide),hT 113 (by decide),hT 114 (by decide),hT 115 (by decide),hT 116 (by decide),hT 117 (by decide)]
    exact hj
   intro A wa hI hd h0;try (have q1:=z0d hd 1 94 (by decide) rfl;simp[eqS] at q1)
   try (have q2:=z0d hd 2 95 (by decide) rfl;simp[eqS] at q2)
   try (have q3:=z0d hd 3 96 (by decide) rfl;simp[eqS] at q3)
   try (have q4:=z0d hd 4 97 (by decide) rfl;simp[eqS] at q4)
   try (have q6:=z0d hd 6 99 (by decide) rfl;simp[eqS] at q6)
   try (have q7:=z0d hd 7 100 (by decide) rfl;simp[eqS] at q7)
   try (have q8:=z0d hd 8 101 (by decide) rfl;simp[eqS] at q8)
   try (have q10:=z0d hd 10 103 (by decide) rfl;simp[eqS] at q10)
   try (have q9:=z0d hd 9 102 (by decide) rfl;simp[eqS] at q9)
   try (have q11:=z0d hd 11 104 (by decide) rfl;simp[eqS] at q11)
   try (have q15:=z0d hd 15 108 (by decide) rfl;simp[eqS] at q15)
   try (have q16:=z0d hd 16 109 (by decide) rfl;simp[eqS] at q16)
   try (have q17:=z0d hd 17 110 (by decide) rfl;simp[eqS] at q17)
   have r3:=z0c h0 3 (by kernel_rfl);simp at r3;have r4:=z0c h0 4 (by kernel_rfl);simp at r4;have r5:=z0c h0 5 (by kernel_rfl);simp at r5;clear hd h0;obtain⟨hI,j3⟩:=hI;have sz3:W2.heap.size<e3.w.heap.size:=by rw[←HW3.o];omega
   have hxI:Ext W0 wa:=hI.ext (H3.o.cx.ext.trans e3.ext) (by omega) (by omega) (by omega) (by omega);obtain⟨d0,d1,d2,d3,d4,d5⟩:=(HC0.o.ext hxI).get6;have i1:=(hI.blk (BM.o.ext e3.ext) ⟨by decide,by decide,by decide⟩ (by omega) (by omega) (by omega)).cell 0;have i2:=(hI.blk (BS.o.ext e3.ext) ⟨by decide,by decide,by decide⟩ (by omega) (by omega) (by omega)).cell 0;have i3:=(hI.blk (BX.o.ext e3.ext) ⟨by decide,by decide,by decide⟩ (by omega) (by omega) (by omega)).cell 3;have i4:=(hI.blk (BX.o.ext e3.ext) ⟨by decide,by decide,by decide⟩ (by omega) (by omega) (by omega)).cell 1;have i5:=(hI.blk (HST.o.sc.blk.ext e3.ext) ⟨by decide,by decide,by decide⟩ hsm (by omega) (by omega)).cell 2;try simp only[List.getElem?_cons_succ,List.getElem?_cons_zero] at i1 i2 i3 i4 i5
   clear hI hxI sz3;go_simp;first|exact⟨_,rfl,rfl,rfl⟩|exact⟨_,rfl,rfl⟩|exact⟨rfl,rfl⟩|exact rfl
 ·intro A wa hk;obtain⟨f,rfl,hdn,hrs,hj⟩:=hk.fin (n:=154) rfl;replace hj:(fun τ w=>K6 (z0q s x0 m) N0 mb vf vs vp (.slice ca m.d.chks.length cc) m W3 (s.path++t.name) (τ 117) w) f wa:=z9r _ rfl hj;have k93:f 93=.pointer (some ⟨mb,0,none⟩):=hdn 0 93 rfl rfl;clear hdn hrs;have HK0:=Hd hj;obtain⟨ua,uc,hu⟩:∃a k,f 117=.slice a (m.d.chks.length+1) k:=by
   obtain⟨r,X,h1,h2,h3,h4,h5,h6⟩:=HK0.o;obtain⟨a,k,hv⟩:=h6.form;rw[List.length_append,h4.d] at hv;exact⟨a,k,hv⟩
  have k117:=hu;replace hj:K6 (z0q s x0 m) N0 mb vf vs vp (.slice ca m.d.chks.length cc) m W3 (s.path++t.name) (f 117) wa:=hj;rw[hu] at hj;have HK:=Hd hj;clear hu hj HK0;simp only[List.drop_succ_cons,List.drop_zero];simp[List.range,List.range.loop,k93,k117];clear k93 k117;have y3:=(HK.o.frI (n:=0)).2;have hbm:∃cs,Blk wa mb 99 cs:=by
   obtain⟨r,X,h1,h2,h3,h4,h5,h6⟩:=HK.o;exact⟨_,(h5.block mb h2.blk.lt (fun e=>absurd ((h2.chk.tag e.symm).2.one h2.blk.tag) (by decide))).trans h2.blk⟩
  obtain⟨cs,hbm⟩:=hbm;have z3:=hbm.frozen 3;obtain⟨W9,hW9⟩:∃W9,W9=wa.setCell ⟨mb,3,none⟩ (.slice ua (m.d.chks.length+1) uc):=⟨_,rfl⟩;have hV9:=hW9.symm;have HE9:=Hd (H.o.check X3.o HK.o hck);rw[←hW9] at HE9;clear hW9 hbm;go_wp2_with fail
  obtain⟨r,h1,h2,h3⟩:=HE9.o;refine bodyPost_ret (v:=z1w) ?_ rfl (.ok (by rw[HD.o,h1];rfl) ⟨rfl,h2,h3,Nat.le_add_right _ _,rfl⟩);simp[results,results76,go_sem,z1w]
end Go.Proofs.YtlfmlodanoolhaaGreatDoor
namespace Go.Proofs.YtlfmlodanoolhaaGreatDoor
open Go Go.RowKit Go.ChangeShapes Go.WideShapes Go.Proofs.Tryz
theorem gPow : Tryz.prog.globalNamed "internal/strconv.uint64pow10" = some 2 := by kernel_rfl
theorem gPowT:(Tryz.prog.globals[2]?).map (·.type)=some 266:=by kernel_rfl
theorem k2t{H:Type}:(Rows.laid_internal_strconv_uint64pow10:DataW H)=Lib.tabData .u64 Lib.pow10Tab:=rfl
theorem y1a:Tryz.prog.cellsOf 266=20:=by kernel_rfl
theorem y0x:Tryz.prog.cellsOf 38=1:=by kernel_rfl
theorem k2j {W : World} (h : laidMetH Tryz.prog [("math/bits.deBruijn32tab", Rows.laid_math_bits_deBruijn32tab), ("math/bits.deBruijn64tab", Rows.laid_math_bits_deBruijn64tab), ("internal/strconv.uint64pow10", Rows.laid_internal_strconv_uint64pow10), ("filigree/ast.kinds", Rows.laid_filigree_ast_kinds), ("filigree/ast.shapes", Rows.laid_filigree_ast_shapes)] W) (hs : W.ShapedOpen Tryz.prog) : Tabs W ∧ TabP W := by
 have h' : laidMet Tryz.prog [("math/bits.deBruijn32tab", Rows.laid_math_bits_deBruijn32tab), ("math/bits.deBruijn64tab", Rows.laid_math_bits_deBruijn64tab), ("internal/strconv.uint64pow10", Rows.laid_internal_strconv_uint64pow10), ("filigree/ast.kinds", Rows.laid_filigree_ast_kinds), ("filigree/ast.shapes", Rows.laid_filigree_ast_shapes)] W := h
 obtain⟨ps,⟨-,-,-,-,-,-,-,-,-,-,⟨-,-,-,-,-,-,-,-,-,-,⟨g2,t2,cs2,f2,p2,q2,hg2,ht2,hv2,hr2,⟨g0,t0,cs0,f0,p0,q0,hg0,ht0,hv0,hr0,⟨g1,t1,cs1,f1,p1,q1,hg1,ht1,hv1,hr1,-,-⟩,-⟩,-⟩,-⟩,-⟩,-,-⟩:=h';obtain rfl:=Option.some.inj (gKinds.symm.trans hg0);obtain rfl:=Option.some.inj (gKindsT.symm.trans ht0);obtain rfl:=Option.some.inj (gShapes.symm.trans hg1);obtain rfl:=Option.some.inj (gShapesT.symm.trans ht1);obtain rfl:=Option.some.inj (gPow.symm.trans hg2);obtain rfl:=Option.some.inj (gPowT.symm.trans ht2);rw[j5n] at hr0;rw[j1e] at hr1;rw[k2t] at hr2
 refine⟨⟨k3t hs,
  fun i r hr=>q0u (World.var?_cell gKinds hv0) (q9k underlying249 k5y (fun _ _ _ _=>k4f) hr0 i r hr),
  fun i r hr=>q0u (World.var?_cell gShapes hv1) (q9k underlying222 k1k (fun _ _ _ _=>k0l) hr1 i r hr)⟩,?_⟩
 unfold TabP Lib.TabIs;rw[hv2,←Lib.cells_of_tab underlying266 underlying38 y0x y1a hr2]
def k2u:Array Value:=(Lib.pow10Tab.map fun z=>Value.int .u64 z).toArray
def j3l{H:Type}:DataW H→List Value
 |.agg l=>l.filterMap fun d=>match d with|.lit (.int k z)=>some (.int k z)|_=>none
 |_=>[]
noncomputable def q1r(os:Os):World:=
 {World.holding Tryz.prog os ⟨#[],#[],[]⟩ with heap:=(((((World.holding Tryz.prog os ⟨#[],#[],[]⟩).heap.modify 3 (q8x (j3l (Rows.laid_math_bits_deBruijn32tab:DataW Unit)).toArray)).modify 4 (q8x (j3l (Rows.laid_math_bits_deBruijn64tab:DataW Unit)).toArray)).modify 2 (q8x k2u)).modify 1 (q8x j9k)).modify 0 (q8x j4x)}
theorem j9g (os : Os) (args : Array Value) : laidMet Tryz.prog [("math/bits.deBruijn32tab", Rows.laid_math_bits_deBruijn32tab), ("math/bits.deBruijn64tab", Rows.laid_math_bits_deBruijn64tab), ("internal/strconv.uint64pow10", Rows.laid_internal_strconv_uint64pow10), ("filigree/ast.kinds", Rows.laid_filigree_ast_kinds), ("filigree/ast.shapes", Rows.laid_filigree_ast_shapes)] ((q1r os).forCall (fun _ _ => 0) ⟨#[], args, []⟩).memory :=
 laidMet_of_run' 8 (by kernel_rfl) (by kernel_rfl)
end Go.Proofs.YtlfmlodanoolhaaGreatDoor
